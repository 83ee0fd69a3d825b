/- The program's functions in the evaluator's form, part 1. -/
import Derived.Test.YtikafojlhinonaaRows
import Derived.Test.YtikafojlhinonaaE27
set_option linter.unusedVariables false
set_option maxRecDepth 100000
namespace Go.Proofs.Ytikafojlhinonaa
open Go.Ev
noncomputable section
noncomputable def rf60 : RF := ⟨[.h, (.l .h)], [.s (.r (.l .h)), .s (.l (.r .h))], (.seq (.reg [.p (.r (.l .h)) none (.mv (.c (.a .s0))),
  .p (.l (.r .h)) none (.mv (.c (.a (.i .i64 (.n (nat_lit 0))))))])
 (.seq (.reg [.p (.r (.r .h)) none (.mv (.c (.a .s0)))])
 (.seq (.seq (.reg [.p (.l (.l (.r .h))) none (.mv (.s (.l .h))),
  .p (.r (.l (.r .h))) none (.ln (.s (.l (.l (.r .h))))),
  .p (.l (.r (.r .h))) none (.mv (.c (.a (.i .i64 (.n (nat_lit 0))))))])
 (.blk (nat_lit 0) (.loop (.seq (.reg [.p (.r (.r (.r .h))) none (.cp .lss (.s (.l (.r (.r .h)))) (.s (.r (.l (.r .h)))))])
 (.seq (.cond (.s (.r (.r (.r .h)))) .skip (.ex (nat_lit 0)))
 (.seq (.blk (nat_lit 1) (.seq (.reg [.p (.l (.l (.l (.l .h)))) none (.ix (nat_lit 13) (.s (.l (.l (.r .h)))) (.s (.l (.r (.r .h))))),
  .r (.r (.l (.l (.l .h)))) none (.lg (nat_lit 13) (.s (.l (.l (.l (.l .h)))))),
  .a (.r (.l (.l .h))) none (.al (nat_lit 114) (nat_lit 13) (.n (.n (.n (.n .e .s0 .e) (.t (nat_lit 1)) (.n .e .s0 .e)) (.i .i64 (.n (nat_lit 0))) (.n (.n .e (.i .i64 (.n (nat_lit 0))) .e) (.i .i64 (.n (nat_lit 0))) .e)) (.i .i64 (.n (nat_lit 0))) (.n (.n (.n .e (.t (nat_lit 1)) .e) (.t (nat_lit 1)) (.n .e .s0 .e)) (.i .i64 (.n (nat_lit 0))) (.n (.n .e .s0 .e) (.i .i64 (.n (nat_lit 0))) .e)))),
  .c none none (.st (nat_lit 13) (.s (.r (.l (.l .h)))) (.s (.r (.l (.l (.l .h))))))])
 (.seq (.reg [.p (.r (.r (.l (.l .h)))) none (.mv (.s .h)),
  .r (.l (.l (.r (.l .h)))) none (.lg (nat_lit 13) (.s (.r (.l (.l .h))))),
  .k (some (.r (.l (.r (.l .h))))) none (nat_lit 73) (.l (.r (.l (.r (.l (.l .h)))))) [(.s (.r (.r (.l (.l .h))))), (.s (.l (.l (.r (.l .h)))))],
  .p (.l (.r (.l (.l .h)))) none (.mv (.s (.r (.l (.r (.l .h)))))),
  .p (.l (.r (.r (.l .h)))) none (.ex (nat_lit 0) (.s (.l (.r (.l (.l .h)))))),
  .p (.r (.r (.r (.l .h)))) none (.ex (nat_lit 1) (.s (.l (.r (.l (.l .h)))))),
  .a (.l (.r (.l .h))) none (.al (nat_lit 114) (nat_lit 13) (.n (.n (.n (.n .e .s0 .e) (.t (nat_lit 1)) (.n .e .s0 .e)) (.i .i64 (.n (nat_lit 0))) (.n (.n .e (.i .i64 (.n (nat_lit 0))) .e) (.i .i64 (.n (nat_lit 0))) .e)) (.i .i64 (.n (nat_lit 0))) (.n (.n (.n .e (.t (nat_lit 1)) .e) (.t (nat_lit 1)) (.n .e .s0 .e)) (.i .i64 (.n (nat_lit 0))) (.n (.n .e .s0 .e) (.i .i64 (.n (nat_lit 0))) .e)))),
  .c none none (.st (nat_lit 13) (.s (.l (.r (.l .h)))) (.s (.l (.r (.r (.l .h)))))),
  .p (.r (.r (.l .h))) none (.mv (.s (.r (.r (.r (.l .h))))))])
 (.seq (.seq (.reg [.p (.l (.l (.l (.r .h)))) none (.mv (.s (.r (.r (.l .h))))),
  .p (.r (.l (.l (.r .h)))) none (.cp .neq (.s (.l (.l (.l (.r .h))))) (.c (.a (.i .i64 (.n (nat_lit 0))))))])
 (.cond (.s (.r (.l (.l (.r .h))))) (.seq (.reg [.p (.l (.r (.l (.r .h)))) none (.mv (.s (.r (.r (.l .h))))),
  .p (.r (.l .h)) none (.mv (.c (.a .s0))),
  .p (.l (.r .h)) none (.mv (.s (.l (.r (.l (.r .h))))))])
 .rt) .skip))
 (.reg [.p (.r (.r (.l (.r .h)))) none (.mv (.s (.r (.r .h)))),
  .r (.l (.l (.r (.r .h)))) none (.lg (nat_lit 13) (.s (.l (.r (.l .h))))),
  .a (.r (.l (.r (.r .h)))) none (.bs (nat_lit 114) (nat_lit 1) [(.i .i64 (.n (nat_lit 0))), (.i .i64 (.n (nat_lit 0))), (.i .i64 (.n (nat_lit 0))), (.t (nat_lit 1)), (.t (nat_lit 1)), (.i .i64 (.n (nat_lit 0))), (.i .i64 (.n (nat_lit 0))), .s0, (.t (nat_lit 1)), (.i .i64 (.n (nat_lit 0))), .s0, .s0, .s0] [((nat_lit 0), (nat_lit 13), (.s (.l (.l (.r (.r .h))))))]),
  .c (some (.l (.r (.r (.r .h))))) none (.ap (nat_lit 114) (nat_lit 13) (nat_lit 192) (.s (.r (.r (.l (.r .h))))) (.s (.r (.l (.r (.r .h)))))),
  .p (.r (.r .h)) none (.mv (.s (.l (.r (.r (.r .h))))))])))))
 (.reg [.p (.r (.r (.r (.r .h)))) none (.ar .add (.s (.l (.r (.r .h)))) (.c (.a (.i .i64 (.n (nat_lit 1)))))),
  .p (.l (.r (.r .h))) none (.mv (.s (.r (.r (.r (.r .h))))))])))))))
 (.seq (.reg [.p (.l (.l (.l (.l (.l .h))))) none (.mv (.s (.r (.r .h)))),
  .p (.r (.l .h)) none (.mv (.s (.l (.l (.l (.l (.l .h))))))),
  .p (.l (.r .h)) none (.mv (.c (.a (.i .i64 (.n (nat_lit 0))))))])
 .rt)))), false, false⟩
noncomputable def rf61 : RF := ⟨[.h, (.l .h)], [], (.seq (.seq (.reg [.p (.r (.r .h)) none (.mv (.s .h)),
  .p (.l (.l (.l .h))) none (.nc (.s (.r (.r .h)))),
  .p (.r (.l (.l .h))) none (.fa (nat_lit 8) (.s (.l (.l (.l .h))))),
  .r (.l (.r (.l .h))) none (.ld (.s (.r (.l (.l .h))))),
  .p (.r (.r (.l .h))) none (.mv (.s (.l .h))),
  .p (.l (.l (.r .h))) none (.s2 (nat_lit 1) (.s (.l (.r (.l .h)))) (.s (.r (.r (.l .h)))) none),
  .p (.r (.l (.r .h))) none (.ln (.s (.l (.l (.r .h))))),
  .p (.l (.r (.r .h))) none (.mv (.c (.a (.i .i64 (.n (nat_lit 0))))))])
 (.blk (nat_lit 0) (.loop (.seq (.reg [.p (.r (.r (.r .h))) none (.cp .lss (.s (.l (.r (.r .h)))) (.s (.r (.l (.r .h)))))])
 (.seq (.cond (.s (.r (.r (.r .h)))) .skip (.ex (nat_lit 0)))
 (.seq (.blk (nat_lit 1) (.seq (.reg [.p (.l (.l (.l (.l .h)))) none (.ix (nat_lit 1) (.s (.l (.l (.r .h)))) (.s (.l (.r (.r .h))))),
  .r (.r (.l (.l (.l .h)))) none (.ld (.s (.l (.l (.l (.l .h)))))),
  .p (.l (.r .h)) none (.mv (.s (.r (.l (.l (.l .h))))))])
 (.drw [⟨.p (.l (.r (.l (.l .h)))) none (.mv (.s .h)), (nat_lit 0), [], []⟩,
  ⟨.p (.r (.r (.l (.l .h)))) none (.nc (.s (.l (.r (.l (.l .h)))))), (nat_lit 1), [(nat_lit 0)], []⟩,
  ⟨.p (.l (.l (.r (.l .h)))) none (.fa (nat_lit 7) (.s (.r (.r (.l (.l .h)))))), (nat_lit 2), [(nat_lit 0), (nat_lit 1)], []⟩,
  ⟨.r (.r (.l (.r (.l .h)))) none (.ld (.s (.l (.l (.r (.l .h)))))), (nat_lit 3), [(nat_lit 0), (nat_lit 1), (nat_lit 2)], []⟩,
  ⟨.p (.l (.r (.r (.l .h)))) none (.mv (.s (.l (.r .h)))), (nat_lit 4), [], []⟩,
  ⟨.p (.r (.r (.r (.l .h)))) none (.mv (.s .h)), (nat_lit 5), [], []⟩,
  ⟨.p (.l (.l (.l (.r .h)))) none (.nc (.s (.r (.r (.r (.l .h)))))), (nat_lit 6), [(nat_lit 5)], []⟩,
  ⟨.p (.r (.l (.l (.r .h)))) none (.fa (nat_lit 2) (.s (.l (.l (.l (.r .h)))))), (nat_lit 7), [(nat_lit 5), (nat_lit 6)], []⟩,
  ⟨.p (.l (.r (.l (.r .h)))) none (.fa (nat_lit 3) (.s (.r (.l (.l (.r .h)))))), (nat_lit 8), [(nat_lit 5), (nat_lit 6), (nat_lit 7)], []⟩,
  ⟨.r (.r (.r (.l (.r .h)))) none (.ld (.s (.l (.r (.l (.r .h)))))), (nat_lit 9), [(nat_lit 5), (nat_lit 6), (nat_lit 7), (nat_lit 8)], []⟩,
  ⟨.p (.l (.l (.r (.r .h)))) none (.ln (.s (.r (.r (.l (.r .h)))))), (nat_lit 10), [(nat_lit 5), (nat_lit 6), (nat_lit 7), (nat_lit 8), (nat_lit 9)], []⟩,
  ⟨.p (.r (.l (.r (.r .h)))) none (.ar .sub (.s (.l (.l (.r (.r .h))))) (.c (.a (.i .i64 (.n (nat_lit 1)))))), (nat_lit 11), [(nat_lit 5), (nat_lit 6), (nat_lit 7), (nat_lit 8), (nat_lit 9), (nat_lit 10)], []⟩,
  ⟨.p (.l (.r (.r (.r .h)))) none (.ix (nat_lit 7) (.s (.r (.l (.r (.l .h))))) (.s (.l (.r (.r (.l .h)))))), (nat_lit 12), [(nat_lit 0), (nat_lit 1), (nat_lit 2), (nat_lit 3), (nat_lit 4), (nat_lit 5), (nat_lit 6), (nat_lit 7), (nat_lit 8), (nat_lit 9), (nat_lit 10), (nat_lit 11)], []⟩,
  ⟨.p (.r (.r (.r (.r .h)))) none (.fa (nat_lit 6) (.s (.l (.r (.r (.r .h)))))), (nat_lit 13), [(nat_lit 0), (nat_lit 1), (nat_lit 2), (nat_lit 3), (nat_lit 4), (nat_lit 5), (nat_lit 6), (nat_lit 7), (nat_lit 8), (nat_lit 9), (nat_lit 10), (nat_lit 11), (nat_lit 12)], []⟩,
  ⟨.c none none (.st (nat_lit 1) (.s (.r (.r (.r (.r .h))))) (.s (.r (.l (.r (.r .h)))))), (nat_lit 14), [(nat_lit 0), (nat_lit 1), (nat_lit 2), (nat_lit 3), (nat_lit 4), (nat_lit 5), (nat_lit 6), (nat_lit 7), (nat_lit 8), (nat_lit 9), (nat_lit 10), (nat_lit 11), (nat_lit 12), (nat_lit 13)], []⟩])))
 (.reg [.p (.l (.l (.l (.l (.l .h))))) none (.ar .add (.s (.l (.r (.r .h)))) (.c (.a (.i .i64 (.n (nat_lit 1)))))),
  .p (.l (.r (.r .h))) none (.mv (.s (.l (.l (.l (.l (.l .h)))))))])))))))
 (.reg [.p (.r (.l (.l (.l (.l .h))))) none (.mv (.s .h)),
  .p (.l (.r (.l (.l (.l .h))))) none (.mv (.s .h)),
  .p (.r (.r (.l (.l (.l .h))))) none (.nc (.s (.l (.r (.l (.l (.l .h))))))),
  .p (.l (.l (.r (.l (.l .h))))) none (.fa (nat_lit 8) (.s (.r (.r (.l (.l (.l .h))))))),
  .r (.r (.l (.r (.l (.l .h))))) none (.ld (.s (.l (.l (.r (.l (.l .h))))))),
  .p (.l (.r (.r (.l (.l .h))))) none (.mv (.s (.l .h))),
  .p (.r (.r (.r (.l (.l .h))))) none (.sl (.s (.r (.l (.r (.l (.l .h)))))) (.s (.l (.r (.r (.l (.l .h))))))),
  .p (.l (.l (.l (.r (.l .h))))) none (.nc (.s (.r (.l (.l (.l (.l .h))))))),
  .p (.r (.l (.l (.r (.l .h))))) none (.fa (nat_lit 8) (.s (.l (.l (.l (.r (.l .h))))))),
  .c none none (.st (nat_lit 1) (.s (.r (.l (.l (.r (.l .h)))))) (.s (.r (.r (.r (.l (.l .h)))))))])), false, false⟩
noncomputable def rf69 : RF := ⟨[.h, (.l .h)], [], (.seq (.seq (.reg [.p (.r (.l .h)) none (.mv (.s .h)),
  .p (.l (.r .h)) none (.nc (.s (.r (.l .h)))),
  .p (.r (.r .h)) none (.fa (nat_lit 3) (.s (.l (.r .h)))),
  .r (.l (.l (.l .h))) none (.ld (.s (.r (.r .h)))),
  .p (.r (.l (.l .h))) none (.cp .neq (.s (.l (.l (.l .h)))) (.c (.a (.i .i64 (.n (nat_lit 0))))))])
 (.cond (.s (.r (.l (.l .h)))) .rt .skip))
 (.seq (.seq (.reg [.p (.l (.r (.l .h))) none (.mv (.s .h)),
  .k (some (.r (.r (.l .h)))) none (nat_lit 29) (.l (.r (.r (.r .h)))) [(.s (.l (.r (.l .h)))), (.c (.a (.i .i64 (.n (nat_lit 0))))), (.c (.a (.t (nat_lit 24407657))))],
  .p (.l (.l (.r .h))) none (.nt (.s (.r (.r (.l .h)))))])
 (.cond (.s (.l (.l (.r .h)))) (.seq (.reg [.p (.r (.l (.r .h))) none (.mv (.s (.l .h))),
  .p (.l (.r (.r .h))) none (.mv (.s .h)),
  .k (some (.r (.r (.r .h)))) none (nat_lit 30) (.r (.r (.r (.r .h)))) [(.s (.l (.r (.r .h))))],
  .p (.l (.l (.l (.l .h)))) none (.nc (.s (.r (.l (.r .h))))),
  .p (.r (.l (.l (.l .h)))) none (.fa (nat_lit 4) (.s (.l (.l (.l (.l .h)))))),
  .c none none (.st (nat_lit 1) (.s (.r (.l (.l (.l .h))))) (.s (.r (.r (.r .h)))))])
 .rt) .skip))
 (.seq (.reg [.p (.l (.r (.l (.l .h)))) none (.mv (.s .h)),
  .p (.r (.r (.l (.l .h)))) none (.nc (.s (.l (.r (.l (.l .h)))))),
  .p (.l (.l (.r (.l .h)))) none (.fa (nat_lit 1) (.s (.r (.r (.l (.l .h)))))),
  .r (.r (.l (.r (.l .h)))) none (.ld (.s (.l (.l (.r (.l .h)))))),
  .p (.l (.r (.r (.l .h)))) none (.ar .add (.s (.r (.l (.r (.l .h))))) (.c (.a (.i .i64 (.n (nat_lit 1)))))),
  .p (.r (.r (.r (.l .h)))) none (.nc (.s (.l (.r (.l (.l .h)))))),
  .p (.l (.l (.l (.r .h)))) none (.fa (nat_lit 1) (.s (.r (.r (.r (.l .h)))))),
  .c none none (.st (nat_lit 1) (.s (.l (.l (.l (.r .h))))) (.s (.l (.r (.r (.l .h))))))])
 (.seq (.seq (.reg [.p (.r (.l (.l (.r .h)))) none (.mv (.s .h)),
  .k (some (.l (.r (.l (.r .h))))) none (nat_lit 29) (.l (.r (.r (.r .h)))) [(.s (.r (.l (.l (.r .h))))), (.c (.a (.i .i64 (.n (nat_lit 0))))), (.c (.a (.t (nat_lit 347))))],
  .p (.r (.r (.l (.r .h)))) none (.nt (.s (.l (.r (.l (.r .h))))))])
 (.cond (.s (.r (.r (.l (.r .h))))) .rt .skip))
 (.seq (.reg [.p (.l (.l (.r (.r .h)))) none (.mv (.s .h)),
  .p (.r (.l (.r (.r .h)))) none (.nc (.s (.l (.l (.r (.r .h)))))),
  .p (.l (.r (.r (.r .h)))) none (.fa (nat_lit 1) (.s (.r (.l (.r (.r .h)))))),
  .r (.r (.r (.r (.r .h)))) none (.ld (.s (.l (.r (.r (.r .h)))))),
  .p (.l (.l (.l (.l (.l .h))))) none (.ar .add (.s (.r (.r (.r (.r .h))))) (.c (.a (.i .i64 (.n (nat_lit 1)))))),
  .p (.r (.l (.l (.l (.l .h))))) none (.nc (.s (.l (.l (.r (.r .h)))))),
  .p (.l (.r (.l (.l (.l .h))))) none (.fa (nat_lit 1) (.s (.r (.l (.l (.l (.l .h))))))),
  .c none none (.st (nat_lit 1) (.s (.l (.r (.l (.l (.l .h)))))) (.s (.l (.l (.l (.l (.l .h)))))))])
 (.seq (.seq (.reg [.p (.r (.r (.l (.l (.l .h))))) none (.mv (.s .h)),
  .k (some (.l (.l (.r (.l (.l .h)))))) none (nat_lit 34) (.r (.r (.l (.l (.l .h))))) [(.s (.r (.r (.l (.l (.l .h)))))), (.c (.a (.i .i64 (.n (nat_lit 0))))), (.c (.a (.i .i64 (.n (nat_lit 2)))))],
  .p (.r (.l (.r (.l (.l .h))))) none (.nt (.s (.l (.l (.r (.l (.l .h)))))))])
 (.cond (.s (.r (.l (.r (.l (.l .h)))))) (.seq (.reg [.p (.l (.r (.r (.l (.l .h))))) none (.mv (.s .h)),
  .k (some (.r (.r (.r (.l (.l .h)))))) none (nat_lit 35) (.l (.l (.r (.l (.l .h))))) [(.s (.l (.r (.r (.l (.l .h)))))), (.c (.a (.i .i64 (.n (nat_lit 7)))))]])
 .rt) .skip))
 (.seq (.drw [⟨.p (.l (.l (.l (.r (.l .h))))) none (.mv (.s (.l .h))), (nat_lit 0), [], []⟩,
  ⟨.p (.r (.l (.l (.r (.l .h))))) none (.mv (.s .h)), (nat_lit 1), [], []⟩,
  ⟨.p (.l (.r (.l (.r (.l .h))))) none (.nc (.s (.r (.l (.l (.r (.l .h))))))), (nat_lit 2), [(nat_lit 1)], []⟩,
  ⟨.p (.r (.r (.l (.r (.l .h))))) none (.fa (nat_lit 0) (.s (.l (.r (.l (.r (.l .h))))))), (nat_lit 3), [(nat_lit 1), (nat_lit 2)], []⟩,
  ⟨.r (.l (.l (.r (.r (.l .h))))) none (.ld (.s (.r (.r (.l (.r (.l .h))))))), (nat_lit 4), [(nat_lit 1), (nat_lit 2), (nat_lit 3)], []⟩,
  ⟨.p (.r (.l (.r (.r (.l .h))))) none (.mv (.s .h)), (nat_lit 5), [], []⟩,
  ⟨.p (.l (.r (.r (.r (.l .h))))) none (.nc (.s (.r (.l (.r (.r (.l .h))))))), (nat_lit 6), [(nat_lit 5)], []⟩,
  ⟨.p (.r (.r (.r (.r (.l .h))))) none (.fa (nat_lit 1) (.s (.l (.r (.r (.r (.l .h))))))), (nat_lit 7), [(nat_lit 5), (nat_lit 6)], []⟩,
  ⟨.r (.l (.l (.l (.l (.r .h))))) none (.ld (.s (.r (.r (.r (.r (.l .h))))))), (nat_lit 8), [(nat_lit 5), (nat_lit 6), (nat_lit 7)], []⟩,
  ⟨.p (.r (.l (.l (.l (.r .h))))) none (.ix (nat_lit 4) (.s (.l (.l (.r (.r (.l .h)))))) (.s (.l (.l (.l (.l (.r .h))))))), (nat_lit 9), [(nat_lit 1), (nat_lit 2), (nat_lit 3), (nat_lit 4), (nat_lit 5), (nat_lit 6), (nat_lit 7), (nat_lit 8)], []⟩,
  ⟨.p (.l (.r (.l (.l (.r .h))))) none (.fa (nat_lit 3) (.s (.r (.l (.l (.l (.r .h))))))), (nat_lit 10), [(nat_lit 1), (nat_lit 2), (nat_lit 3), (nat_lit 4), (nat_lit 5), (nat_lit 6), (nat_lit 7), (nat_lit 8), (nat_lit 9)], []⟩,
  ⟨.r (.r (.r (.l (.l (.r .h))))) none (.ld (.s (.l (.r (.l (.l (.r .h))))))), (nat_lit 11), [(nat_lit 1), (nat_lit 2), (nat_lit 3), (nat_lit 4), (nat_lit 5), (nat_lit 6), (nat_lit 7), (nat_lit 8), (nat_lit 9), (nat_lit 10)], []⟩,
  ⟨.p (.l (.l (.r (.l (.r .h))))) none (.nc (.s (.l (.l (.l (.r (.l .h))))))), (nat_lit 12), [(nat_lit 0), (nat_lit 1), (nat_lit 2), (nat_lit 3), (nat_lit 4), (nat_lit 5), (nat_lit 6), (nat_lit 7), (nat_lit 8), (nat_lit 9), (nat_lit 10), (nat_lit 11)], []⟩,
  ⟨.p (.r (.l (.r (.l (.r .h))))) none (.fa (nat_lit 5) (.s (.l (.l (.r (.l (.r .h))))))), (nat_lit 13), [(nat_lit 0), (nat_lit 1), (nat_lit 2), (nat_lit 3), (nat_lit 4), (nat_lit 5), (nat_lit 6), (nat_lit 7), (nat_lit 8), (nat_lit 9), (nat_lit 10), (nat_lit 11), (nat_lit 12)], []⟩,
  ⟨.c none none (.st (nat_lit 1) (.s (.r (.l (.r (.l (.r .h)))))) (.s (.r (.r (.l (.l (.r .h))))))), (nat_lit 14), [(nat_lit 0), (nat_lit 1), (nat_lit 2), (nat_lit 3), (nat_lit 4), (nat_lit 5), (nat_lit 6), (nat_lit 7), (nat_lit 8), (nat_lit 9), (nat_lit 10), (nat_lit 11), (nat_lit 12), (nat_lit 13)], []⟩])
 (.seq (.seq (.reg [.p (.l (.r (.r (.l (.r .h))))) none (.mv (.s (.l .h))),
  .p (.r (.r (.r (.l (.r .h))))) none (.nc (.s (.l (.r (.r (.l (.r .h))))))),
  .p (.l (.l (.l (.r (.r .h))))) none (.fa (nat_lit 5) (.s (.r (.r (.r (.l (.r .h))))))),
  .r (.r (.l (.l (.r (.r .h))))) none (.ld (.s (.l (.l (.l (.r (.r .h))))))),
  .p (.l (.r (.l (.r (.r .h))))) none (.cp .lss (.s (.r (.l (.l (.r (.r .h)))))) (.c (.a (.i .i64 (.n (nat_lit 1)))))),
  .p (.r (.r (.l (.r (.r .h))))) none (.mv (.s (.l (.r (.l (.r (.r .h))))))),
  .p (.l (.l (.r (.r (.r .h))))) (some ((.r (.r (.l (.r (.r .h))))), false)) (.mv (.s (.l .h))),
  .p (.r (.l (.r (.r (.r .h))))) (some ((.r (.r (.l (.r (.r .h))))), false)) (.nc (.s (.l (.l (.r (.r (.r .h))))))),
  .p (.l (.r (.r (.r (.r .h))))) (some ((.r (.r (.l (.r (.r .h))))), false)) (.fa (nat_lit 5) (.s (.r (.l (.r (.r (.r .h))))))),
  .r (.r (.r (.r (.r (.r .h))))) (some ((.r (.r (.l (.r (.r .h))))), false)) (.ld (.s (.l (.r (.r (.r (.r .h))))))),
  .p (.l (.l (.l (.l (.l (.l .h)))))) (some ((.r (.r (.l (.r (.r .h))))), false)) (.cp .gtr (.s (.r (.r (.r (.r (.r .h)))))) (.c (.a (.i .i64 (.n (nat_lit 8)))))),
  .p (.r (.l (.l (.l (.l (.l .h)))))) none (.pk (.s (.r (.r (.l (.r (.r .h)))))) (.c (.a (.b true))) (.s (.l (.l (.l (.l (.l (.l .h))))))))])
 (.cond (.s (.r (.l (.l (.l (.l (.l .h))))))) (.seq (.reg [.p (.l (.r (.l (.l (.l (.l .h)))))) none (.mv (.s .h)),
  .k (some (.r (.r (.l (.l (.l (.l .h))))))) none (nat_lit 35) (.l (.l (.r (.l (.l .h))))) [(.s (.l (.r (.l (.l (.l (.l .h))))))), (.c (.a (.i .i64 (.n (nat_lit 5)))))]])
 .rt) .skip))
 (.seq (.reg [.p (.l (.l (.r (.l (.l (.l .h)))))) none (.mv (.s .h)),
  .p (.r (.l (.r (.l (.l (.l .h)))))) none (.nc (.s (.l (.l (.r (.l (.l (.l .h)))))))),
  .p (.l (.r (.r (.l (.l (.l .h)))))) none (.fa (nat_lit 1) (.s (.r (.l (.r (.l (.l (.l .h)))))))),
  .r (.r (.r (.r (.l (.l (.l .h)))))) none (.ld (.s (.l (.r (.r (.l (.l (.l .h)))))))),
  .p (.l (.l (.l (.r (.l (.l .h)))))) none (.ar .add (.s (.r (.r (.r (.l (.l (.l .h))))))) (.c (.a (.i .i64 (.n (nat_lit 1)))))),
  .p (.r (.l (.l (.r (.l (.l .h)))))) none (.nc (.s (.l (.l (.r (.l (.l (.l .h)))))))),
  .p (.l (.r (.l (.r (.l (.l .h)))))) none (.fa (nat_lit 1) (.s (.r (.l (.l (.r (.l (.l .h)))))))),
  .c none none (.st (nat_lit 1) (.s (.l (.r (.l (.r (.l (.l .h))))))) (.s (.l (.l (.l (.r (.l (.l .h))))))))])
 (.reg [.p (.r (.r (.l (.r (.l (.l .h)))))) none (.mv (.s .h)),
  .k (some (.l (.l (.r (.r (.l (.l .h))))))) none (nat_lit 31) (.l (.l (.l (.l (.l .h))))) [(.s (.r (.r (.l (.r (.l (.l .h))))))), (.c (.a (.t (nat_lit 349))))]])))))))))), false, false⟩
noncomputable def rf70 : RF := ⟨[.h, (.l .h), (.r .h)], [.g (.r (.r .h)) (nat_lit 6)], (.seq (.reg [.a (.r (.r .h)) none (.al (nat_lit 168) (nat_lit 6) (.n (.n (.n .e (.t (nat_lit 1)) .e) (.i .i64 (.n (nat_lit 0))) (.n .e .s0 .e)) (.i .i64 (.n (nat_lit 0))) (.n (.n .e (.t (nat_lit 1)) .e) (.i .i64 (.n (nat_lit 0))) .e)))])
 (.seq (.reg [.a (.l (.l (.l .h))) none (.al (nat_lit 168) (nat_lit 6) (.n (.n (.n .e (.t (nat_lit 1)) .e) (.i .i64 (.n (nat_lit 0))) (.n .e .s0 .e)) (.i .i64 (.n (nat_lit 0))) (.n (.n .e (.t (nat_lit 1)) .e) (.i .i64 (.n (nat_lit 0))) .e)))])
 (.seq (.seq (.reg [.p (.l (.l (.r .h))) none (.mv (.s (.l .h))),
  .p (.r (.l (.r .h))) none (.cp .eql (.s (.l (.l (.r .h)))) (.c (.a (.i .i64 (.n (nat_lit 5))))))])
 (.cond (.s (.r (.l (.r .h)))) (.reg [.p (.l (.r (.r .h))) none (.mv (.s .h)),
  .p (.r (.r (.r .h))) none (.mv (.s (.r .h))),
  .k (some (.l (.l (.l (.l .h))))) none (nat_lit 79) (.l (.l (.l (.l (.r (.l .h)))))) [(.s (.l (.r (.r .h)))), (.s (.r (.r (.r .h))))],
  .c none none (.st (nat_lit 6) (.s (.l (.l (.l .h)))) (.s (.l (.l (.l (.l .h))))))]) (.reg [.p (.r (.l (.l (.l .h)))) none (.mv (.s .h)),
  .p (.l (.r (.l (.l .h)))) none (.mv (.s (.l .h))),
  .p (.r (.r (.l (.l .h)))) none (.ar .add (.s (.l (.r (.l (.l .h))))) (.c (.a (.i .i64 (.n (nat_lit 1)))))),
  .p (.l (.l (.r (.l .h)))) none (.mv (.s (.r .h))),
  .k (some (.r (.l (.r (.l .h))))) none (nat_lit 70) (.r (.r (.r (.l (.l (.l .h)))))) [(.s (.r (.l (.l (.l .h))))), (.s (.r (.r (.l (.l .h))))), (.s (.l (.l (.r (.l .h)))))],
  .c none none (.st (nat_lit 6) (.s (.l (.l (.l .h)))) (.s (.r (.l (.r (.l .h))))))])))
 (.seq (.blk (nat_lit 0) (.loop (.seq (.seq (.reg [.p (.l (.r (.r (.l .h)))) none (.mv (.s .h)),
  .p (.r (.r (.r (.l .h)))) none (.nc (.s (.l (.r (.r (.l .h)))))),
  .p (.l (.l (.l (.r .h)))) none (.fa (nat_lit 3) (.s (.r (.r (.r (.l .h)))))),
  .r (.r (.l (.l (.r .h)))) none (.ld (.s (.l (.l (.l (.r .h)))))),
  .p (.l (.r (.l (.r .h)))) none (.cp .eql (.s (.r (.l (.l (.r .h))))) (.c (.a (.i .i64 (.n (nat_lit 0)))))),
  .p (.r (.r (.l (.r .h)))) none (.mv (.s (.l (.r (.l (.r .h)))))),
  .p (.l (.l (.r (.r .h)))) (some ((.r (.r (.l (.r .h)))), true)) (.mv (.s (.l .h))),
  .p (.r (.l (.r (.r .h)))) (some ((.r (.r (.l (.r .h)))), true)) (.cp .lss (.s (.l (.l (.r (.r .h))))) (.c (.a (.i .i64 (.n (nat_lit 5)))))),
  .p (.l (.r (.r (.r .h)))) none (.pk (.s (.r (.r (.l (.r .h))))) (.s (.r (.l (.r (.r .h))))) (.c (.a (.b false))))])
 (.cond (.s (.l (.r (.r (.r .h))))) .skip (.ex (nat_lit 0))))
 (.blk (nat_lit 1) (.seq (.reg [.p (.l (.l (.l (.l (.l .h))))) none (.mv (.s .h)),
  .k (some (.r (.l (.l (.l (.l .h)))))) none (nat_lit 80) (.r (.l (.l (.l (.r (.l .h)))))) [(.s (.l (.l (.l (.l (.l .h))))))],
  .p (.r (.r (.r (.r .h)))) none (.mv (.s (.r (.l (.l (.l (.l .h))))))),
  .p (.l (.r (.l (.l (.l .h))))) none (.ex (nat_lit 0) (.s (.r (.r (.r (.r .h)))))),
  .p (.r (.r (.l (.l (.l .h))))) none (.ex (nat_lit 1) (.s (.r (.r (.r (.r .h)))))),
  .p (.r (.l (.l .h))) none (.mv (.s (.l (.r (.l (.l (.l .h))))))),
  .p (.l (.r (.l .h))) none (.mv (.s (.r (.r (.l (.l (.l .h)))))))])
 (.seq (.seq (.reg [.p (.l (.l (.r (.l (.l .h))))) none (.mv (.s (.r (.l (.l .h))))),
  .p (.r (.l (.r (.l (.l .h))))) none (.mv (.s (.l .h))),
  .p (.l (.r (.r (.l (.l .h))))) none (.cp .neq (.s (.l (.l (.r (.l (.l .h)))))) (.s (.r (.l (.r (.l (.l .h)))))))])
 (.cond (.s (.l (.r (.r (.l (.l .h)))))) (.seq (.reg [.r (.r (.r (.r (.l (.l .h))))) none (.lg (nat_lit 6) (.s (.l (.l (.l .h))))),
  .c none none (.st (nat_lit 6) (.s (.r (.r .h))) (.s (.r (.r (.r (.l (.l .h)))))))])
 .rt) .skip))
 (.seq (.reg [.p (.l (.l (.l (.r (.l .h))))) none (.mv (.s .h)),
  .p (.r (.l (.l (.r (.l .h))))) none (.nc (.s (.l (.l (.l (.r (.l .h))))))),
  .p (.l (.r (.l (.r (.l .h))))) none (.fa (nat_lit 1) (.s (.r (.l (.l (.r (.l .h))))))),
  .r (.r (.r (.l (.r (.l .h))))) none (.ld (.s (.l (.r (.l (.r (.l .h))))))),
  .p (.l (.l (.r (.r (.l .h))))) none (.ar .add (.s (.r (.r (.l (.r (.l .h)))))) (.c (.a (.i .i64 (.n (nat_lit 1)))))),
  .p (.r (.l (.r (.r (.l .h))))) none (.nc (.s (.l (.l (.l (.r (.l .h))))))),
  .p (.l (.r (.r (.r (.l .h))))) none (.fa (nat_lit 1) (.s (.r (.l (.r (.r (.l .h))))))),
  .c none none (.st (nat_lit 1) (.s (.l (.r (.r (.r (.l .h)))))) (.s (.l (.l (.r (.r (.l .h)))))))])
 (.seq (.reg [.p (.r (.r (.r (.r (.l .h))))) none (.mv (.s .h)),
  .p (.l (.l (.l (.l (.r .h))))) none (.mv (.s (.l .h))),
  .p (.r (.l (.l (.l (.r .h))))) none (.ar .add (.s (.l (.l (.l (.l (.r .h)))))) (.c (.a (.i .i64 (.n (nat_lit 1)))))),
  .p (.l (.r (.l (.l (.r .h))))) none (.mv (.s (.r .h))),
  .k (some (.r (.r (.l (.l (.r .h)))))) none (nat_lit 70) (.r (.r (.r (.l (.l (.l .h)))))) [(.s (.r (.r (.r (.r (.l .h)))))), (.s (.r (.l (.l (.l (.r .h)))))), (.s (.l (.r (.l (.l (.r .h))))))],
  .a (.r (.r (.l .h))) none (.al (nat_lit 168) (nat_lit 6) (.n (.n (.n .e (.t (nat_lit 1)) .e) (.i .i64 (.n (nat_lit 0))) (.n .e .s0 .e)) (.i .i64 (.n (nat_lit 0))) (.n (.n .e (.t (nat_lit 1)) .e) (.i .i64 (.n (nat_lit 0))) .e))),
  .c none none (.st (nat_lit 6) (.s (.r (.r (.l .h)))) (.s (.r (.r (.l (.l (.r .h)))))))])
 (.seq (.reg [.p (.l (.l (.r (.l (.r .h))))) none (.mv (.s (.l (.r (.l .h))))),
  .r (.r (.l (.r (.l (.r .h))))) none (.lg (nat_lit 6) (.s (.l (.l (.l .h))))),
  .r (.l (.r (.r (.l (.r .h))))) none (.lg (nat_lit 6) (.s (.r (.r (.l .h))))),
  .a (.r (.r (.r (.l (.r .h))))) none (.bs (nat_lit 168) (nat_lit 2) [(.i .i64 (.n (nat_lit 0))), (.i .i64 (.n (nat_lit 0))), (.i .i64 (.n (nat_lit 0))), (.t (nat_lit 1)), (.t (nat_lit 1)), .s0, (.i .i64 (.n (nat_lit 0))), (.i .i64 (.n (nat_lit 0))), (.i .i64 (.n (nat_lit 0))), (.t (nat_lit 1)), (.t (nat_lit 1)), .s0] [((nat_lit 0), (nat_lit 6), (.s (.r (.l (.r (.l (.r .h))))))), ((nat_lit 6), (nat_lit 6), (.s (.l (.r (.r (.l (.r .h)))))))]),
  .p (.l (.l (.l (.r (.r .h))))) none (.bd [(.i .i64 (.n (nat_lit 0))), (.i .i64 (.n (nat_lit 0))), (.i .i64 (.n (nat_lit 0))), (.t (nat_lit 1)), (.t (nat_lit 1)), .s0] [((nat_lit 0), (nat_lit 1), (.s (.l (.l (.r (.l (.r .h))))))), ((nat_lit 5), (nat_lit 1), (.s (.r (.r (.r (.l (.r .h)))))))]),
  .c none none (.st (nat_lit 6) (.s (.l (.l (.l .h)))) (.s (.l (.l (.l (.r (.r .h)))))))])
 (.seq (.reg [.p (.r (.l (.l (.r (.r .h))))) none (.mv (.s (.l .h))),
  .p (.l (.r (.l (.r (.r .h))))) none (.cp .eql (.s (.r (.l (.l (.r (.r .h)))))) (.c (.a (.i .i64 (.n (nat_lit 1))))))])
 (.cond (.s (.l (.r (.l (.r (.r .h)))))) (.seq (.reg [.r (.r (.r (.l (.r (.r .h))))) none (.lg (nat_lit 6) (.s (.l (.l (.l .h))))),
  .c none none (.st (nat_lit 6) (.s (.r (.r .h))) (.s (.r (.r (.l (.r (.r .h)))))))])
 .rt) .skip)))))))))))
 (.seq (.reg [.r (.l (.l (.r (.r (.r .h))))) none (.lg (nat_lit 6) (.s (.l (.l (.l .h))))),
  .c none none (.st (nat_lit 6) (.s (.r (.r .h))) (.s (.l (.l (.r (.r (.r .h)))))))])
 .rt))))), false, false⟩
noncomputable def rf71 : RF := ⟨[.h, (.l .h), (.r .h)], [], (.seq (.seq (.reg [.p (.r (.r .h)) none (.mv (.s .h)),
  .p (.l (.l (.l .h))) none (.nc (.s (.r (.r .h)))),
  .p (.r (.l (.l .h))) none (.fa (nat_lit 3) (.s (.l (.l (.l .h))))),
  .r (.l (.r (.l .h))) none (.ld (.s (.r (.l (.l .h))))),
  .p (.r (.r (.l .h))) none (.cp .eql (.s (.l (.r (.l .h)))) (.c (.a (.i .i64 (.n (nat_lit 0)))))),
  .p (.l (.l (.r .h))) none (.mv (.s (.r (.r (.l .h))))),
  .p (.r (.l (.r .h))) (some ((.l (.l (.r .h))), true)) (.mv (.s (.r .h))),
  .p (.l (.r (.r .h))) none (.pk (.s (.l (.l (.r .h)))) (.s (.r (.l (.r .h)))) (.c (.a (.b false)))),
  .p (.r (.r (.r .h))) none (.mv (.s (.l (.r (.r .h))))),
  .p (.l (.l (.l (.l .h)))) (some ((.r (.r (.r .h))), true)) (.mv (.s .h)),
  .k (some (.r (.l (.l (.l .h))))) (some ((.r (.r (.r .h))), true)) (nat_lit 81) (.l (.r (.l (.l (.r (.l .h)))))) [(.s (.l (.l (.l (.l .h)))))],
  .p (.l (.r (.l (.l .h)))) none (.pk (.s (.r (.r (.r .h)))) (.s (.r (.l (.l (.l .h))))) (.c (.a (.b false))))])
 (.cond (.s (.l (.r (.l (.l .h))))) (.seq (.reg [.p (.r (.r (.l (.l .h)))) none (.mv (.s (.l .h))),
  .p (.l (.l (.r (.l .h)))) none (.mv (.s .h)),
  .k (some (.r (.l (.r (.l .h))))) none (nat_lit 30) (.r (.r (.r (.r .h)))) [(.s (.l (.l (.r (.l .h)))))],
  .p (.l (.r (.r (.l .h)))) none (.nc (.s (.r (.r (.l (.l .h)))))),
  .p (.r (.r (.r (.l .h)))) none (.fa (nat_lit 8) (.s (.l (.r (.r (.l .h)))))),
  .c none none (.st (nat_lit 1) (.s (.r (.r (.r (.l .h))))) (.s (.r (.l (.r (.l .h))))))])
 (.seq (.reg [.p (.l (.l (.l (.r .h)))) none (.mv (.s (.l .h))),
  .p (.r (.l (.l (.r .h)))) none (.mv (.s .h)),
  .k (some (.l (.r (.l (.r .h))))) none (nat_lit 82) (.r (.r (.l (.l (.r (.l .h)))))) [(.s (.r (.l (.l (.r .h)))))],
  .p (.r (.r (.l (.r .h)))) none (.nc (.s (.l (.l (.l (.r .h)))))),
  .p (.l (.l (.r (.r .h)))) none (.fa (nat_lit 10) (.s (.r (.r (.l (.r .h)))))),
  .c none none (.st (nat_lit 1) (.s (.l (.l (.r (.r .h))))) (.s (.l (.r (.l (.r .h))))))])
 .rt)) .skip))
 (.reg [.p (.r (.l (.r (.r .h)))) none (.mv (.s (.l .h))),
  .p (.l (.r (.r (.r .h)))) none (.mv (.s .h)),
  .k (some (.r (.r (.r (.r .h))))) none (nat_lit 70) (.r (.r (.r (.l (.l (.l .h)))))) [(.s (.l (.r (.r (.r .h))))), (.c (.a (.i .i64 (.n (nat_lit 1))))), (.c (.a (.i .i64 (.n (nat_lit 0)))))],
  .a (.l (.l (.l (.l (.l .h))))) none (.bs (nat_lit 168) (nat_lit 1) [(.i .i64 (.n (nat_lit 0))), (.i .i64 (.n (nat_lit 0))), (.i .i64 (.n (nat_lit 0))), (.t (nat_lit 1)), (.t (nat_lit 1)), .s0] [((nat_lit 0), (nat_lit 6), (.s (.r (.r (.r (.r .h))))))]),
  .p (.r (.l (.l (.l (.l .h))))) none (.nc (.s (.r (.l (.r (.r .h)))))),
  .p (.l (.r (.l (.l (.l .h))))) none (.fa (nat_lit 10) (.s (.r (.l (.l (.l (.l .h))))))),
  .c none none (.st (nat_lit 1) (.s (.l (.r (.l (.l (.l .h)))))) (.s (.l (.l (.l (.l (.l .h)))))))])), false, false⟩
noncomputable def rf72 : RF := ⟨[.h, (.l .h)], [], (.seq (.reg [.p (.r (.l .h)) none (.mv (.s (.l .h))),
  .p (.l (.r .h)) none (.nc (.s (.r (.l .h)))),
  .p (.r (.r .h)) none (.fa (nat_lit 0) (.s (.l (.r .h)))),
  .c none none (.st (nat_lit 1) (.s (.r (.r .h))) (.c (.a (.i .i64 (.n (nat_lit 3))))))])
 (.seq (.seq (.reg [.p (.l (.l (.l .h))) none (.mv (.s .h)),
  .k (some (.r (.l (.l .h)))) none (nat_lit 81) (.l (.r (.l (.l (.r (.l .h)))))) [(.s (.l (.l (.l .h))))]])
 (.cond (.s (.r (.l (.l .h)))) (.seq (.reg [.p (.l (.r (.l .h))) none (.mv (.s .h)),
  .p (.r (.r (.l .h))) none (.mv (.s (.l .h))),
  .k (some (.l (.l (.r .h)))) none (nat_lit 71) (.l (.l (.l (.r (.l (.l .h)))))) [(.s (.l (.r (.l .h)))), (.s (.r (.r (.l .h)))), (.c (.a (.b true)))]])
 .rt) .skip))
 (.seq (.reg [.p (.r (.l (.r .h))) none (.mv (.s (.l .h))),
  .p (.l (.r (.r .h))) none (.mv (.s .h)),
  .k (some (.r (.r (.r .h)))) none (nat_lit 83) (.l (.l (.r (.l (.r (.l .h)))))) [(.s (.l (.r (.r .h)))), (.c (.a (.i .i64 (.n (nat_lit 0)))))],
  .a (.l (.l (.l (.l .h)))) none (.bs (nat_lit 168) (nat_lit 1) [(.i .i64 (.n (nat_lit 0))), (.i .i64 (.n (nat_lit 0))), (.i .i64 (.n (nat_lit 0))), (.t (nat_lit 1)), (.t (nat_lit 1)), .s0] [((nat_lit 0), (nat_lit 6), (.s (.r (.r (.r .h)))))]),
  .p (.r (.l (.l (.l .h)))) none (.nc (.s (.r (.l (.r .h))))),
  .p (.l (.r (.l (.l .h)))) none (.fa (nat_lit 7) (.s (.r (.l (.l (.l .h)))))),
  .c none none (.st (nat_lit 1) (.s (.l (.r (.l (.l .h))))) (.s (.l (.l (.l (.l .h))))))])
 (.seq (.reg [.p (.r (.r (.l (.l .h)))) none (.mv (.s .h)),
  .k (some (.l (.l (.r (.l .h))))) none (nat_lit 31) (.l (.l (.l (.l (.l .h))))) [(.s (.r (.r (.l (.l .h))))), (.c (.a (.t (nat_lit 317))))]])
 (.seq (.reg [.p (.r (.l (.r (.l .h)))) none (.mv (.s .h)),
  .p (.l (.r (.r (.l .h)))) none (.mv (.s (.l .h))),
  .k (some (.r (.r (.r (.l .h))))) none (nat_lit 71) (.l (.l (.l (.r (.l (.l .h)))))) [(.s (.r (.l (.r (.l .h))))), (.s (.l (.r (.r (.l .h))))), (.c (.a (.b true)))]])
 (.seq (.reg [.p (.l (.l (.l (.r .h)))) none (.mv (.s (.l .h))),
  .p (.r (.l (.l (.r .h)))) none (.nc (.s (.l (.l (.l (.r .h)))))),
  .p (.l (.r (.l (.r .h)))) none (.fa (nat_lit 8) (.s (.r (.l (.l (.r .h)))))),
  .r (.r (.r (.l (.r .h)))) none (.ld (.s (.l (.r (.l (.r .h)))))),
  .p (.l (.l (.r (.r .h)))) none (.eq false false [(nat_lit 2)] (.s (.r (.r (.l (.r .h))))) (.c (.a (.t (nat_lit 1)))))])
 (.cond (.s (.l (.l (.r (.r .h))))) (.reg [.p (.r (.l (.r (.r .h)))) none (.mv (.s (.l .h))),
  .p (.l (.r (.r (.r .h)))) none (.nc (.s (.r (.l (.r (.r .h)))))),
  .p (.r (.r (.r (.r .h)))) none (.fa (nat_lit 0) (.s (.l (.r (.r (.r .h)))))),
  .c none none (.st (nat_lit 1) (.s (.r (.r (.r (.r .h))))) (.c (.a (.i .i64 (.n (nat_lit 2))))))]) .skip))))))), false, false⟩
noncomputable def rf73 : RF := ⟨[.h, (.l .h)], [.g (.r (.l .h)) (nat_lit 13), .s (.l (.r .h))], (.seq (.reg [.a (.l (.l .h)) none (.bx (nat_lit 114) (nat_lit 13) (.s (.l .h))),
  .a (.r (.l .h)) none (.al (nat_lit 114) (nat_lit 13) (.n (.n (.n (.n .e .s0 .e) (.t (nat_lit 1)) (.n .e .s0 .e)) (.i .i64 (.n (nat_lit 0))) (.n (.n .e (.i .i64 (.n (nat_lit 0))) .e) (.i .i64 (.n (nat_lit 0))) .e)) (.i .i64 (.n (nat_lit 0))) (.n (.n (.n .e (.t (nat_lit 1)) .e) (.t (nat_lit 1)) (.n .e .s0 .e)) (.i .i64 (.n (nat_lit 0))) (.n (.n .e .s0 .e) (.i .i64 (.n (nat_lit 0))) .e)))),
  .p (.l (.r .h)) none (.mv (.c (.a (.i .i64 (.n (nat_lit 0))))))])
 (.seq (.reg [.p (.l (.l (.l .h))) none (.mv (.s .h)),
  .p (.r (.l (.l .h))) none (.fa (nat_lit 1) (.s (.l (.l .h)))),
  .r (.l (.r (.l .h))) none (.ld (.s (.r (.l (.l .h))))),
  .p (.r (.r (.l .h))) none (.nc (.s (.l (.l (.l .h))))),
  .p (.l (.l (.r .h))) none (.fa (nat_lit 10) (.s (.r (.r (.l .h))))),
  .c none none (.st (nat_lit 1) (.s (.l (.l (.r .h)))) (.s (.l (.r (.l .h)))))])
 (.seq (.reg [.p (.r (.l (.r .h))) none (.mv (.s .h)),
  .p (.l (.r (.r .h))) none (.nc (.s (.r (.l (.r .h))))),
  .p (.r (.r (.r .h))) none (.fa (nat_lit 2) (.s (.l (.r (.r .h))))),
  .p (.l (.l (.l (.l .h)))) none (.fa (nat_lit 3) (.s (.r (.r (.r .h))))),
  .r (.r (.l (.l (.l .h)))) none (.ld (.s (.l (.l (.l (.l .h)))))),
  .p (.l (.r (.l (.l .h)))) none (.ln (.s (.r (.l (.l (.l .h)))))),
  .p (.r (.r (.l (.l .h)))) none (.fa (nat_lit 2) (.s (.l (.l .h)))),
  .c none none (.st (nat_lit 1) (.s (.r (.r (.l (.l .h))))) (.s (.l (.r (.l (.l .h))))))])
 (.seq (.seq (.reg [.p (.l (.l (.r (.l .h)))) none (.fa (nat_lit 2) (.s (.l (.l .h)))),
  .r (.r (.l (.r (.l .h)))) none (.ld (.s (.l (.l (.r (.l .h)))))),
  .p (.l (.r (.r (.l .h)))) none (.cp .geq (.s (.r (.l (.r (.l .h))))) (.c (.a (.i .i64 (.n (nat_lit 200))))))])
 (.cond (.s (.l (.r (.r (.l .h))))) (.seq (.reg [.r (.r (.r (.r (.l .h)))) none (.lg (nat_lit 13) (.s (.l (.l .h)))),
  .c none none (.st (nat_lit 13) (.s (.r (.l .h))) (.s (.r (.r (.r (.l .h)))))),
  .p (.l (.r .h)) none (.mv (.c (.a (.i .i64 (.n (nat_lit 5))))))])
 .rt) .skip))
 (.seq (.drw [⟨.p (.l (.l (.l (.r .h)))) none (.mv (.s .h)), (nat_lit 0), [], []⟩,
  ⟨.p (.r (.l (.l (.r .h)))) none (.mv (.s .h)), (nat_lit 1), [], []⟩,
  ⟨.p (.l (.r (.l (.r .h)))) none (.nc (.s (.r (.l (.l (.r .h)))))), (nat_lit 2), [(nat_lit 1)], []⟩,
  ⟨.p (.r (.r (.l (.r .h)))) none (.fa (nat_lit 2) (.s (.l (.r (.l (.r .h)))))), (nat_lit 3), [(nat_lit 1), (nat_lit 2)], []⟩,
  ⟨.p (.l (.l (.r (.r .h)))) none (.fa (nat_lit 3) (.s (.r (.r (.l (.r .h)))))), (nat_lit 4), [(nat_lit 1), (nat_lit 2), (nat_lit 3)], []⟩,
  ⟨.r (.r (.l (.r (.r .h)))) none (.ld (.s (.l (.l (.r (.r .h)))))), (nat_lit 5), [(nat_lit 1), (nat_lit 2), (nat_lit 3), (nat_lit 4)], []⟩,
  ⟨.p (.l (.r (.r (.r .h)))) none (.mv (.s .h)), (nat_lit 6), [], []⟩,
  ⟨.p (.r (.r (.r (.r .h)))) none (.nc (.s (.l (.r (.r (.r .h)))))), (nat_lit 7), [(nat_lit 6)], []⟩,
  ⟨.p (.l (.l (.l (.l (.l .h))))) none (.fa (nat_lit 9) (.s (.r (.r (.r (.r .h)))))), (nat_lit 8), [(nat_lit 6), (nat_lit 7)], []⟩,
  ⟨.r (.r (.l (.l (.l (.l .h))))) none (.ld (.s (.l (.l (.l (.l (.l .h))))))), (nat_lit 9), [(nat_lit 6), (nat_lit 7), (nat_lit 8)], []⟩,
  ⟨.p (.l (.r (.l (.l (.l .h))))) none (.fa (nat_lit 0) (.s (.l (.l .h)))), (nat_lit 10), [], []⟩,
  ⟨.r (.r (.r (.l (.l (.l .h))))) none (.ld (.s (.l (.r (.l (.l (.l .h))))))), (nat_lit 11), [(nat_lit 10)], []⟩,
  ⟨.p (.l (.l (.r (.l (.l .h))))) none (.fa (nat_lit 1) (.s (.l (.l .h)))), (nat_lit 12), [], []⟩,
  ⟨.r (.r (.l (.r (.l (.l .h))))) none (.ld (.s (.l (.l (.r (.l (.l .h))))))), (nat_lit 13), [(nat_lit 12)], []⟩,
  ⟨.p (.l (.r (.r (.l (.l .h))))) none (.bd [(.i .i64 (.n (nat_lit 0))), (.i .i64 (.n (nat_lit 0))), (.i .i64 (.n (nat_lit 0)))] [((nat_lit 0), (nat_lit 1), (.s (.r (.l (.l (.l (.l .h))))))), ((nat_lit 1), (nat_lit 1), (.s (.r (.r (.l (.l (.l .h))))))), ((nat_lit 2), (nat_lit 1), (.s (.r (.l (.r (.l (.l .h)))))))]), (nat_lit 14), [(nat_lit 6), (nat_lit 7), (nat_lit 8), (nat_lit 9), (nat_lit 10), (nat_lit 11), (nat_lit 12), (nat_lit 13)], []⟩,
  ⟨.a (.r (.r (.r (.l (.l .h))))) none (.bs (nat_lit 180) (nat_lit 1) [(.i .i64 (.n (nat_lit 0))), (.i .i64 (.n (nat_lit 0))), (.i .i64 (.n (nat_lit 0)))] [((nat_lit 0), (nat_lit 3), (.s (.l (.r (.r (.l (.l .h)))))))]), (nat_lit 15), [(nat_lit 6), (nat_lit 7), (nat_lit 8), (nat_lit 9), (nat_lit 10), (nat_lit 11), (nat_lit 12), (nat_lit 13), (nat_lit 14)], []⟩,
  ⟨.c (some (.l (.l (.l (.r (.l .h)))))) none (.ap (nat_lit 180) (nat_lit 3) (nat_lit 24) (.s (.r (.l (.r (.r .h))))) (.s (.r (.r (.r (.l (.l .h))))))), (nat_lit 16), [(nat_lit 1), (nat_lit 2), (nat_lit 3), (nat_lit 4), (nat_lit 5), (nat_lit 6), (nat_lit 7), (nat_lit 8), (nat_lit 9), (nat_lit 10), (nat_lit 11), (nat_lit 12), (nat_lit 13), (nat_lit 14), (nat_lit 15)], []⟩,
  ⟨.p (.r (.l (.l (.r (.l .h))))) none (.nc (.s (.l (.l (.l (.r .h)))))), (nat_lit 17), [(nat_lit 0), (nat_lit 1), (nat_lit 2), (nat_lit 3), (nat_lit 4), (nat_lit 5), (nat_lit 6), (nat_lit 7), (nat_lit 8), (nat_lit 9), (nat_lit 10), (nat_lit 11), (nat_lit 12), (nat_lit 13), (nat_lit 14), (nat_lit 15), (nat_lit 16)], []⟩,
  ⟨.p (.l (.r (.l (.r (.l .h))))) none (.fa (nat_lit 2) (.s (.r (.l (.l (.r (.l .h))))))), (nat_lit 18), [(nat_lit 0), (nat_lit 1), (nat_lit 2), (nat_lit 3), (nat_lit 4), (nat_lit 5), (nat_lit 6), (nat_lit 7), (nat_lit 8), (nat_lit 9), (nat_lit 10), (nat_lit 11), (nat_lit 12), (nat_lit 13), (nat_lit 14), (nat_lit 15), (nat_lit 16), (nat_lit 17)], []⟩,
  ⟨.p (.r (.r (.l (.r (.l .h))))) none (.fa (nat_lit 3) (.s (.l (.r (.l (.r (.l .h))))))), (nat_lit 19), [(nat_lit 0), (nat_lit 1), (nat_lit 2), (nat_lit 3), (nat_lit 4), (nat_lit 5), (nat_lit 6), (nat_lit 7), (nat_lit 8), (nat_lit 9), (nat_lit 10), (nat_lit 11), (nat_lit 12), (nat_lit 13), (nat_lit 14), (nat_lit 15), (nat_lit 16), (nat_lit 17), (nat_lit 18)], []⟩,
  ⟨.c none none (.st (nat_lit 1) (.s (.r (.r (.l (.r (.l .h)))))) (.s (.l (.l (.l (.r (.l .h))))))), (nat_lit 20), [(nat_lit 0), (nat_lit 1), (nat_lit 2), (nat_lit 3), (nat_lit 4), (nat_lit 5), (nat_lit 6), (nat_lit 7), (nat_lit 8), (nat_lit 9), (nat_lit 10), (nat_lit 11), (nat_lit 12), (nat_lit 13), (nat_lit 14), (nat_lit 15), (nat_lit 16), (nat_lit 17), (nat_lit 18), (nat_lit 19)], []⟩])
 (.seq (.reg [.p (.r (.r .h)) none (.mv (.c (.a (.i .i64 (.n (nat_lit 0))))))])
 (.seq (.blk (nat_lit 0) (.seq (.reg [.p (.r (.r (.r (.r (.l .h))))) none (.fa (nat_lit 0) (.s (.l (.l .h)))),
  .r (.l (.l (.l (.l (.r .h))))) none (.ld (.s (.r (.r (.r (.r (.l .h))))))),
  .p (.r (.l (.l (.l (.r .h))))) none (.cp .eql (.s (.l (.l (.l (.l (.r .h)))))) (.c (.a (.i .i64 (.n (nat_lit 1)))))),
  .p (.l (.r (.r (.r (.l .h))))) none (.mv (.s (.r (.l (.l (.l (.r .h)))))))])
 (.cond (.s (.l (.r (.r (.r (.l .h)))))) (.seq (.reg [.p (.l (.r (.l (.l (.r .h))))) none (.fa (nat_lit 7) (.s (.l (.l .h)))),
  .c none none (.st (nat_lit 1) (.s (.l (.r (.l (.l (.r .h)))))) (.c (.a .s0))),
  .p (.r (.r (.l (.l (.r .h))))) none (.fa (nat_lit 10) (.s (.l (.l .h)))),
  .c none none (.st (nat_lit 1) (.s (.r (.r (.l (.l (.r .h)))))) (.c (.a .s0))),
  .p (.l (.l (.r (.l (.r .h))))) none (.fa (nat_lit 11) (.s (.l (.l .h)))),
  .c none none (.st (nat_lit 1) (.s (.l (.l (.r (.l (.r .h)))))) (.c (.a .s0))),
  .p (.r (.l (.r (.l (.r .h))))) none (.fa (nat_lit 12) (.s (.l (.l .h)))),
  .c none none (.st (nat_lit 1) (.s (.r (.l (.r (.l (.r .h)))))) (.c (.a .s0)))])
 (.reg [.p (.r (.r (.r (.l (.r .h))))) none (.mv (.s .h)),
  .r (.l (.l (.l (.r (.r .h))))) none (.lg (nat_lit 13) (.s (.l (.l .h)))),
  .k (some (.r (.l (.l (.r (.r .h)))))) none (nat_lit 84) (.r (.l (.r (.l (.r (.l .h)))))) [(.s (.r (.r (.r (.l (.r .h)))))), (.s (.l (.l (.l (.r (.r .h))))))],
  .p (.l (.r (.r (.l (.r .h))))) none (.mv (.s (.r (.l (.l (.r (.r .h))))))),
  .p (.l (.r (.l (.r (.r .h))))) none (.ex (nat_lit 0) (.s (.l (.r (.r (.l (.r .h))))))),
  .p (.r (.r (.l (.r (.r .h))))) none (.ex (nat_lit 1) (.s (.l (.r (.r (.l (.r .h))))))),
  .p (.l (.l (.r (.r (.r .h))))) none (.fa (nat_lit 6) (.s (.l (.l .h)))),
  .c none none (.st (nat_lit 1) (.s (.l (.l (.r (.r (.r .h)))))) (.s (.l (.r (.l (.r (.r .h))))))),
  .p (.r (.r .h)) none (.mv (.s (.r (.r (.l (.r (.r .h)))))))])) (.seq (.seq (.reg [.p (.l (.r (.r (.r (.r .h))))) none (.fa (nat_lit 0) (.s (.l (.l .h)))),
  .r (.r (.r (.r (.r (.r .h))))) none (.ld (.s (.l (.r (.r (.r (.r .h))))))),
  .p (.l (.l (.l (.l (.l (.l .h)))))) none (.cp .eql (.s (.r (.r (.r (.r (.r .h)))))) (.c (.a (.i .i64 (.n (nat_lit 3)))))),
  .p (.r (.l (.r (.r (.r .h))))) none (.mv (.s (.l (.l (.l (.l (.l (.l .h))))))))])
 (.cond (.s (.r (.l (.r (.r (.r .h)))))) .skip (.reg [.p (.r (.l (.l (.l (.l (.l .h)))))) none (.fa (nat_lit 0) (.s (.l (.l .h)))),
  .r (.l (.r (.l (.l (.l (.l .h)))))) none (.ld (.s (.r (.l (.l (.l (.l (.l .h)))))))),
  .p (.r (.r (.l (.l (.l (.l .h)))))) none (.cp .eql (.s (.l (.r (.l (.l (.l (.l .h))))))) (.c (.a (.i .i64 (.n (nat_lit 6)))))),
  .p (.l (.l (.r (.l (.l (.l .h)))))) none (.mv (.s (.r (.r (.l (.l (.l (.l .h)))))))),
  .p (.r (.l (.r (.l (.l (.l .h)))))) (some ((.l (.l (.r (.l (.l (.l .h)))))), true)) (.fa (nat_lit 8) (.s (.l (.l .h)))),
  .r (.l (.r (.r (.l (.l (.l .h)))))) (some ((.l (.l (.r (.l (.l (.l .h)))))), true)) (.ld (.s (.r (.l (.r (.l (.l (.l .h)))))))),
  .p (.r (.r (.r (.l (.l (.l .h)))))) (some ((.l (.l (.r (.l (.l (.l .h)))))), true)) (.eq true false [(nat_lit 2)] (.s (.l (.r (.r (.l (.l (.l .h))))))) (.c (.a (.t (nat_lit 1))))),
  .p (.l (.l (.l (.r (.l (.l .h)))))) none (.pk (.s (.l (.l (.r (.l (.l (.l .h))))))) (.s (.r (.r (.r (.l (.l (.l .h))))))) (.c (.a (.b false)))),
  .p (.r (.l (.r (.r (.r .h))))) none (.mv (.s (.l (.l (.l (.r (.l (.l .h))))))))])))
 (.cond (.s (.r (.l (.r (.r (.r .h)))))) (.seq (.reg [.p (.r (.l (.l (.r (.l (.l .h)))))) none (.fa (nat_lit 11) (.s (.l (.l .h)))),
  .c none none (.st (nat_lit 1) (.s (.r (.l (.l (.r (.l (.l .h))))))) (.c (.a .s0))),
  .p (.l (.r (.l (.r (.l (.l .h)))))) none (.fa (nat_lit 12) (.s (.l (.l .h)))),
  .c none none (.st (nat_lit 1) (.s (.l (.r (.l (.r (.l (.l .h))))))) (.c (.a .s0)))])
 (.reg [.p (.r (.r (.l (.r (.l (.l .h)))))) none (.mv (.s .h)),
  .k (some (.l (.l (.r (.r (.l (.l .h))))))) none (nat_lit 85) (.l (.r (.r (.l (.r (.l .h)))))) [(.s (.r (.r (.l (.r (.l (.l .h))))))), (.s (.l (.l .h)))],
  .p (.r (.r .h)) none (.mv (.s (.l (.l (.r (.r (.l (.l .h))))))))])) (.reg [.p (.l (.l (.r (.r (.l .h))))) none (.mv (.s .h)),
  .k (some (.r (.l (.r (.r (.l .h)))))) none (nat_lit 86) (.r (.r (.r (.l (.r (.l .h)))))) [(.s (.l (.l (.r (.r (.l .h)))))), (.s (.l (.l .h)))],
  .p (.r (.r .h)) none (.mv (.s (.r (.l (.r (.r (.l .h)))))))]))))))
 (.seq (.reg [.r (.r (.l (.r (.r (.l (.l .h)))))) none (.lg (nat_lit 13) (.s (.l (.l .h)))),
  .p (.l (.r (.r (.r (.l (.l .h)))))) none (.mv (.s (.r (.r .h)))),
  .c none none (.st (nat_lit 13) (.s (.r (.l .h))) (.s (.r (.l (.r (.r (.l (.l .h)))))))),
  .p (.l (.r .h)) none (.mv (.s (.l (.r (.r (.r (.l (.l .h))))))))])
 .rt)))))))), false, false⟩
noncomputable def rf79 : RF := ⟨[.h, (.l .h)], [.g (.r (.l .h)) (nat_lit 6)], (.seq (.reg [.a (.r (.l .h)) none (.al (nat_lit 168) (nat_lit 6) (.n (.n (.n .e (.t (nat_lit 1)) .e) (.i .i64 (.n (nat_lit 0))) (.n .e .s0 .e)) (.i .i64 (.n (nat_lit 0))) (.n (.n .e (.t (nat_lit 1)) .e) (.i .i64 (.n (nat_lit 0))) .e)))])
 (.seq (.seq (.reg [.p (.r (.l (.l .h))) none (.mv (.s .h)),
  .p (.l (.r (.l .h))) none (.nc (.s (.r (.l (.l .h))))),
  .p (.r (.r (.l .h))) none (.fa (nat_lit 3) (.s (.l (.r (.l .h))))),
  .r (.l (.l (.r .h))) none (.ld (.s (.r (.r (.l .h))))),
  .p (.r (.l (.r .h))) none (.cp .neq (.s (.l (.l (.r .h)))) (.c (.a (.i .i64 (.n (nat_lit 0))))))])
 (.cond (.s (.r (.l (.r .h)))) (.seq (.reg [.p (.l (.r (.r .h))) none (.bd [(.i .i64 (.n (nat_lit 0))), (.i .i64 (.n (nat_lit 0))), (.i .i64 (.n (nat_lit 0))), (.t (nat_lit 1)), (.t (nat_lit 1)), .s0] []),
  .c none none (.st (nat_lit 6) (.s (.r (.l .h))) (.s (.l (.r (.r .h)))))])
 .rt) .skip))
 (.seq (.seq (.reg [.p (.r (.r (.r .h))) none (.mv (.s .h)),
  .k (some (.l (.l (.l (.l .h))))) none (nat_lit 87) (.l (.l (.l (.r (.r (.l .h)))))) [(.s (.r (.r (.r .h))))],
  .p (.r (.l (.l (.l .h)))) none (.nt (.s (.l (.l (.l (.l .h))))))])
 (.cond (.s (.r (.l (.l (.l .h))))) (.seq (.reg [.p (.l (.r (.l (.l .h)))) none (.mv (.s .h)),
  .k (some (.r (.r (.l (.l .h))))) none (nat_lit 35) (.l (.l (.r (.l (.l .h))))) [(.s (.l (.r (.l (.l .h))))), (.c (.a (.i .i64 (.n (nat_lit 7)))))]])
 (.seq (.reg [.p (.l (.l (.r (.l .h)))) none (.bd [(.i .i64 (.n (nat_lit 0))), (.i .i64 (.n (nat_lit 0))), (.i .i64 (.n (nat_lit 0))), (.t (nat_lit 1)), (.t (nat_lit 1)), .s0] []),
  .c none none (.st (nat_lit 6) (.s (.r (.l .h))) (.s (.l (.l (.r (.l .h))))))])
 .rt)) .skip))
 (.seq (.seq (.reg [.p (.r (.l (.r (.l .h)))) none (.mv (.s (.l .h))),
  .p (.l (.r (.r (.l .h)))) none (.cp .gtr (.s (.r (.l (.r (.l .h))))) (.c (.a (.i .i64 (.n (nat_lit 8))))))])
 (.cond (.s (.l (.r (.r (.l .h))))) (.seq (.reg [.p (.r (.r (.r (.l .h)))) none (.mv (.s .h)),
  .k (some (.l (.l (.l (.r .h))))) none (nat_lit 35) (.l (.l (.r (.l (.l .h))))) [(.s (.r (.r (.r (.l .h))))), (.c (.a (.i .i64 (.n (nat_lit 5)))))]])
 (.seq (.reg [.p (.r (.l (.l (.r .h)))) none (.bd [(.i .i64 (.n (nat_lit 0))), (.i .i64 (.n (nat_lit 0))), (.i .i64 (.n (nat_lit 0))), (.t (nat_lit 1)), (.t (nat_lit 1)), .s0] []),
  .c none none (.st (nat_lit 6) (.s (.r (.l .h))) (.s (.r (.l (.l (.r .h))))))])
 .rt)) .skip))
 (.seq (.seq (.reg [.a (.l (.r (.l (.r .h)))) none (.bs (nat_lit 9) (nat_lit 2) [(.t (nat_lit 1)), (.t (nat_lit 1))] [((nat_lit 0), (nat_lit 1), (.c (.a (.t (nat_lit 301))))), ((nat_lit 1), (nat_lit 1), (.c (.a (.t (nat_lit 289)))))]),
  .p (.r (.r (.l (.r .h)))) none (.ln (.s (.l (.r (.l (.r .h)))))),
  .p (.l (.l (.r (.r .h)))) none (.mv (.c (.a (.i .i64 (.n (nat_lit 0))))))])
 (.blk (nat_lit 0) (.loop (.seq (.reg [.p (.r (.l (.r (.r .h)))) none (.cp .lss (.s (.l (.l (.r (.r .h))))) (.s (.r (.r (.l (.r .h))))))])
 (.seq (.cond (.s (.r (.l (.r (.r .h))))) .skip (.ex (nat_lit 0)))
 (.seq (.blk (nat_lit 1) (.seq (.reg [.p (.l (.r (.r (.r .h)))) none (.mv (.s (.l (.l (.r (.r .h)))))),
  .p (.r (.r (.r (.r .h)))) none (.ix (nat_lit 1) (.s (.l (.r (.l (.r .h))))) (.s (.l (.l (.r (.r .h)))))),
  .r (.l (.l (.l (.l (.l .h))))) none (.ld (.s (.r (.r (.r (.r .h)))))),
  .p (.l (.r .h)) none (.mv (.s (.l (.r (.r (.r .h)))))),
  .p (.r (.r .h)) none (.mv (.s (.l (.l (.l (.l (.l .h)))))))])
 (.seq (.reg [.p (.r (.l (.l (.l (.l .h))))) none (.mv (.s .h)),
  .p (.l (.r (.l (.l (.l .h))))) none (.mv (.s (.r (.r .h)))),
  .k (some (.r (.r (.l (.l (.l .h)))))) none (nat_lit 29) (.l (.r (.r (.r .h)))) [(.s (.r (.l (.l (.l (.l .h)))))), (.c (.a (.i .i64 (.n (nat_lit 0))))), (.s (.l (.r (.l (.l (.l .h))))))]])
 (.cond (.s (.r (.r (.l (.l (.l .h)))))) (.seq (.reg [.p (.l (.l (.r (.l (.l .h))))) none (.mv (.s .h)),
  .p (.r (.l (.r (.l (.l .h))))) none (.nc (.s (.l (.l (.r (.l (.l .h))))))),
  .p (.l (.r (.r (.l (.l .h))))) none (.fa (nat_lit 1) (.s (.r (.l (.r (.l (.l .h))))))),
  .r (.r (.r (.r (.l (.l .h))))) none (.ld (.s (.l (.r (.r (.l (.l .h))))))),
  .p (.l (.l (.l (.r (.l .h))))) none (.ar .add (.s (.r (.r (.r (.l (.l .h)))))) (.c (.a (.i .i64 (.n (nat_lit 1)))))),
  .p (.r (.l (.l (.r (.l .h))))) none (.nc (.s (.l (.l (.r (.l (.l .h))))))),
  .p (.l (.r (.l (.r (.l .h))))) none (.fa (nat_lit 1) (.s (.r (.l (.l (.r (.l .h))))))),
  .c none none (.st (nat_lit 1) (.s (.l (.r (.l (.r (.l .h)))))) (.s (.l (.l (.l (.r (.l .h)))))))])
 (.seq (.reg [.p (.r (.r (.l (.r (.l .h))))) none (.mv (.s (.l (.r .h)))),
  .p (.l (.l (.r (.r (.l .h))))) none (.ar .add (.c (.a (.i .i64 (.n (nat_lit 4))))) (.s (.r (.r (.l (.r (.l .h))))))),
  .p (.r (.l (.r (.r (.l .h))))) none (.mv (.s .h)),
  .p (.l (.r (.r (.r (.l .h))))) none (.mv (.s (.l .h))),
  .p (.r (.r (.r (.r (.l .h))))) none (.ar .add (.s (.l (.r (.r (.r (.l .h)))))) (.c (.a (.i .i64 (.n (nat_lit 1)))))),
  .k (some (.l (.l (.l (.l (.r .h)))))) none (nat_lit 79) (.l (.l (.l (.l (.r (.l .h)))))) [(.s (.r (.l (.r (.r (.l .h)))))), (.s (.r (.r (.r (.r (.l .h))))))],
  .a (.r (.l (.l (.l (.r .h))))) none (.bs (nat_lit 168) (nat_lit 1) [(.i .i64 (.n (nat_lit 0))), (.i .i64 (.n (nat_lit 0))), (.i .i64 (.n (nat_lit 0))), (.t (nat_lit 1)), (.t (nat_lit 1)), .s0] [((nat_lit 0), (nat_lit 6), (.s (.l (.l (.l (.l (.r .h)))))))]),
  .p (.l (.r (.l (.l (.r .h))))) none (.bd [(.i .i64 (.n (nat_lit 0))), (.i .i64 (.n (nat_lit 0))), (.i .i64 (.n (nat_lit 0))), (.t (nat_lit 1)), (.t (nat_lit 1)), .s0] [((nat_lit 0), (nat_lit 1), (.s (.l (.l (.r (.r (.l .h))))))), ((nat_lit 5), (nat_lit 1), (.s (.r (.l (.l (.l (.r .h)))))))]),
  .c none none (.st (nat_lit 6) (.s (.r (.l .h))) (.s (.l (.r (.l (.l (.r .h)))))))])
 .rt)) .skip))))
 (.reg [.p (.r (.r (.l (.l (.r .h))))) none (.ar .add (.s (.l (.l (.r (.r .h))))) (.c (.a (.i .i64 (.n (nat_lit 1)))))),
  .p (.l (.l (.r (.r .h)))) none (.mv (.s (.r (.r (.l (.l (.r .h)))))))])))))))
 (.seq (.seq (.reg [.p (.l (.l (.r (.l (.r .h))))) none (.mv (.s .h)),
  .k (some (.r (.l (.r (.l (.r .h)))))) none (nat_lit 34) (.r (.r (.l (.l (.l .h))))) [(.s (.l (.l (.r (.l (.r .h)))))), (.c (.a (.i .i64 (.n (nat_lit 0))))), (.c (.a (.i .i64 (.n (nat_lit 2)))))]])
 (.cond (.s (.r (.l (.r (.l (.r .h)))))) (.seq (.reg [.p (.l (.r (.r (.l (.r .h))))) none (.mv (.s .h)),
  .p (.r (.r (.r (.l (.r .h))))) none (.nc (.s (.l (.r (.r (.l (.r .h))))))),
  .p (.l (.l (.l (.r (.r .h))))) none (.fa (nat_lit 1) (.s (.r (.r (.r (.l (.r .h))))))),
  .r (.r (.l (.l (.r (.r .h))))) none (.ld (.s (.l (.l (.l (.r (.r .h))))))),
  .p (.l (.r (.l (.r (.r .h))))) none (.ar .add (.s (.r (.l (.l (.r (.r .h)))))) (.c (.a (.i .i64 (.n (nat_lit 1)))))),
  .p (.r (.r (.l (.r (.r .h))))) none (.nc (.s (.l (.r (.r (.l (.r .h))))))),
  .p (.l (.l (.r (.r (.r .h))))) none (.fa (nat_lit 1) (.s (.r (.r (.l (.r (.r .h))))))),
  .c none none (.st (nat_lit 1) (.s (.l (.l (.r (.r (.r .h)))))) (.s (.l (.r (.l (.r (.r .h)))))))])
 (.seq (.drw [⟨.p (.r (.l (.r (.r (.r .h))))) none (.mv (.s .h)), (nat_lit 0), [], []⟩,
  ⟨.p (.l (.r (.r (.r (.r .h))))) none (.nc (.s (.r (.l (.r (.r (.r .h))))))), (nat_lit 1), [(nat_lit 0)], []⟩,
  ⟨.p (.r (.r (.r (.r (.r .h))))) none (.fa (nat_lit 0) (.s (.l (.r (.r (.r (.r .h))))))), (nat_lit 2), [(nat_lit 0), (nat_lit 1)], []⟩,
  ⟨.r (.l (.l (.l (.l (.l (.l .h)))))) none (.ld (.s (.r (.r (.r (.r (.r .h))))))), (nat_lit 3), [(nat_lit 0), (nat_lit 1), (nat_lit 2)], []⟩,
  ⟨.p (.r (.l (.l (.l (.l (.l .h)))))) none (.mv (.s .h)), (nat_lit 4), [], []⟩,
  ⟨.p (.l (.r (.l (.l (.l (.l .h)))))) none (.nc (.s (.r (.l (.l (.l (.l (.l .h)))))))), (nat_lit 5), [(nat_lit 4)], []⟩,
  ⟨.p (.r (.r (.l (.l (.l (.l .h)))))) none (.fa (nat_lit 1) (.s (.l (.r (.l (.l (.l (.l .h)))))))), (nat_lit 6), [(nat_lit 4), (nat_lit 5)], []⟩,
  ⟨.r (.l (.l (.r (.l (.l (.l .h)))))) none (.ld (.s (.r (.r (.l (.l (.l (.l .h)))))))), (nat_lit 7), [(nat_lit 4), (nat_lit 5), (nat_lit 6)], []⟩,
  ⟨.p (.r (.l (.r (.l (.l (.l .h)))))) none (.ar .sub (.s (.l (.l (.r (.l (.l (.l .h))))))) (.c (.a (.i .i64 (.n (nat_lit 1)))))), (nat_lit 8), [(nat_lit 4), (nat_lit 5), (nat_lit 6), (nat_lit 7)], []⟩,
  ⟨.p (.l (.r (.r (.l (.l (.l .h)))))) none (.ix (nat_lit 4) (.s (.l (.l (.l (.l (.l (.l .h))))))) (.s (.r (.l (.r (.l (.l (.l .h)))))))), (nat_lit 9), [(nat_lit 0), (nat_lit 1), (nat_lit 2), (nat_lit 3), (nat_lit 4), (nat_lit 5), (nat_lit 6), (nat_lit 7), (nat_lit 8)], []⟩,
  ⟨.p (.r (.r (.r (.l (.l (.l .h)))))) none (.fa (nat_lit 3) (.s (.l (.r (.r (.l (.l (.l .h)))))))), (nat_lit 10), [(nat_lit 0), (nat_lit 1), (nat_lit 2), (nat_lit 3), (nat_lit 4), (nat_lit 5), (nat_lit 6), (nat_lit 7), (nat_lit 8), (nat_lit 9)], []⟩,
  ⟨.r (.l (.l (.l (.r (.l (.l .h)))))) none (.ld (.s (.r (.r (.r (.l (.l (.l .h)))))))), (nat_lit 11), [(nat_lit 0), (nat_lit 1), (nat_lit 2), (nat_lit 3), (nat_lit 4), (nat_lit 5), (nat_lit 6), (nat_lit 7), (nat_lit 8), (nat_lit 9), (nat_lit 10)], []⟩,
  ⟨.p (.r (.l (.l (.r (.l (.l .h)))))) none (.bd [(.i .i64 (.n (nat_lit 0))), (.i .i64 (.n (nat_lit 0))), (.i .i64 (.n (nat_lit 0))), (.t (nat_lit 1)), (.t (nat_lit 1)), .s0] [((nat_lit 0), (nat_lit 1), (.c (.a (.i .i64 (.n (nat_lit 0)))))), ((nat_lit 1), (nat_lit 1), (.s (.l (.l (.l (.r (.l (.l .h))))))))]), (nat_lit 12), [(nat_lit 0), (nat_lit 1), (nat_lit 2), (nat_lit 3), (nat_lit 4), (nat_lit 5), (nat_lit 6), (nat_lit 7), (nat_lit 8), (nat_lit 9), (nat_lit 10), (nat_lit 11)], []⟩,
  ⟨.c none none (.st (nat_lit 6) (.s (.r (.l .h))) (.s (.r (.l (.l (.r (.l (.l .h)))))))), (nat_lit 13), [(nat_lit 0), (nat_lit 1), (nat_lit 2), (nat_lit 3), (nat_lit 4), (nat_lit 5), (nat_lit 6), (nat_lit 7), (nat_lit 8), (nat_lit 9), (nat_lit 10), (nat_lit 11), (nat_lit 12)], []⟩])
 .rt)) .skip))
 (.seq (.seq (.reg [.p (.l (.r (.l (.r (.l (.l .h)))))) none (.mv (.s .h)),
  .k (some (.r (.r (.l (.r (.l (.l .h))))))) none (nat_lit 29) (.l (.r (.r (.r .h)))) [(.s (.l (.r (.l (.r (.l (.l .h))))))), (.c (.a (.i .i64 (.n (nat_lit 0))))), (.c (.a (.t (nat_lit 296))))]])
 (.cond (.s (.r (.r (.l (.r (.l (.l .h))))))) (.seq (.reg [.p (.l (.l (.r (.r (.l (.l .h)))))) none (.mv (.s .h)),
  .p (.r (.l (.r (.r (.l (.l .h)))))) none (.nc (.s (.l (.l (.r (.r (.l (.l .h)))))))),
  .p (.l (.r (.r (.r (.l (.l .h)))))) none (.fa (nat_lit 1) (.s (.r (.l (.r (.r (.l (.l .h)))))))),
  .r (.r (.r (.r (.r (.l (.l .h)))))) none (.ld (.s (.l (.r (.r (.r (.l (.l .h)))))))),
  .p (.l (.l (.l (.l (.r (.l .h)))))) none (.ar .add (.s (.r (.r (.r (.r (.l (.l .h))))))) (.c (.a (.i .i64 (.n (nat_lit 1)))))),
  .p (.r (.l (.l (.l (.r (.l .h)))))) none (.nc (.s (.l (.l (.r (.r (.l (.l .h)))))))),
  .p (.l (.r (.l (.l (.r (.l .h)))))) none (.fa (nat_lit 1) (.s (.r (.l (.l (.l (.r (.l .h)))))))),
  .c none none (.st (nat_lit 1) (.s (.l (.r (.l (.l (.r (.l .h))))))) (.s (.l (.l (.l (.l (.r (.l .h))))))))])
 (.seq (.reg [.p (.r (.r (.l (.l (.r (.l .h)))))) none (.mv (.s .h)),
  .p (.l (.l (.r (.l (.r (.l .h)))))) none (.mv (.s (.l .h))),
  .p (.r (.l (.r (.l (.r (.l .h)))))) none (.ar .add (.s (.l (.l (.r (.l (.r (.l .h))))))) (.c (.a (.i .i64 (.n (nat_lit 1)))))),
  .k (some (.l (.r (.r (.l (.r (.l .h))))))) none (nat_lit 70) (.r (.r (.r (.l (.l (.l .h)))))) [(.s (.r (.r (.l (.l (.r (.l .h))))))), (.c (.a (.i .i64 (.n (nat_lit 1))))), (.s (.r (.l (.r (.l (.r (.l .h)))))))],
  .a (.l (.l (.l .h))) none (.al (nat_lit 168) (nat_lit 6) (.n (.n (.n .e (.t (nat_lit 1)) .e) (.i .i64 (.n (nat_lit 0))) (.n .e .s0 .e)) (.i .i64 (.n (nat_lit 0))) (.n (.n .e (.t (nat_lit 1)) .e) (.i .i64 (.n (nat_lit 0))) .e))),
  .c none none (.st (nat_lit 6) (.s (.l (.l (.l .h)))) (.s (.l (.r (.r (.l (.r (.l .h))))))))])
 (.seq (.reg [.p (.r (.r (.r (.l (.r (.l .h)))))) none (.mv (.s .h)),
  .k (some (.l (.l (.l (.r (.r (.l .h))))))) none (nat_lit 31) (.l (.l (.l (.l (.l .h))))) [(.s (.r (.r (.r (.l (.r (.l .h))))))), (.c (.a (.t (nat_lit 297))))]])
 (.seq (.reg [.r (.r (.l (.l (.r (.r (.l .h)))))) none (.lg (nat_lit 6) (.s (.l (.l (.l .h))))),
  .c none none (.st (nat_lit 6) (.s (.r (.l .h))) (.s (.r (.l (.l (.r (.r (.l .h))))))))])
 .rt)))) .skip))
 (.seq (.reg [.p (.l (.r (.l (.r (.r (.l .h)))))) none (.mv (.s .h)),
  .p (.r (.r (.l (.r (.r (.l .h)))))) none (.mv (.s (.l .h))),
  .k (some (.l (.l (.r (.r (.r (.l .h))))))) none (nat_lit 83) (.l (.l (.r (.l (.r (.l .h)))))) [(.s (.l (.r (.l (.r (.r (.l .h))))))), (.s (.r (.r (.l (.r (.r (.l .h)))))))],
  .c none none (.st (nat_lit 6) (.s (.r (.l .h))) (.s (.l (.l (.r (.r (.r (.l .h))))))))])
 .rt)))))))), false, false⟩
noncomputable def rf80 : RF := ⟨[.h], [.s (.r .h), .s (.l (.l .h))], (.seq (.reg [.p (.r .h) none (.mv (.c (.a (.i .i64 (.n (nat_lit 0)))))),
  .p (.l (.l .h)) none (.mv (.c (.a (.i .i64 (.n (nat_lit 0))))))])
 (.seq (.reg [.a (.r (.l (.l .h))) none (.bs (nat_lit 9) (nat_lit 12) [(.t (nat_lit 1)), (.t (nat_lit 1)), (.t (nat_lit 1)), (.t (nat_lit 1)), (.t (nat_lit 1)), (.t (nat_lit 1)), (.t (nat_lit 1)), (.t (nat_lit 1)), (.t (nat_lit 1)), (.t (nat_lit 1)), (.t (nat_lit 1)), (.t (nat_lit 1))] [((nat_lit 0), (nat_lit 1), (.c (.a (.t (nat_lit 299))))), ((nat_lit 1), (nat_lit 1), (.c (.a (.t (nat_lit 301))))), ((nat_lit 2), (nat_lit 1), (.c (.a (.t (nat_lit 298))))), ((nat_lit 3), (nat_lit 1), (.c (.a (.t (nat_lit 303))))), ((nat_lit 4), (nat_lit 1), (.c (.a (.t (nat_lit 293))))), ((nat_lit 5), (nat_lit 1), (.c (.a (.t (nat_lit 294))))), ((nat_lit 6), (nat_lit 1), (.c (.a (.t (nat_lit 380))))), ((nat_lit 7), (nat_lit 1), (.c (.a (.t (nat_lit 350))))), ((nat_lit 8), (nat_lit 1), (.c (.a (.t (nat_lit 316))))), ((nat_lit 9), (nat_lit 1), (.c (.a (.t (nat_lit 81212))))), ((nat_lit 10), (nat_lit 1), (.c (.a (.t (nat_lit 81213))))), ((nat_lit 11), (nat_lit 1), (.c (.a (.t (nat_lit 81185)))))]),
  .p (.r (.l .h)) none (.mv (.s (.r (.l (.l .h)))))])
 (.seq (.reg [.a (.l (.r (.l .h))) none (.bs (nat_lit 3) (nat_lit 12) [(.i .i64 (.n (nat_lit 0))), (.i .i64 (.n (nat_lit 0))), (.i .i64 (.n (nat_lit 0))), (.i .i64 (.n (nat_lit 0))), (.i .i64 (.n (nat_lit 0))), (.i .i64 (.n (nat_lit 0))), (.i .i64 (.n (nat_lit 0))), (.i .i64 (.n (nat_lit 0))), (.i .i64 (.n (nat_lit 0))), (.i .i64 (.n (nat_lit 0))), (.i .i64 (.n (nat_lit 0))), (.i .i64 (.n (nat_lit 0)))] [((nat_lit 0), (nat_lit 1), (.c (.a (.i .i64 (.n (nat_lit 3)))))), ((nat_lit 1), (nat_lit 1), (.c (.a (.i .i64 (.n (nat_lit 3)))))), ((nat_lit 2), (nat_lit 1), (.c (.a (.i .i64 (.n (nat_lit 4)))))), ((nat_lit 3), (nat_lit 1), (.c (.a (.i .i64 (.n (nat_lit 4)))))), ((nat_lit 4), (nat_lit 1), (.c (.a (.i .i64 (.n (nat_lit 4)))))), ((nat_lit 5), (nat_lit 1), (.c (.a (.i .i64 (.n (nat_lit 2)))))), ((nat_lit 6), (nat_lit 1), (.c (.a (.i .i64 (.n (nat_lit 2)))))), ((nat_lit 7), (nat_lit 1), (.c (.a (.i .i64 (.n (nat_lit 2)))))), ((nat_lit 8), (nat_lit 1), (.c (.a (.i .i64 (.n (nat_lit 1)))))), ((nat_lit 9), (nat_lit 1), (.c (.a (.i .i64 (.n (nat_lit 1)))))), ((nat_lit 10), (nat_lit 1), (.c (.a (.i .i64 (.n (nat_lit 1)))))), ((nat_lit 11), (nat_lit 1), (.c (.a (.i .i64 (.n (nat_lit 1))))))]),
  .p (.l (.r .h)) none (.mv (.s (.l (.r (.l .h)))))])
 (.seq (.seq (.reg [.p (.r (.r (.l .h))) none (.mv (.s (.r (.l .h)))),
  .p (.l (.l (.r .h))) none (.ln (.s (.r (.r (.l .h))))),
  .p (.r (.l (.r .h))) none (.mv (.c (.a (.i .i64 (.n (nat_lit 0))))))])
 (.blk (nat_lit 0) (.loop (.seq (.reg [.p (.l (.r (.r .h))) none (.cp .lss (.s (.r (.l (.r .h)))) (.s (.l (.l (.r .h)))))])
 (.seq (.cond (.s (.l (.r (.r .h)))) .skip (.ex (nat_lit 0)))
 (.seq (.blk (nat_lit 1) (.seq (.reg [.p (.r (.r (.r .h))) none (.mv (.s (.r (.l (.r .h))))),
  .p (.l (.l (.l (.l .h)))) none (.ix (nat_lit 1) (.s (.r (.r (.l .h)))) (.s (.r (.l (.r .h))))),
  .r (.r (.l (.l (.l .h)))) none (.ld (.s (.l (.l (.l (.l .h)))))),
  .p (.r (.r .h)) none (.mv (.s (.r (.r (.r .h))))),
  .p (.l (.l (.l .h))) none (.mv (.s (.r (.l (.l (.l .h))))))])
 (.seq (.reg [.p (.l (.r (.l (.l .h)))) none (.mv (.s .h)),
  .p (.r (.r (.l (.l .h)))) none (.mv (.s (.l (.l (.l .h))))),
  .k (some (.l (.l (.r (.l .h))))) none (nat_lit 29) (.l (.r (.r (.r .h)))) [(.s (.l (.r (.l (.l .h))))), (.c (.a (.i .i64 (.n (nat_lit 0))))), (.s (.r (.r (.l (.l .h)))))]])
 (.cond (.s (.l (.l (.r (.l .h))))) (.seq (.reg [.p (.r (.l (.r (.l .h)))) none (.mv (.s (.l (.r .h)))),
  .p (.l (.r (.r (.l .h)))) none (.mv (.s (.r (.r .h)))),
  .p (.r (.r (.r (.l .h)))) none (.ix (nat_lit 1) (.s (.r (.l (.r (.l .h))))) (.s (.l (.r (.r (.l .h)))))),
  .r (.l (.l (.l (.r .h)))) none (.ld (.s (.r (.r (.r (.l .h)))))),
  .p (.r (.l (.l (.r .h)))) none (.mv (.s (.r (.r .h)))),
  .p (.l (.r (.l (.r .h)))) none (.ar .add (.c (.a (.i .i64 (.n (nat_lit 6))))) (.s (.r (.l (.l (.r .h)))))),
  .p (.r .h) none (.mv (.s (.l (.l (.l (.r .h)))))),
  .p (.l (.l .h)) none (.mv (.s (.l (.r (.l (.r .h))))))])
 .rt) .skip))))
 (.reg [.p (.r (.r (.l (.r .h)))) none (.ar .add (.s (.r (.l (.r .h)))) (.c (.a (.i .i64 (.n (nat_lit 1)))))),
  .p (.r (.l (.r .h))) none (.mv (.s (.r (.r (.l (.r .h))))))])))))))
 (.seq (.reg [.p (.r .h) none (.mv (.c (.a (.i .i64 (.n (nat_lit 0)))))),
  .p (.l (.l .h)) none (.mv (.c (.a (.i .i64 (.n (nat_lit 0))))))])
 .rt))))), false, false⟩
noncomputable def rf81 : RF := ⟨[.h], [.s (.r .h)], (.seq (.reg [.p (.r .h) none (.mv (.c (.a (.b false))))])
 (.seq (.reg [.p (.l (.l .h)) none (.mv (.s .h)),
  .k (some (.r (.l .h))) none (nat_lit 34) (.r (.r (.l (.l (.l .h))))) [(.s (.l (.l .h))), (.c (.a (.i .i64 (.n (nat_lit 0))))), (.c (.a (.i .i64 (.n (nat_lit 1)))))],
  .p (.l (.r .h)) none (.mv (.s (.r (.l .h)))),
  .p (.r (.r .h)) (some ((.l (.r .h)), true)) (.mv (.s .h)),
  .k (some (.l (.l (.l .h)))) (some ((.l (.r .h)), true)) (nat_lit 29) (.l (.r (.r (.r .h)))) [(.s (.r (.r .h))), (.c (.a (.i .i64 (.n (nat_lit 1))))), (.c (.a (.t (nat_lit 296))))],
  .p (.r (.l (.l .h))) none (.pk (.s (.l (.r .h))) (.s (.l (.l (.l .h)))) (.c (.a (.b false)))),
  .p (.r .h) none (.mv (.s (.r (.l (.l .h)))))])
 .rt)), false, false⟩
noncomputable def rf82 : RF := ⟨[.h], [.s (.r .h)], (.seq (.reg [.p (.r .h) none (.mv (.c (.a .s0)))])
 (.seq (.reg [.p (.l (.l .h)) none (.mv (.c (.a .s0)))])
 (.seq (.reg [.p (.r (.l .h)) none (.mv (.s .h)),
  .k (some (.l (.r .h))) none (nat_lit 31) (.l (.l (.l (.l (.l .h))))) [(.s (.r (.l .h))), (.c (.a (.t (nat_lit 296))))]])
 (.seq (.seq (.reg [.p (.r (.r .h)) none (.mv (.s .h)),
  .p (.l (.l (.l .h))) none (.nc (.s (.r (.r .h)))),
  .p (.r (.l (.l .h))) none (.fa (nat_lit 3) (.s (.l (.l (.l .h))))),
  .r (.l (.r (.l .h))) none (.ld (.s (.r (.l (.l .h))))),
  .p (.r (.r (.l .h))) none (.cp .eql (.s (.l (.r (.l .h)))) (.c (.a (.i .i64 (.n (nat_lit 0)))))),
  .p (.l (.l (.r .h))) none (.mv (.s (.r (.r (.l .h))))),
  .p (.r (.l (.r .h))) (some ((.l (.l (.r .h))), true)) (.mv (.s .h)),
  .k (some (.l (.r (.r .h)))) (some ((.l (.l (.r .h))), true)) (nat_lit 29) (.l (.r (.r (.r .h)))) [(.s (.r (.l (.r .h)))), (.c (.a (.i .i64 (.n (nat_lit 0))))), (.c (.a (.t (nat_lit 297))))],
  .p (.r (.r (.r .h))) (some ((.l (.l (.r .h))), true)) (.nt (.s (.l (.r (.r .h))))),
  .p (.l (.l (.l (.l .h)))) none (.pk (.s (.l (.l (.r .h)))) (.s (.r (.r (.r .h)))) (.c (.a (.b false))))])
 (.cond (.s (.l (.l (.l (.l .h))))) (.seq (.reg [.p (.r (.l (.l (.l .h)))) none (.mv (.s (.l (.l .h)))),
  .p (.l (.r (.l (.l .h)))) none (.mv (.s .h)),
  .k (some (.r (.r (.l (.l .h))))) none (nat_lit 70) (.r (.r (.r (.l (.l (.l .h)))))) [(.s (.l (.r (.l (.l .h))))), (.c (.a (.i .i64 (.n (nat_lit 1))))), (.c (.a (.i .i64 (.n (nat_lit 0)))))],
  .a (.l (.l (.r (.l .h)))) none (.bs (nat_lit 168) (nat_lit 1) [(.i .i64 (.n (nat_lit 0))), (.i .i64 (.n (nat_lit 0))), (.i .i64 (.n (nat_lit 0))), (.t (nat_lit 1)), (.t (nat_lit 1)), .s0] [((nat_lit 0), (nat_lit 6), (.s (.r (.r (.l (.l .h))))))]),
  .c (some (.r (.l (.r (.l .h))))) none (.ap (nat_lit 168) (nat_lit 6) (nat_lit 80) (.s (.r (.l (.l (.l .h))))) (.s (.l (.l (.r (.l .h)))))),
  .p (.l (.l .h)) none (.mv (.s (.r (.l (.r (.l .h))))))])
 (.blk (nat_lit 0) (.loop (.seq (.seq (.reg [.p (.l (.r (.r (.l .h)))) none (.mv (.s .h)),
  .p (.r (.r (.r (.l .h)))) none (.nc (.s (.l (.r (.r (.l .h)))))),
  .p (.l (.l (.l (.r .h)))) none (.fa (nat_lit 3) (.s (.r (.r (.r (.l .h)))))),
  .r (.r (.l (.l (.r .h)))) none (.ld (.s (.l (.l (.l (.r .h)))))),
  .p (.l (.r (.l (.r .h)))) none (.cp .eql (.s (.r (.l (.l (.r .h))))) (.c (.a (.i .i64 (.n (nat_lit 0)))))),
  .p (.r (.r (.l (.r .h)))) none (.mv (.s (.l (.r (.l (.r .h)))))),
  .p (.l (.l (.r (.r .h)))) (some ((.r (.r (.l (.r .h)))), true)) (.mv (.s .h)),
  .k (some (.r (.l (.r (.r .h))))) (some ((.r (.r (.l (.r .h)))), true)) (nat_lit 29) (.l (.r (.r (.r .h)))) [(.s (.l (.l (.r (.r .h))))), (.c (.a (.i .i64 (.n (nat_lit 0))))), (.c (.a (.t (nat_lit 300))))],
  .p (.l (.r (.r (.r .h)))) none (.pk (.s (.r (.r (.l (.r .h))))) (.s (.r (.l (.r (.r .h))))) (.c (.a (.b false))))])
 (.cond (.s (.l (.r (.r (.r .h))))) .skip (.ex (nat_lit 0))))
 (.blk (nat_lit 1) (.seq (.reg [.p (.r (.r (.r (.r .h)))) none (.mv (.s .h)),
  .p (.l (.l (.l (.l (.l .h))))) none (.nc (.s (.r (.r (.r (.r .h)))))),
  .p (.r (.l (.l (.l (.l .h))))) none (.fa (nat_lit 1) (.s (.l (.l (.l (.l (.l .h))))))),
  .r (.l (.r (.l (.l (.l .h))))) none (.ld (.s (.r (.l (.l (.l (.l .h))))))),
  .p (.r (.r (.l (.l (.l .h))))) none (.ar .add (.s (.l (.r (.l (.l (.l .h)))))) (.c (.a (.i .i64 (.n (nat_lit 1)))))),
  .p (.l (.l (.r (.l (.l .h))))) none (.nc (.s (.r (.r (.r (.r .h)))))),
  .p (.r (.l (.r (.l (.l .h))))) none (.fa (nat_lit 1) (.s (.l (.l (.r (.l (.l .h))))))),
  .c none none (.st (nat_lit 1) (.s (.r (.l (.r (.l (.l .h)))))) (.s (.r (.r (.l (.l (.l .h)))))))])
 (.reg [.p (.l (.r (.r (.l (.l .h))))) none (.mv (.s (.l (.l .h)))),
  .p (.r (.r (.r (.l (.l .h))))) none (.mv (.s .h)),
  .k (some (.l (.l (.l (.r (.l .h)))))) none (nat_lit 70) (.r (.r (.r (.l (.l (.l .h)))))) [(.s (.r (.r (.r (.l (.l .h)))))), (.c (.a (.i .i64 (.n (nat_lit 1))))), (.c (.a (.i .i64 (.n (nat_lit 0)))))],
  .a (.r (.l (.l (.r (.l .h))))) none (.bs (nat_lit 168) (nat_lit 1) [(.i .i64 (.n (nat_lit 0))), (.i .i64 (.n (nat_lit 0))), (.i .i64 (.n (nat_lit 0))), (.t (nat_lit 1)), (.t (nat_lit 1)), .s0] [((nat_lit 0), (nat_lit 6), (.s (.l (.l (.l (.r (.l .h)))))))]),
  .c (some (.l (.r (.l (.r (.l .h)))))) none (.ap (nat_lit 168) (nat_lit 6) (nat_lit 80) (.s (.l (.r (.r (.l (.l .h)))))) (.s (.r (.l (.l (.r (.l .h))))))),
  .p (.l (.l .h)) none (.mv (.s (.l (.r (.l (.r (.l .h)))))))]))))))) .skip))
 (.seq (.reg [.p (.r (.r (.l (.r (.l .h))))) none (.mv (.s .h)),
  .k (some (.l (.l (.r (.r (.l .h)))))) none (nat_lit 31) (.l (.l (.l (.l (.l .h))))) [(.s (.r (.r (.l (.r (.l .h)))))), (.c (.a (.t (nat_lit 297))))]])
 (.seq (.reg [.p (.r (.l (.r (.r (.l .h))))) none (.mv (.s (.l (.l .h)))),
  .p (.r .h) none (.mv (.s (.r (.l (.r (.r (.l .h)))))))])
 .rt)))))), false, false⟩
noncomputable def rf83 : RF := ⟨[.h, (.l .h)], [.g (.r (.l .h)) (nat_lit 6)], (.seq (.reg [.a (.r (.l .h)) none (.al (nat_lit 168) (nat_lit 6) (.n (.n (.n .e (.t (nat_lit 1)) .e) (.i .i64 (.n (nat_lit 0))) (.n .e .s0 .e)) (.i .i64 (.n (nat_lit 0))) (.n (.n .e (.t (nat_lit 1)) .e) (.i .i64 (.n (nat_lit 0))) .e)))])
 (.seq (.reg [.p (.l (.l (.l .h))) none (.mv (.s .h)),
  .k (some (.r (.l (.l .h)))) none (nat_lit 30) (.r (.r (.r (.r .h)))) [(.s (.l (.l (.l .h))))],
  .p (.l (.r .h)) none (.mv (.s (.r (.l (.l .h)))))])
 (.seq (.seq (.reg [.p (.l (.r (.l .h))) none (.mv (.s .h)),
  .p (.r (.r (.l .h))) none (.nc (.s (.l (.r (.l .h))))),
  .p (.l (.l (.r .h))) none (.fa (nat_lit 3) (.s (.r (.r (.l .h))))),
  .r (.r (.l (.r .h))) none (.ld (.s (.l (.l (.r .h))))),
  .p (.l (.r (.r .h))) none (.cp .eql (.s (.r (.l (.r .h)))) (.c (.a (.i .i64 (.n (nat_lit 0)))))),
  .p (.r (.r (.r .h))) none (.mv (.s (.l (.r (.r .h))))),
  .p (.l (.l (.l (.l .h)))) (some ((.r (.r (.r .h))), true)) (.mv (.s .h)),
  .k (some (.r (.l (.l (.l .h))))) (some ((.r (.r (.r .h))), true)) (nat_lit 29) (.l (.r (.r (.r .h)))) [(.s (.l (.l (.l (.l .h))))), (.c (.a (.i .i64 (.n (nat_lit 0))))), (.c (.a (.t (nat_lit 302))))],
  .p (.l (.r (.l (.l .h)))) none (.pk (.s (.r (.r (.r .h)))) (.s (.r (.l (.l (.l .h))))) (.c (.a (.b false))))])
 (.cond (.s (.l (.r (.l (.l .h))))) (.seq (.reg [.p (.r (.r (.l (.l .h)))) none (.mv (.s .h)),
  .p (.l (.l (.r (.l .h)))) none (.nc (.s (.r (.r (.l (.l .h)))))),
  .p (.r (.l (.r (.l .h)))) none (.fa (nat_lit 1) (.s (.l (.l (.r (.l .h)))))),
  .r (.l (.r (.r (.l .h)))) none (.ld (.s (.r (.l (.r (.l .h)))))),
  .p (.r (.r (.r (.l .h)))) none (.ar .add (.s (.l (.r (.r (.l .h))))) (.c (.a (.i .i64 (.n (nat_lit 1)))))),
  .p (.l (.l (.l (.r .h)))) none (.nc (.s (.r (.r (.l (.l .h)))))),
  .p (.r (.l (.l (.r .h)))) none (.fa (nat_lit 1) (.s (.l (.l (.l (.r .h)))))),
  .c none none (.st (nat_lit 1) (.s (.r (.l (.l (.r .h))))) (.s (.r (.r (.r (.l .h))))))])
 (.seq (.reg [.p (.l (.r (.l (.r .h)))) none (.mv (.s (.l (.r .h)))),
  .p (.r (.r (.l (.r .h)))) none (.mv (.s .h)),
  .k (some (.l (.l (.r (.r .h))))) none (nat_lit 30) (.r (.r (.r (.r .h)))) [(.s (.r (.r (.l (.r .h)))))],
  .p (.r (.l (.r (.r .h)))) none (.bd [(.i .i64 (.n (nat_lit 0))), (.i .i64 (.n (nat_lit 0))), (.i .i64 (.n (nat_lit 0))), (.t (nat_lit 1)), (.t (nat_lit 1)), .s0] [((nat_lit 0), (nat_lit 1), (.c (.a (.i .i64 (.n (nat_lit 2)))))), ((nat_lit 3), (nat_lit 1), (.s (.l (.r (.l (.r .h)))))), ((nat_lit 4), (nat_lit 1), (.s (.l (.l (.r (.r .h))))))]),
  .c none none (.st (nat_lit 6) (.s (.r (.l .h))) (.s (.r (.l (.r (.r .h))))))])
 .rt)) .skip))
 (.seq (.seq (.reg [.p (.l (.r (.r (.r .h)))) none (.mv (.s .h)),
  .p (.r (.r (.r (.r .h)))) none (.nc (.s (.l (.r (.r (.r .h)))))),
  .p (.l (.l (.l (.l (.l .h))))) none (.fa (nat_lit 3) (.s (.r (.r (.r (.r .h)))))),
  .r (.r (.l (.l (.l (.l .h))))) none (.ld (.s (.l (.l (.l (.l (.l .h))))))),
  .p (.l (.r (.l (.l (.l .h))))) none (.cp .eql (.s (.r (.l (.l (.l (.l .h)))))) (.c (.a (.i .i64 (.n (nat_lit 0)))))),
  .p (.r (.r (.l (.l (.l .h))))) none (.mv (.s (.l (.r (.l (.l (.l .h))))))),
  .p (.l (.l (.r (.l (.l .h))))) (some ((.r (.r (.l (.l (.l .h))))), true)) (.mv (.s .h)),
  .k (some (.r (.l (.r (.l (.l .h)))))) (some ((.r (.r (.l (.l (.l .h))))), true)) (nat_lit 29) (.l (.r (.r (.r .h)))) [(.s (.l (.l (.r (.l (.l .h)))))), (.c (.a (.i .i64 (.n (nat_lit 0))))), (.c (.a (.t (nat_lit 347))))],
  .p (.l (.r (.r (.l (.l .h))))) none (.pk (.s (.r (.r (.l (.l (.l .h)))))) (.s (.r (.l (.r (.l (.l .h)))))) (.c (.a (.b false))))])
 (.cond (.s (.l (.r (.r (.l (.l .h)))))) (.seq (.reg [.p (.r (.r (.r (.l (.l .h))))) none (.mv (.s .h)),
  .p (.l (.l (.l (.r (.l .h))))) none (.nc (.s (.r (.r (.r (.l (.l .h))))))),
  .p (.r (.l (.l (.r (.l .h))))) none (.fa (nat_lit 1) (.s (.l (.l (.l (.r (.l .h))))))),
  .r (.l (.r (.l (.r (.l .h))))) none (.ld (.s (.r (.l (.l (.r (.l .h))))))),
  .p (.r (.r (.l (.r (.l .h))))) none (.ar .add (.s (.l (.r (.l (.r (.l .h)))))) (.c (.a (.i .i64 (.n (nat_lit 1)))))),
  .p (.l (.l (.r (.r (.l .h))))) none (.nc (.s (.r (.r (.r (.l (.l .h))))))),
  .p (.r (.l (.r (.r (.l .h))))) none (.fa (nat_lit 1) (.s (.l (.l (.r (.r (.l .h))))))),
  .c none none (.st (nat_lit 1) (.s (.r (.l (.r (.r (.l .h)))))) (.s (.r (.r (.l (.r (.l .h)))))))])
 (.seq (.reg [.p (.l (.r (.r (.r (.l .h))))) none (.mv (.s .h)),
  .p (.r (.r (.r (.r (.l .h))))) none (.mv (.s (.l .h))),
  .p (.l (.l (.l (.l (.r .h))))) none (.ar .add (.s (.r (.r (.r (.r (.l .h)))))) (.c (.a (.i .i64 (.n (nat_lit 1)))))),
  .k (some (.r (.l (.l (.l (.r .h)))))) none (nat_lit 70) (.r (.r (.r (.l (.l (.l .h)))))) [(.s (.l (.r (.r (.r (.l .h)))))), (.c (.a (.i .i64 (.n (nat_lit 1))))), (.s (.l (.l (.l (.l (.r .h))))))],
  .a (.r (.r .h)) none (.al (nat_lit 168) (nat_lit 6) (.n (.n (.n .e (.t (nat_lit 1)) .e) (.i .i64 (.n (nat_lit 0))) (.n .e .s0 .e)) (.i .i64 (.n (nat_lit 0))) (.n (.n .e (.t (nat_lit 1)) .e) (.i .i64 (.n (nat_lit 0))) .e))),
  .c none none (.st (nat_lit 6) (.s (.r (.r .h))) (.s (.r (.l (.l (.l (.r .h)))))))])
 (.seq (.reg [.p (.l (.r (.l (.l (.r .h))))) none (.mv (.s .h)),
  .k (some (.r (.r (.l (.l (.r .h)))))) none (nat_lit 31) (.l (.l (.l (.l (.l .h))))) [(.s (.l (.r (.l (.l (.r .h)))))), (.c (.a (.t (nat_lit 349))))]])
 (.seq (.reg [.p (.l (.l (.r (.l (.r .h))))) none (.mv (.s (.l (.r .h)))),
  .r (.r (.l (.r (.l (.r .h))))) none (.lg (nat_lit 6) (.s (.r (.r .h)))),
  .a (.l (.r (.r (.l (.r .h))))) none (.bs (nat_lit 168) (nat_lit 1) [(.i .i64 (.n (nat_lit 0))), (.i .i64 (.n (nat_lit 0))), (.i .i64 (.n (nat_lit 0))), (.t (nat_lit 1)), (.t (nat_lit 1)), .s0] [((nat_lit 0), (nat_lit 6), (.s (.r (.l (.r (.l (.r .h)))))))]),
  .p (.r (.r (.r (.l (.r .h))))) none (.bd [(.i .i64 (.n (nat_lit 0))), (.i .i64 (.n (nat_lit 0))), (.i .i64 (.n (nat_lit 0))), (.t (nat_lit 1)), (.t (nat_lit 1)), .s0] [((nat_lit 0), (nat_lit 1), (.c (.a (.i .i64 (.n (nat_lit 3)))))), ((nat_lit 3), (nat_lit 1), (.s (.l (.l (.r (.l (.r .h))))))), ((nat_lit 5), (nat_lit 1), (.s (.l (.r (.r (.l (.r .h)))))))]),
  .c none none (.st (nat_lit 6) (.s (.r (.l .h))) (.s (.r (.r (.r (.l (.r .h)))))))])
 .rt)))) .skip))
 (.seq (.reg [.p (.l (.l (.l (.r (.r .h))))) none (.mv (.s (.l (.r .h)))),
  .p (.r (.l (.l (.r (.r .h))))) none (.bd [(.i .i64 (.n (nat_lit 0))), (.i .i64 (.n (nat_lit 0))), (.i .i64 (.n (nat_lit 0))), (.t (nat_lit 1)), (.t (nat_lit 1)), .s0] [((nat_lit 0), (nat_lit 1), (.c (.a (.i .i64 (.n (nat_lit 1)))))), ((nat_lit 3), (nat_lit 1), (.s (.l (.l (.l (.r (.r .h)))))))]),
  .c none none (.st (nat_lit 6) (.s (.r (.l .h))) (.s (.r (.l (.l (.r (.r .h)))))))])
 .rt))))), false, false⟩
noncomputable def rf84 : RF := ⟨[.h, (.l .h)], [.s (.r (.l .h)), .s (.l (.r .h))], (.seq (.reg [.a (.l (.l .h)) none (.bx (nat_lit 114) (nat_lit 13) (.s (.l .h))),
  .p (.r (.l .h)) none (.mv (.c (.a (.i .i64 (.n (nat_lit 0)))))),
  .p (.l (.r .h)) none (.mv (.c (.a (.i .i64 (.n (nat_lit 0))))))])
 (.seq (.reg [.p (.l (.r (.l .h))) none (.fa (nat_lit 3) (.s (.l (.l .h)))),
  .r (.r (.r (.l .h))) none (.ld (.s (.l (.r (.l .h))))),
  .p (.l (.l (.r .h))) none (.bd [(.t (nat_lit 1)), (.i .i64 (.n (nat_lit 0))), (.i .i64 (.n (nat_lit 0))), (.i .i64 (.n (nat_lit 0))), (.b false), (.i .i64 (.n (nat_lit 0))), (.i .i64 (.n (nat_lit 0)))] [((nat_lit 0), (nat_lit 1), (.s (.r (.r (.l .h))))), ((nat_lit 1), (nat_lit 1), (.c (.a (.i .i64 (.n (nat_lit 1)))))), ((nat_lit 2), (nat_lit 1), (.c (.a (.i .i64 (.g (nat_lit 0)))))), ((nat_lit 3), (nat_lit 1), (.c (.a (.i .i64 (.n (nat_lit 1))))))]),
  .a (.r (.r .h)) none (.al (nat_lit 80) (nat_lit 7) (.n (.n (.n .e (.i .i64 (.n (nat_lit 0))) .e) (.i .i64 (.n (nat_lit 0))) (.n .e (.i .i64 (.n (nat_lit 0))) .e)) (.t (nat_lit 1)) (.n (.n .e (.b false) .e) (.i .i64 (.n (nat_lit 0))) (.n .e (.i .i64 (.n (nat_lit 0))) .e)))),
  .c none none (.st (nat_lit 7) (.s (.r (.r .h))) (.s (.l (.l (.r .h)))))])
 (.seq (.seq (.reg [.p (.r (.l (.r .h))) none (.fa (nat_lit 4) (.s (.l (.l .h)))),
  .r (.l (.r (.r .h))) none (.ld (.s (.r (.l (.r .h))))),
  .p (.r (.r (.r .h))) none (.eq true false [(nat_lit 2)] (.s (.l (.r (.r .h)))) (.c (.a (.t (nat_lit 1)))))])
 (.cond (.s (.r (.r (.r .h)))) (.seq (.drw [⟨.p (.r (.l (.l (.l .h)))) none (.mv (.s .h)), (nat_lit 0), [], []⟩,
  ⟨.p (.l (.r (.l (.l .h)))) none (.nc (.s (.r (.l (.l (.l .h)))))), (nat_lit 1), [(nat_lit 0)], []⟩,
  ⟨.p (.r (.r (.l (.l .h)))) none (.fa (nat_lit 0) (.s (.l (.r (.l (.l .h)))))), (nat_lit 2), [(nat_lit 0), (nat_lit 1)], []⟩,
  ⟨.r (.l (.l (.r (.l .h)))) none (.ld (.s (.r (.r (.l (.l .h)))))), (nat_lit 3), [(nat_lit 0), (nat_lit 1), (nat_lit 2)], []⟩,
  ⟨.p (.r (.l (.r (.l .h)))) none (.fa (nat_lit 4) (.s (.l (.l .h)))), (nat_lit 4), [], []⟩,
  ⟨.r (.l (.r (.r (.l .h)))) none (.ld (.s (.r (.l (.r (.l .h)))))), (nat_lit 5), [(nat_lit 4)], []⟩,
  ⟨.r (.r (.r (.r (.l .h)))) none (.lk true false [(nat_lit 2)] (.a (.i .i64 (.n (nat_lit 0)))) (.s (.l (.l (.r (.l .h))))) (.s (.l (.r (.r (.l .h)))))), (nat_lit 6), [(nat_lit 0), (nat_lit 1), (nat_lit 2), (nat_lit 3), (nat_lit 4), (nat_lit 5)], []⟩,
  ⟨.p (.l (.l (.l (.l .h)))) none (.mv (.s (.r (.r (.r (.l .h)))))), (nat_lit 7), [(nat_lit 0), (nat_lit 1), (nat_lit 2), (nat_lit 3), (nat_lit 4), (nat_lit 5), (nat_lit 6)], []⟩,
  ⟨.p (.l (.l (.l (.r .h)))) none (.ex (nat_lit 0) (.s (.l (.l (.l (.l .h)))))), (nat_lit 8), [(nat_lit 0), (nat_lit 1), (nat_lit 2), (nat_lit 3), (nat_lit 4), (nat_lit 5), (nat_lit 6), (nat_lit 7)], []⟩,
  ⟨.p (.r (.l (.l (.r .h)))) none (.ex (nat_lit 1) (.s (.l (.l (.l (.l .h)))))), (nat_lit 9), [(nat_lit 0), (nat_lit 1), (nat_lit 2), (nat_lit 3), (nat_lit 4), (nat_lit 5), (nat_lit 6), (nat_lit 7)], []⟩,
  ⟨.p (.l (.l (.l .h))) none (.mv (.s (.l (.l (.l (.r .h)))))), (nat_lit 10), [(nat_lit 0), (nat_lit 1), (nat_lit 2), (nat_lit 3), (nat_lit 4), (nat_lit 5), (nat_lit 6), (nat_lit 7), (nat_lit 8)], []⟩,
  ⟨.p (.r (.l (.l .h))) none (.mv (.s (.r (.l (.l (.r .h)))))), (nat_lit 11), [(nat_lit 0), (nat_lit 1), (nat_lit 2), (nat_lit 3), (nat_lit 4), (nat_lit 5), (nat_lit 6), (nat_lit 7), (nat_lit 8), (nat_lit 9), (nat_lit 10)], []⟩])
 (.seq (.seq (.reg [.p (.l (.r (.l (.r .h)))) none (.mv (.s (.r (.l (.l .h))))),
  .p (.r (.r (.l (.r .h)))) none (.nt (.s (.l (.r (.l (.r .h))))))])
 (.cond (.s (.r (.r (.l (.r .h))))) (.seq (.reg [.p (.r (.l .h)) none (.mv (.c (.a (.i .i64 (.n (nat_lit 0)))))),
  .p (.l (.r .h)) none (.mv (.c (.a (.i .i64 (.n (nat_lit 8))))))])
 .rt) .skip))
 (.drw [⟨.p (.l (.l (.r (.r .h)))) none (.mv (.s (.l (.l (.l .h))))), (nat_lit 0), [], []⟩,
  ⟨.p (.r (.l (.r (.r .h)))) none (.mv (.s .h)), (nat_lit 1), [], []⟩,
  ⟨.p (.l (.r (.r (.r .h)))) none (.nc (.s (.r (.l (.r (.r .h)))))), (nat_lit 2), [(nat_lit 1)], []⟩,
  ⟨.p (.r (.r (.r (.r .h)))) none (.fa (nat_lit 2) (.s (.l (.r (.r (.r .h)))))), (nat_lit 3), [(nat_lit 1), (nat_lit 2)], []⟩,
  ⟨.p (.l (.l (.l (.l (.l .h))))) none (.fa (nat_lit 0) (.s (.r (.r (.r (.r .h)))))), (nat_lit 4), [(nat_lit 1), (nat_lit 2), (nat_lit 3)], []⟩,
  ⟨.p (.r (.l (.l (.l (.l .h))))) none (.fa (nat_lit 0) (.s (.l (.l (.l (.l (.l .h))))))), (nat_lit 5), [(nat_lit 1), (nat_lit 2), (nat_lit 3), (nat_lit 4)], []⟩,
  ⟨.r (.l (.r (.l (.l (.l .h))))) none (.ld (.s (.r (.l (.l (.l (.l .h))))))), (nat_lit 6), [(nat_lit 1), (nat_lit 2), (nat_lit 3), (nat_lit 4), (nat_lit 5)], []⟩,
  ⟨.p (.r (.r (.l (.l (.l .h))))) none (.mv (.s (.l (.l (.l .h))))), (nat_lit 7), [], []⟩,
  ⟨.p (.l (.l (.r (.l (.l .h))))) none (.ix (nat_lit 2) (.s (.l (.r (.l (.l (.l .h)))))) (.s (.r (.r (.l (.l (.l .h))))))), (nat_lit 8), [(nat_lit 1), (nat_lit 2), (nat_lit 3), (nat_lit 4), (nat_lit 5), (nat_lit 6), (nat_lit 7)], []⟩,
  ⟨.p (.r (.l (.r (.l (.l .h))))) none (.fa (nat_lit 1) (.s (.l (.l (.r (.l (.l .h))))))), (nat_lit 9), [(nat_lit 1), (nat_lit 2), (nat_lit 3), (nat_lit 4), (nat_lit 5), (nat_lit 6), (nat_lit 7), (nat_lit 8)], []⟩,
  ⟨.r (.l (.r (.r (.l (.l .h))))) none (.ld (.s (.r (.l (.r (.l (.l .h))))))), (nat_lit 10), [(nat_lit 1), (nat_lit 2), (nat_lit 3), (nat_lit 4), (nat_lit 5), (nat_lit 6), (nat_lit 7), (nat_lit 8), (nat_lit 9)], []⟩,
  ⟨.p (.r (.r (.r (.l (.l .h))))) none (.ln (.s (.l (.r (.r (.l (.l .h))))))), (nat_lit 11), [(nat_lit 1), (nat_lit 2), (nat_lit 3), (nat_lit 4), (nat_lit 5), (nat_lit 6), (nat_lit 7), (nat_lit 8), (nat_lit 9), (nat_lit 10)], []⟩,
  ⟨.p (.l (.l (.l (.r (.l .h))))) none (.fa (nat_lit 1) (.s (.r (.r .h)))), (nat_lit 12), [], []⟩,
  ⟨.c none none (.st (nat_lit 1) (.s (.l (.l (.l (.r (.l .h)))))) (.c (.a (.i .i64 (.n (nat_lit 2)))))), (nat_lit 13), [(nat_lit 12)], [true, true]⟩,
  ⟨.p (.r (.l (.l (.r (.l .h))))) none (.fa (nat_lit 2) (.s (.r (.r .h)))), (nat_lit 14), [(nat_lit 0), (nat_lit 12), (nat_lit 13)], []⟩,
  ⟨.c none none (.st (nat_lit 1) (.s (.r (.l (.l (.r (.l .h)))))) (.s (.l (.l (.r (.r .h)))))), (nat_lit 15), [(nat_lit 0), (nat_lit 12), (nat_lit 13), (nat_lit 14)], [true, true]⟩,
  ⟨.p (.l (.r (.l (.r (.l .h))))) none (.fa (nat_lit 3) (.s (.r (.r .h)))), (nat_lit 16), [(nat_lit 0), (nat_lit 1), (nat_lit 2), (nat_lit 3), (nat_lit 4), (nat_lit 5), (nat_lit 6), (nat_lit 7), (nat_lit 8), (nat_lit 9), (nat_lit 10), (nat_lit 11), (nat_lit 12), (nat_lit 13), (nat_lit 14), (nat_lit 15)], []⟩,
  ⟨.c none none (.st (nat_lit 1) (.s (.l (.r (.l (.r (.l .h)))))) (.s (.r (.r (.r (.l (.l .h))))))), (nat_lit 17), [(nat_lit 0), (nat_lit 1), (nat_lit 2), (nat_lit 3), (nat_lit 4), (nat_lit 5), (nat_lit 6), (nat_lit 7), (nat_lit 8), (nat_lit 9), (nat_lit 10), (nat_lit 11), (nat_lit 12), (nat_lit 13), (nat_lit 14), (nat_lit 15), (nat_lit 16)], []⟩]))) (.seq (.reg [.p (.r (.r (.l (.r (.l .h))))) none (.fa (nat_lit 5) (.s (.l (.l .h)))),
  .r (.l (.l (.r (.r (.l .h))))) none (.ld (.s (.r (.r (.l (.r (.l .h))))))),
  .p (.r (.l (.r (.r (.l .h))))) none (.cp .gtr (.s (.l (.l (.r (.r (.l .h)))))) (.c (.a (.i .i64 (.n (nat_lit 0))))))])
 (.cond (.s (.r (.l (.r (.r (.l .h)))))) (.drw [⟨.p (.l (.r (.r (.r (.l .h))))) none (.fa (nat_lit 5) (.s (.l (.l .h)))), (nat_lit 0), [], []⟩,
  ⟨.r (.r (.r (.r (.r (.l .h))))) none (.ld (.s (.l (.r (.r (.r (.l .h))))))), (nat_lit 1), [(nat_lit 0)], []⟩,
  ⟨.p (.l (.l (.l (.l (.r .h))))) none (.fa (nat_lit 1) (.s (.r (.r .h)))), (nat_lit 2), [], []⟩,
  ⟨.c none none (.st (nat_lit 1) (.s (.l (.l (.l (.l (.r .h)))))) (.c (.a (.i .i64 (.n (nat_lit 3)))))), (nat_lit 3), [(nat_lit 2)], [true]⟩,
  ⟨.p (.r (.l (.l (.l (.r .h))))) none (.fa (nat_lit 3) (.s (.r (.r .h)))), (nat_lit 4), [(nat_lit 0), (nat_lit 1), (nat_lit 2), (nat_lit 3)], []⟩,
  ⟨.c none none (.st (nat_lit 1) (.s (.r (.l (.l (.l (.r .h)))))) (.s (.r (.r (.r (.r (.l .h))))))), (nat_lit 5), [(nat_lit 0), (nat_lit 1), (nat_lit 2), (nat_lit 3), (nat_lit 4)], []⟩]) .skip))))
 (.seq (.reg [.p (.l (.r (.l (.l (.r .h))))) none (.mv (.s .h)),
  .r (.r (.r (.l (.l (.r .h))))) none (.lg (nat_lit 7) (.s (.r (.r .h)))),
  .k (some (.l (.l (.r (.l (.r .h)))))) none (nat_lit 88) (.r (.l (.l (.r (.r (.l .h)))))) [(.s (.l (.r (.l (.l (.r .h)))))), (.s (.r (.r (.l (.l (.r .h))))))],
  .p (.r (.l (.r (.l (.r .h))))) none (.ex (nat_lit 0) (.s (.l (.l (.r (.l (.r .h))))))),
  .p (.l (.r (.r (.l (.r .h))))) none (.ex (nat_lit 1) (.s (.l (.l (.r (.l (.r .h))))))),
  .p (.r (.l .h)) none (.mv (.s (.r (.l (.r (.l (.r .h))))))),
  .p (.l (.r .h)) none (.mv (.s (.l (.r (.r (.l (.r .h)))))))])
 .rt)))), false, false⟩
noncomputable def rf85 : RF := ⟨[.h, (.l .h)], [.s (.r (.l .h))], (.seq (.reg [.p (.r (.l .h)) none (.mv (.c (.a (.i .i64 (.n (nat_lit 0))))))])
 (.seq (.seq (.reg [.p (.r (.r (.l .h))) none (.mv (.s (.l .h))),
  .p (.l (.l (.r .h))) none (.nc (.s (.r (.r (.l .h))))),
  .p (.r (.l (.r .h))) none (.fa (nat_lit 7) (.s (.l (.l (.r .h))))),
  .r (.l (.r (.r .h))) none (.ld (.s (.r (.l (.r .h))))),
  .p (.r (.r (.r .h))) none (.ln (.s (.l (.r (.r .h))))),
  .p (.l (.l (.l (.l .h)))) none (.mv (.c (.a (.i .i64 (.n (nat_lit 0))))))])
 (.blk (nat_lit 0) (.loop (.seq (.reg [.p (.r (.l (.l (.l .h)))) none (.cp .lss (.s (.l (.l (.l (.l .h))))) (.s (.r (.r (.r .h)))))])
 (.seq (.cond (.s (.r (.l (.l (.l .h))))) .skip (.ex (nat_lit 0)))
 (.seq (.blk (nat_lit 1) (.seq (.reg [.p (.l (.r (.l (.l .h)))) none (.ix (nat_lit 6) (.s (.l (.r (.r .h)))) (.s (.l (.l (.l (.l .h)))))),
  .r (.r (.r (.l (.l .h)))) none (.lg (nat_lit 6) (.s (.l (.r (.l (.l .h)))))),
  .a (.r (.r .h)) none (.al (nat_lit 168) (nat_lit 6) (.n (.n (.n .e (.t (nat_lit 1)) .e) (.i .i64 (.n (nat_lit 0))) (.n .e .s0 .e)) (.i .i64 (.n (nat_lit 0))) (.n (.n .e (.t (nat_lit 1)) .e) (.i .i64 (.n (nat_lit 0))) .e))),
  .c none none (.st (nat_lit 6) (.s (.r (.r .h))) (.s (.r (.r (.l (.l .h))))))])
 (.seq (.reg [.p (.l (.l (.r (.l .h)))) none (.fa (nat_lit 0) (.s (.r (.r .h)))),
  .r (.r (.l (.r (.l .h)))) none (.ld (.s (.l (.l (.r (.l .h)))))),
  .p (.l (.r (.r (.l .h)))) none (.cp .eql (.s (.r (.l (.r (.l .h))))) (.c (.a (.i .i64 (.n (nat_lit 2)))))),
  .p (.r (.r (.r (.l .h)))) none (.mv (.s (.l (.r (.r (.l .h)))))),
  .p (.l (.l (.l (.r .h)))) (some ((.r (.r (.r (.l .h)))), false)) (.fa (nat_lit 0) (.s (.r (.r .h)))),
  .r (.r (.l (.l (.r .h)))) (some ((.r (.r (.r (.l .h)))), false)) (.ld (.s (.l (.l (.l (.r .h)))))),
  .p (.l (.r (.l (.r .h)))) (some ((.r (.r (.r (.l .h)))), false)) (.cp .eql (.s (.r (.l (.l (.r .h))))) (.c (.a (.i .i64 (.n (nat_lit 3)))))),
  .p (.r (.r (.l (.r .h)))) none (.pk (.s (.r (.r (.r (.l .h))))) (.c (.a (.b true))) (.s (.l (.r (.l (.r .h))))))])
 (.cond (.s (.r (.r (.l (.r .h))))) (.seq (.reg [.p (.r (.l .h)) none (.mv (.c (.a (.i .i64 (.n (nat_lit 10))))))])
 .rt) .skip))))
 (.reg [.p (.l (.l (.r (.r .h)))) none (.ar .add (.s (.l (.l (.l (.l .h))))) (.c (.a (.i .i64 (.n (nat_lit 1)))))),
  .p (.l (.l (.l (.l .h)))) none (.mv (.s (.l (.l (.r (.r .h))))))])))))))
 (.seq (.reg [.p (.l (.l (.l .h))) none (.mv (.c (.a (.i .i64 (.n (nat_lit 0))))))])
 (.seq (.seq (.reg [.p (.l (.r (.r (.r .h)))) none (.mv (.s (.l .h))),
  .p (.r (.r (.r (.r .h)))) none (.mv (.s .h)),
  .p (.l (.l (.l (.l (.l .h))))) none (.mv (.s (.l .h))),
  .p (.r (.l (.l (.l (.l .h))))) none (.nc (.s (.l (.l (.l (.l (.l .h))))))),
  .p (.l (.r (.l (.l (.l .h))))) none (.fa (nat_lit 7) (.s (.r (.l (.l (.l (.l .h))))))),
  .r (.r (.r (.l (.l (.l .h))))) none (.ld (.s (.l (.r (.l (.l (.l .h))))))),
  .k (some (.l (.l (.r (.l (.l .h)))))) none (nat_lit 89) (.l (.r (.l (.r (.r (.l .h)))))) [(.s (.r (.r (.r (.r .h))))), (.s (.r (.r (.l (.l (.l .h))))))],
  .p (.r (.l (.r (.r .h)))) none (.mv (.s (.l (.l (.r (.l (.l .h))))))),
  .p (.r (.l (.r (.l (.l .h))))) none (.ex (nat_lit 0) (.s (.r (.l (.r (.r .h)))))),
  .p (.l (.r (.r (.l (.l .h))))) none (.ex (nat_lit 1) (.s (.r (.l (.r (.r .h)))))),
  .p (.r (.r (.r (.l (.l .h))))) none (.nc (.s (.l (.r (.r (.r .h)))))),
  .p (.l (.l (.l (.r (.l .h))))) none (.fa (nat_lit 7) (.s (.r (.r (.r (.l (.l .h))))))),
  .c none none (.st (nat_lit 1) (.s (.l (.l (.l (.r (.l .h)))))) (.s (.r (.l (.r (.l (.l .h))))))),
  .p (.l (.l (.l .h))) none (.mv (.s (.l (.r (.r (.l (.l .h)))))))])
 (.seq (.reg [.p (.r (.l (.l (.r (.l .h))))) none (.mv (.s (.l (.l (.l .h))))),
  .p (.l (.r (.l (.r (.l .h))))) none (.cp .neq (.s (.r (.l (.l (.r (.l .h)))))) (.c (.a (.i .i64 (.n (nat_lit 0))))))])
 (.cond (.s (.l (.r (.l (.r (.l .h)))))) (.seq (.reg [.p (.r (.r (.l (.r (.l .h))))) none (.mv (.s (.l (.l (.l .h))))),
  .p (.r (.l .h)) none (.mv (.s (.r (.r (.l (.r (.l .h)))))))])
 .rt) .skip)))
 (.seq (.drw [⟨.p (.r (.l (.r (.r (.l .h))))) none (.mv (.s .h)), (nat_lit 0), [], []⟩,
  ⟨.p (.l (.r (.r (.r (.l .h))))) none (.nc (.s (.r (.l (.r (.r (.l .h))))))), (nat_lit 1), [(nat_lit 0)], []⟩,
  ⟨.p (.r (.r (.r (.r (.l .h))))) none (.fa (nat_lit 1) (.s (.l (.r (.r (.r (.l .h))))))), (nat_lit 2), [(nat_lit 0), (nat_lit 1)], []⟩,
  ⟨.r (.l (.l (.l (.l (.r .h))))) none (.ld (.s (.r (.r (.r (.r (.l .h))))))), (nat_lit 3), [(nat_lit 0), (nat_lit 1), (nat_lit 2)], []⟩,
  ⟨.p (.r (.l (.l (.l (.r .h))))) none (.mv (.s (.l .h))), (nat_lit 4), [], []⟩,
  ⟨.p (.l (.r (.l (.l (.r .h))))) none (.nc (.s (.r (.l (.l (.l (.r .h))))))), (nat_lit 5), [(nat_lit 4)], []⟩,
  ⟨.p (.r (.r (.l (.l (.r .h))))) none (.fa (nat_lit 8) (.s (.l (.r (.l (.l (.r .h))))))), (nat_lit 6), [(nat_lit 4), (nat_lit 5)], []⟩,
  ⟨.r (.l (.l (.r (.l (.r .h))))) none (.ld (.s (.r (.r (.l (.l (.r .h))))))), (nat_lit 7), [(nat_lit 4), (nat_lit 5), (nat_lit 6)], []⟩,
  ⟨.r (.r (.l (.r (.l (.r .h))))) none (.lk true false [(nat_lit 2)] (.a (.i .i64 (.n (nat_lit 0)))) (.s (.l (.l (.l (.l (.r .h)))))) (.s (.l (.l (.r (.l (.r .h))))))), (nat_lit 8), [(nat_lit 0), (nat_lit 1), (nat_lit 2), (nat_lit 3), (nat_lit 4), (nat_lit 5), (nat_lit 6), (nat_lit 7)], []⟩,
  ⟨.p (.l (.l (.r (.r (.l .h))))) none (.mv (.s (.r (.l (.r (.l (.r .h))))))), (nat_lit 9), [(nat_lit 0), (nat_lit 1), (nat_lit 2), (nat_lit 3), (nat_lit 4), (nat_lit 5), (nat_lit 6), (nat_lit 7), (nat_lit 8)], []⟩,
  ⟨.p (.l (.r (.r (.l (.r .h))))) none (.ex (nat_lit 0) (.s (.l (.l (.r (.r (.l .h))))))), (nat_lit 10), [(nat_lit 0), (nat_lit 1), (nat_lit 2), (nat_lit 3), (nat_lit 4), (nat_lit 5), (nat_lit 6), (nat_lit 7), (nat_lit 8), (nat_lit 9)], []⟩,
  ⟨.p (.r (.r (.r (.l (.r .h))))) none (.ex (nat_lit 1) (.s (.l (.l (.r (.r (.l .h))))))), (nat_lit 11), [(nat_lit 0), (nat_lit 1), (nat_lit 2), (nat_lit 3), (nat_lit 4), (nat_lit 5), (nat_lit 6), (nat_lit 7), (nat_lit 8), (nat_lit 9)], []⟩,
  ⟨.p (.r (.l (.l .h))) none (.mv (.s (.l (.r (.r (.l (.r .h))))))), (nat_lit 12), [(nat_lit 0), (nat_lit 1), (nat_lit 2), (nat_lit 3), (nat_lit 4), (nat_lit 5), (nat_lit 6), (nat_lit 7), (nat_lit 8), (nat_lit 9), (nat_lit 10)], []⟩,
  ⟨.p (.l (.r (.l .h))) none (.mv (.s (.r (.r (.r (.l (.r .h))))))), (nat_lit 13), [(nat_lit 0), (nat_lit 1), (nat_lit 2), (nat_lit 3), (nat_lit 4), (nat_lit 5), (nat_lit 6), (nat_lit 7), (nat_lit 8), (nat_lit 9), (nat_lit 10), (nat_lit 11), (nat_lit 12)], []⟩])
 (.seq (.seq (.reg [.p (.l (.l (.l (.r (.r .h))))) none (.mv (.s (.l (.r (.l .h))))),
  .p (.r (.l (.l (.r (.r .h))))) none (.nt (.s (.l (.l (.l (.r (.r .h)))))))])
 (.cond (.s (.r (.l (.l (.r (.r .h)))))) (.seq (.reg [.p (.r (.l .h)) none (.mv (.c (.a (.i .i64 (.n (nat_lit 8))))))])
 .rt) .skip))
 (.seq (.seq (.drw [⟨.p (.l (.r (.l (.r (.r .h))))) none (.mv (.s (.l .h))), (nat_lit 0), [], []⟩,
  ⟨.p (.r (.r (.l (.r (.r .h))))) none (.nc (.s (.l (.r (.l (.r (.r .h))))))), (nat_lit 1), [(nat_lit 0)], []⟩,
  ⟨.p (.l (.l (.r (.r (.r .h))))) none (.fa (nat_lit 10) (.s (.r (.r (.l (.r (.r .h))))))), (nat_lit 2), [(nat_lit 0), (nat_lit 1)], []⟩,
  ⟨.r (.r (.l (.r (.r (.r .h))))) none (.ld (.s (.l (.l (.r (.r (.r .h))))))), (nat_lit 3), [(nat_lit 0), (nat_lit 1), (nat_lit 2)], []⟩,
  ⟨.p (.l (.r (.r (.r (.r .h))))) none (.ln (.s (.r (.l (.r (.r (.r .h))))))), (nat_lit 4), [(nat_lit 0), (nat_lit 1), (nat_lit 2), (nat_lit 3)], []⟩,
  ⟨.p (.r (.r (.r (.r (.r .h))))) none (.mv (.s .h)), (nat_lit 5), [], []⟩,
  ⟨.p (.l (.l (.l (.l (.l (.l .h)))))) none (.nc (.s (.r (.r (.r (.r (.r .h))))))), (nat_lit 6), [(nat_lit 5)], []⟩,
  ⟨.p (.r (.l (.l (.l (.l (.l .h)))))) none (.fa (nat_lit 6) (.s (.l (.l (.l (.l (.l (.l .h)))))))), (nat_lit 7), [(nat_lit 5), (nat_lit 6)], []⟩,
  ⟨.r (.l (.r (.l (.l (.l (.l .h)))))) none (.ld (.s (.r (.l (.l (.l (.l (.l .h)))))))), (nat_lit 8), [(nat_lit 5), (nat_lit 6), (nat_lit 7)], []⟩,
  ⟨.p (.r (.r (.l (.l (.l (.l .h)))))) none (.mv (.s (.r (.l (.l .h))))), (nat_lit 9), [], []⟩,
  ⟨.p (.l (.l (.r (.l (.l (.l .h)))))) none (.ix (nat_lit 1) (.s (.l (.r (.l (.l (.l (.l .h))))))) (.s (.r (.r (.l (.l (.l (.l .h)))))))), (nat_lit 10), [(nat_lit 5), (nat_lit 6), (nat_lit 7), (nat_lit 8), (nat_lit 9)], []⟩,
  ⟨.r (.r (.l (.r (.l (.l (.l .h)))))) none (.ld (.s (.l (.l (.r (.l (.l (.l .h)))))))), (nat_lit 11), [(nat_lit 5), (nat_lit 6), (nat_lit 7), (nat_lit 8), (nat_lit 9), (nat_lit 10)], []⟩,
  ⟨.p (.l (.r (.r (.l (.l (.l .h)))))) none (.cp .neq (.s (.l (.r (.r (.r (.r .h)))))) (.s (.r (.l (.r (.l (.l (.l .h)))))))), (nat_lit 12), [(nat_lit 0), (nat_lit 1), (nat_lit 2), (nat_lit 3), (nat_lit 4), (nat_lit 5), (nat_lit 6), (nat_lit 7), (nat_lit 8), (nat_lit 9), (nat_lit 10), (nat_lit 11)], []⟩])
 (.cond (.s (.l (.r (.r (.l (.l (.l .h))))))) (.seq (.reg [.p (.r (.l .h)) none (.mv (.c (.a (.i .i64 (.n (nat_lit 11))))))])
 .rt) .skip))
 (.seq (.reg [.p (.r (.r (.r (.l (.l (.l .h)))))) none (.mv (.s (.l .h))),
  .p (.l (.l (.l (.r (.l (.l .h)))))) none (.mv (.s (.r (.l (.l .h))))),
  .p (.r (.l (.l (.r (.l (.l .h)))))) none (.nc (.s (.r (.r (.r (.l (.l (.l .h)))))))),
  .p (.l (.r (.l (.r (.l (.l .h)))))) none (.fa (nat_lit 9) (.s (.r (.l (.l (.r (.l (.l .h)))))))),
  .c none none (.st (nat_lit 1) (.s (.l (.r (.l (.r (.l (.l .h))))))) (.s (.l (.l (.l (.r (.l (.l .h))))))))])
 (.seq (.reg [.p (.l (.l (.r (.r (.l (.l .h)))))) none (.mv (.s (.l .h))),
  .p (.r (.l (.r (.r (.l (.l .h)))))) none (.mv (.s .h)),
  .p (.l (.r (.r (.r (.l (.l .h)))))) none (.mv (.s (.l .h))),
  .p (.r (.r (.r (.r (.l (.l .h)))))) none (.nc (.s (.l (.r (.r (.r (.l (.l .h)))))))),
  .p (.l (.l (.l (.l (.r (.l .h)))))) none (.fa (nat_lit 10) (.s (.r (.r (.r (.r (.l (.l .h)))))))),
  .r (.r (.l (.l (.l (.r (.l .h)))))) none (.ld (.s (.l (.l (.l (.l (.r (.l .h)))))))),
  .k (some (.l (.r (.l (.l (.r (.l .h))))))) none (nat_lit 89) (.l (.r (.l (.r (.r (.l .h)))))) [(.s (.r (.l (.r (.r (.l (.l .h))))))), (.s (.r (.l (.l (.l (.r (.l .h)))))))],
  .p (.r (.r (.l (.r (.l (.l .h)))))) none (.mv (.s (.l (.r (.l (.l (.r (.l .h)))))))),
  .p (.r (.r (.l (.l (.r (.l .h)))))) none (.ex (nat_lit 0) (.s (.r (.r (.l (.r (.l (.l .h)))))))),
  .p (.l (.l (.r (.l (.r (.l .h)))))) none (.ex (nat_lit 1) (.s (.r (.r (.l (.r (.l (.l .h)))))))),
  .p (.r (.l (.r (.l (.r (.l .h)))))) none (.nc (.s (.l (.l (.r (.r (.l (.l .h)))))))),
  .p (.l (.r (.r (.l (.r (.l .h)))))) none (.fa (nat_lit 10) (.s (.r (.l (.r (.l (.r (.l .h)))))))),
  .c none none (.st (nat_lit 1) (.s (.l (.r (.r (.l (.r (.l .h))))))) (.s (.r (.r (.l (.l (.r (.l .h)))))))),
  .p (.l (.l (.l .h))) none (.mv (.s (.l (.l (.r (.l (.r (.l .h))))))))])
 (.seq (.reg [.p (.r (.r (.r (.l (.r (.l .h)))))) none (.mv (.s (.l (.l (.l .h))))),
  .p (.r (.l .h)) none (.mv (.s (.r (.r (.r (.l (.r (.l .h))))))))])
 .rt)))))))))), false, false⟩
noncomputable def rf86 : RF := ⟨[.h, (.l .h)], [.s (.r (.l .h))], (.seq (.reg [.p (.r (.l .h)) none (.mv (.c (.a (.i .i64 (.n (nat_lit 0))))))])
 (.seq (.reg [.p (.l (.r .h)) none (.mv (.c (.a (.i .i64 (.n (nat_lit 0))))))])
 (.seq (.seq (.reg [.p (.r (.l (.l .h))) none (.mv (.s (.l .h))),
  .p (.l (.r (.l .h))) none (.mv (.s .h)),
  .p (.r (.r (.l .h))) none (.mv (.s (.l .h))),
  .p (.l (.l (.r .h))) none (.nc (.s (.r (.r (.l .h))))),
  .p (.r (.l (.r .h))) none (.fa (nat_lit 7) (.s (.l (.l (.r .h))))),
  .r (.l (.r (.r .h))) none (.ld (.s (.r (.l (.r .h))))),
  .k (some (.r (.r (.r .h)))) none (nat_lit 89) (.l (.r (.l (.r (.r (.l .h)))))) [(.s (.l (.r (.l .h)))), (.s (.l (.r (.r .h))))],
  .p (.l (.l (.l .h))) none (.mv (.s (.r (.r (.r .h))))),
  .p (.l (.l (.l (.l .h)))) none (.ex (nat_lit 0) (.s (.l (.l (.l .h))))),
  .p (.r (.l (.l (.l .h)))) none (.ex (nat_lit 1) (.s (.l (.l (.l .h))))),
  .p (.l (.r (.l (.l .h)))) none (.nc (.s (.r (.l (.l .h))))),
  .p (.r (.r (.l (.l .h)))) none (.fa (nat_lit 7) (.s (.l (.r (.l (.l .h)))))),
  .c none none (.st (nat_lit 1) (.s (.r (.r (.l (.l .h))))) (.s (.l (.l (.l (.l .h)))))),
  .p (.l (.r .h)) none (.mv (.s (.r (.l (.l (.l .h))))))])
 (.seq (.reg [.p (.l (.l (.r (.l .h)))) none (.mv (.s (.l (.r .h)))),
  .p (.r (.l (.r (.l .h)))) none (.cp .neq (.s (.l (.l (.r (.l .h))))) (.c (.a (.i .i64 (.n (nat_lit 0))))))])
 (.cond (.s (.r (.l (.r (.l .h))))) (.seq (.reg [.p (.l (.r (.r (.l .h)))) none (.mv (.s (.l (.r .h)))),
  .p (.r (.l .h)) none (.mv (.s (.l (.r (.r (.l .h))))))])
 .rt) .skip)))
 (.seq (.seq (.reg [.p (.l (.l (.l (.r .h)))) none (.mv (.s (.l .h))),
  .p (.r (.l (.l (.r .h)))) none (.mv (.s .h)),
  .p (.l (.r (.l (.r .h)))) none (.mv (.s (.l .h))),
  .p (.r (.r (.l (.r .h)))) none (.nc (.s (.l (.r (.l (.r .h)))))),
  .p (.l (.l (.r (.r .h)))) none (.fa (nat_lit 10) (.s (.r (.r (.l (.r .h)))))),
  .r (.r (.l (.r (.r .h)))) none (.ld (.s (.l (.l (.r (.r .h)))))),
  .k (some (.l (.r (.r (.r .h))))) none (nat_lit 89) (.l (.r (.l (.r (.r (.l .h)))))) [(.s (.r (.l (.l (.r .h))))), (.s (.r (.l (.r (.r .h)))))],
  .p (.r (.r (.r (.l .h)))) none (.mv (.s (.l (.r (.r (.r .h)))))),
  .p (.r (.r (.r (.r .h)))) none (.ex (nat_lit 0) (.s (.r (.r (.r (.l .h)))))),
  .p (.l (.l (.l (.l (.l .h))))) none (.ex (nat_lit 1) (.s (.r (.r (.r (.l .h)))))),
  .p (.r (.l (.l (.l (.l .h))))) none (.nc (.s (.l (.l (.l (.r .h)))))),
  .p (.l (.r (.l (.l (.l .h))))) none (.fa (nat_lit 10) (.s (.r (.l (.l (.l (.l .h))))))),
  .c none none (.st (nat_lit 1) (.s (.l (.r (.l (.l (.l .h)))))) (.s (.r (.r (.r (.r .h)))))),
  .p (.l (.r .h)) none (.mv (.s (.l (.l (.l (.l (.l .h)))))))])
 (.seq (.reg [.p (.r (.r (.l (.l (.l .h))))) none (.mv (.s (.l (.r .h)))),
  .p (.l (.l (.r (.l (.l .h))))) none (.cp .neq (.s (.r (.r (.l (.l (.l .h)))))) (.c (.a (.i .i64 (.n (nat_lit 0))))))])
 (.cond (.s (.l (.l (.r (.l (.l .h)))))) (.seq (.reg [.p (.r (.l (.r (.l (.l .h))))) none (.mv (.s (.l (.r .h)))),
  .p (.r (.l .h)) none (.mv (.s (.r (.l (.r (.l (.l .h)))))))])
 .rt) .skip)))
 (.seq (.seq (.reg [.p (.r (.r (.r (.l (.l .h))))) none (.mv (.s (.l .h))),
  .p (.l (.l (.l (.r (.l .h))))) none (.mv (.s .h)),
  .p (.r (.l (.l (.r (.l .h))))) none (.mv (.s (.l .h))),
  .p (.l (.r (.l (.r (.l .h))))) none (.nc (.s (.r (.l (.l (.r (.l .h))))))),
  .p (.r (.r (.l (.r (.l .h))))) none (.fa (nat_lit 11) (.s (.l (.r (.l (.r (.l .h))))))),
  .r (.l (.l (.r (.r (.l .h))))) none (.ld (.s (.r (.r (.l (.r (.l .h))))))),
  .k (some (.r (.l (.r (.r (.l .h)))))) none (nat_lit 90) (.r (.r (.l (.r (.r (.l .h)))))) [(.s (.l (.l (.l (.r (.l .h)))))), (.s (.l (.l (.r (.r (.l .h))))))],
  .p (.l (.r (.r (.l (.l .h))))) none (.mv (.s (.r (.l (.r (.r (.l .h))))))),
  .p (.l (.r (.r (.r (.l .h))))) none (.ex (nat_lit 0) (.s (.l (.r (.r (.l (.l .h))))))),
  .p (.r (.r (.r (.r (.l .h))))) none (.ex (nat_lit 1) (.s (.l (.r (.r (.l (.l .h))))))),
  .p (.l (.l (.l (.l (.r .h))))) none (.nc (.s (.r (.r (.r (.l (.l .h))))))),
  .p (.r (.l (.l (.l (.r .h))))) none (.fa (nat_lit 11) (.s (.l (.l (.l (.l (.r .h))))))),
  .c none none (.st (nat_lit 1) (.s (.r (.l (.l (.l (.r .h)))))) (.s (.l (.r (.r (.r (.l .h))))))),
  .p (.l (.r .h)) none (.mv (.s (.r (.r (.r (.r (.l .h)))))))])
 (.seq (.reg [.p (.l (.r (.l (.l (.r .h))))) none (.mv (.s (.l (.r .h)))),
  .p (.r (.r (.l (.l (.r .h))))) none (.cp .neq (.s (.l (.r (.l (.l (.r .h)))))) (.c (.a (.i .i64 (.n (nat_lit 0))))))])
 (.cond (.s (.r (.r (.l (.l (.r .h)))))) (.seq (.reg [.p (.l (.l (.r (.l (.r .h))))) none (.mv (.s (.l (.r .h)))),
  .p (.r (.l .h)) none (.mv (.s (.l (.l (.r (.l (.r .h)))))))])
 .rt) .skip)))
 (.seq (.reg [.p (.r (.l (.r (.l (.r .h))))) none (.mv (.s .h)),
  .p (.l (.r (.r (.l (.r .h))))) none (.nc (.s (.r (.l (.r (.l (.r .h))))))),
  .p (.r (.r (.r (.l (.r .h))))) none (.fa (nat_lit 8) (.s (.l (.r (.r (.l (.r .h))))))),
  .r (.l (.l (.l (.r (.r .h))))) none (.ld (.s (.r (.r (.r (.l (.r .h))))))),
  .p (.r (.l (.l (.r (.r .h))))) none (.ln (.s (.l (.l (.l (.r (.r .h))))))),
  .p (.r (.r .h)) none (.mv (.s (.r (.l (.l (.r (.r .h)))))))])
 (.seq (.seq (.reg [.p (.l (.r (.l (.r (.r .h))))) none (.mv (.s (.l .h))),
  .p (.r (.r (.l (.r (.r .h))))) none (.nc (.s (.l (.r (.l (.r (.r .h))))))),
  .p (.l (.l (.r (.r (.r .h))))) none (.fa (nat_lit 0) (.s (.r (.r (.l (.r (.r .h))))))),
  .r (.r (.l (.r (.r (.r .h))))) none (.ld (.s (.l (.l (.r (.r (.r .h))))))),
  .p (.l (.r (.r (.r (.r .h))))) none (.cp .eql (.s (.r (.l (.r (.r (.r .h)))))) (.c (.a (.i .i64 (.n (nat_lit 8))))))])
 (.cond (.s (.l (.r (.r (.r (.r .h)))))) (.seq (.reg [.p (.r (.r (.r (.r (.r .h))))) none (.mv (.s .h)),
  .p (.l (.l (.l (.l (.l (.l .h)))))) none (.mv (.s (.l .h))),
  .p (.r (.l (.l (.l (.l (.l .h)))))) none (.nc (.s (.l (.l (.l (.l (.l (.l .h)))))))),
  .p (.l (.r (.l (.l (.l (.l .h)))))) none (.fa (nat_lit 1) (.s (.r (.l (.l (.l (.l (.l .h)))))))),
  .r (.r (.r (.l (.l (.l (.l .h)))))) none (.ld (.s (.l (.r (.l (.l (.l (.l .h)))))))),
  .p (.l (.l (.r (.l (.l (.l .h)))))) none (.nc (.s (.r (.r (.r (.r (.r .h))))))),
  .p (.r (.l (.r (.l (.l (.l .h)))))) none (.fa (nat_lit 10) (.s (.l (.l (.r (.l (.l (.l .h)))))))),
  .c none none (.st (nat_lit 1) (.s (.r (.l (.r (.l (.l (.l .h))))))) (.s (.r (.r (.l (.l (.l (.l .h))))))))])
 (.seq (.reg [.p (.r (.r (.r (.l (.l (.l .h)))))) none (.mv (.s (.l .h))),
  .p (.l (.l (.l (.r (.l (.l .h)))))) none (.mv (.s .h)),
  .p (.r (.l (.l (.r (.l (.l .h)))))) none (.mv (.s (.l .h))),
  .p (.l (.r (.l (.r (.l (.l .h)))))) none (.nc (.s (.r (.l (.l (.r (.l (.l .h)))))))),
  .p (.r (.r (.l (.r (.l (.l .h)))))) none (.fa (nat_lit 3) (.s (.l (.r (.l (.r (.l (.l .h)))))))),
  .r (.l (.l (.r (.r (.l (.l .h)))))) none (.ld (.s (.r (.r (.l (.r (.l (.l .h)))))))),
  .p (.r (.l (.r (.r (.l (.l .h)))))) none (.bd [(.t (nat_lit 1)), (.i .i64 (.n (nat_lit 0))), (.i .i64 (.n (nat_lit 0))), (.i .i64 (.n (nat_lit 0))), (.b false), (.i .i64 (.n (nat_lit 0))), (.i .i64 (.n (nat_lit 0)))] [((nat_lit 0), (nat_lit 1), (.s (.l (.l (.r (.r (.l (.l .h)))))))), ((nat_lit 1), (nat_lit 1), (.c (.a (.i .i64 (.n (nat_lit 1)))))), ((nat_lit 2), (nat_lit 1), (.c (.a (.i .i64 (.g (nat_lit 0)))))), ((nat_lit 3), (nat_lit 1), (.c (.a (.i .i64 (.n (nat_lit 1))))))]),
  .k (some (.l (.r (.r (.r (.l (.l .h))))))) none (nat_lit 88) (.r (.l (.l (.r (.r (.l .h)))))) [(.s (.l (.l (.l (.r (.l (.l .h))))))), (.s (.r (.l (.r (.r (.l (.l .h)))))))],
  .p (.l (.r (.r (.l (.l (.l .h)))))) none (.mv (.s (.l (.r (.r (.r (.l (.l .h)))))))),
  .p (.r (.r (.r (.r (.l (.l .h)))))) none (.ex (nat_lit 0) (.s (.l (.r (.r (.l (.l (.l .h)))))))),
  .p (.l (.l (.l (.l (.r (.l .h)))))) none (.ex (nat_lit 1) (.s (.l (.r (.r (.l (.l (.l .h)))))))),
  .p (.r (.l (.l (.l (.r (.l .h)))))) none (.nc (.s (.r (.r (.r (.l (.l (.l .h)))))))),
  .p (.l (.r (.l (.l (.r (.l .h)))))) none (.fa (nat_lit 6) (.s (.r (.l (.l (.l (.r (.l .h)))))))),
  .c none none (.st (nat_lit 1) (.s (.l (.r (.l (.l (.r (.l .h))))))) (.s (.r (.r (.r (.r (.l (.l .h)))))))),
  .p (.l (.r .h)) none (.mv (.s (.l (.l (.l (.l (.r (.l .h))))))))])
 (.seq (.reg [.p (.r (.r (.l (.l (.r (.l .h)))))) none (.mv (.s (.l (.r .h)))),
  .p (.l (.l (.r (.l (.r (.l .h)))))) none (.cp .neq (.s (.r (.r (.l (.l (.r (.l .h))))))) (.c (.a (.i .i64 (.n (nat_lit 0))))))])
 (.cond (.s (.l (.l (.r (.l (.r (.l .h))))))) (.seq (.reg [.p (.r (.l (.r (.l (.r (.l .h)))))) none (.mv (.s (.l (.r .h)))),
  .p (.r (.l .h)) none (.mv (.s (.r (.l (.r (.l (.r (.l .h))))))))])
 .rt) .skip)))) .skip))
 (.seq (.reg [.p (.r (.r (.r (.l (.r (.l .h)))))) none (.mv (.s (.l .h))),
  .p (.l (.l (.l (.r (.r (.l .h)))))) none (.mv (.s .h)),
  .p (.r (.l (.l (.r (.r (.l .h)))))) none (.mv (.s (.l .h))),
  .p (.l (.r (.l (.r (.r (.l .h)))))) none (.nc (.s (.r (.l (.l (.r (.r (.l .h)))))))),
  .p (.r (.r (.l (.r (.r (.l .h)))))) none (.fa (nat_lit 12) (.s (.l (.r (.l (.r (.r (.l .h)))))))),
  .r (.l (.l (.r (.r (.r (.l .h)))))) none (.ld (.s (.r (.r (.l (.r (.r (.l .h)))))))),
  .k (some (.r (.l (.r (.r (.r (.l .h))))))) none (nat_lit 90) (.r (.r (.l (.r (.r (.l .h)))))) [(.s (.l (.l (.l (.r (.r (.l .h))))))), (.s (.l (.l (.r (.r (.r (.l .h)))))))],
  .p (.l (.r (.r (.l (.r (.l .h)))))) none (.mv (.s (.r (.l (.r (.r (.r (.l .h)))))))),
  .p (.l (.r (.r (.r (.r (.l .h)))))) none (.ex (nat_lit 0) (.s (.l (.r (.r (.l (.r (.l .h)))))))),
  .p (.r (.r (.r (.r (.r (.l .h)))))) none (.ex (nat_lit 1) (.s (.l (.r (.r (.l (.r (.l .h)))))))),
  .p (.l (.l (.l (.l (.l (.r .h)))))) none (.nc (.s (.r (.r (.r (.l (.r (.l .h)))))))),
  .p (.r (.l (.l (.l (.l (.r .h)))))) none (.fa (nat_lit 12) (.s (.l (.l (.l (.l (.l (.r .h)))))))),
  .c none none (.st (nat_lit 1) (.s (.r (.l (.l (.l (.l (.r .h))))))) (.s (.l (.r (.r (.r (.r (.l .h)))))))),
  .p (.l (.r .h)) none (.mv (.s (.r (.r (.r (.r (.r (.l .h))))))))])
 (.seq (.reg [.p (.l (.r (.l (.l (.l (.r .h)))))) none (.mv (.s .h)),
  .p (.r (.r (.l (.l (.l (.r .h)))))) none (.mv (.s (.r (.r .h)))),
  .k (some (.l (.l (.r (.l (.l (.r .h))))))) none (nat_lit 61) (.l (.r (.r (.r (.r .h))))) [(.s (.l (.r (.l (.l (.l (.r .h))))))), (.s (.r (.r (.l (.l (.l (.r .h)))))))]])
 (.seq (.reg [.p (.r (.l (.r (.l (.l (.r .h)))))) none (.mv (.s (.l (.r .h)))),
  .p (.r (.l .h)) none (.mv (.s (.r (.l (.r (.l (.l (.r .h))))))))])
 .rt)))))))))), false, false⟩
noncomputable def rf87 : RF := ⟨[.h], [.s (.r .h)], (.seq (.reg [.p (.r .h) none (.mv (.c (.a (.b false))))])
 (.seq (.reg [.p (.l (.l .h)) none (.mv (.s .h)),
  .k (some (.r (.l .h))) none (nat_lit 34) (.r (.r (.l (.l (.l .h))))) [(.s (.l (.l .h))), (.c (.a (.i .i64 (.n (nat_lit 0))))), (.c (.a (.i .i64 (.n (nat_lit 1)))))],
  .p (.l (.r .h)) none (.mv (.s (.r (.l .h)))),
  .p (.r (.r .h)) (some ((.l (.r .h)), false)) (.mv (.s .h)),
  .k (some (.l (.l (.l .h)))) (some ((.l (.r .h)), false)) (nat_lit 34) (.r (.r (.l (.l (.l .h))))) [(.s (.r (.r .h))), (.c (.a (.i .i64 (.n (nat_lit 0))))), (.c (.a (.i .i64 (.n (nat_lit 2)))))],
  .p (.r (.l (.l .h))) none (.pk (.s (.l (.r .h))) (.c (.a (.b true))) (.s (.l (.l (.l .h))))),
  .p (.l (.r (.l .h))) none (.mv (.s (.r (.l (.l .h))))),
  .p (.r (.r (.l .h))) (some ((.l (.r (.l .h))), false)) (.mv (.s .h)),
  .k (some (.l (.l (.r .h)))) (some ((.l (.r (.l .h))), false)) (nat_lit 29) (.l (.r (.r (.r .h)))) [(.s (.r (.r (.l .h)))), (.c (.a (.i .i64 (.n (nat_lit 0))))), (.c (.a (.t (nat_lit 296))))],
  .p (.r (.l (.r .h))) none (.pk (.s (.l (.r (.l .h)))) (.c (.a (.b true))) (.s (.l (.l (.r .h))))),
  .p (.l (.r (.r .h))) none (.mv (.s (.r (.l (.r .h))))),
  .p (.r (.r (.r .h))) (some ((.l (.r (.r .h))), false)) (.mv (.s .h)),
  .k (some (.l (.l (.l (.l .h))))) (some ((.l (.r (.r .h))), false)) (nat_lit 29) (.l (.r (.r (.r .h)))) [(.s (.r (.r (.r .h)))), (.c (.a (.i .i64 (.n (nat_lit 0))))), (.c (.a (.t (nat_lit 301))))],
  .p (.r (.l (.l (.l .h)))) none (.pk (.s (.l (.r (.r .h)))) (.c (.a (.b true))) (.s (.l (.l (.l (.l .h)))))),
  .p (.l (.r (.l (.l .h)))) none (.mv (.s (.r (.l (.l (.l .h)))))),
  .p (.r (.r (.l (.l .h)))) (some ((.l (.r (.l (.l .h)))), false)) (.mv (.s .h)),
  .k (some (.l (.l (.r (.l .h))))) (some ((.l (.r (.l (.l .h)))), false)) (nat_lit 29) (.l (.r (.r (.r .h)))) [(.s (.r (.r (.l (.l .h))))), (.c (.a (.i .i64 (.n (nat_lit 0))))), (.c (.a (.t (nat_lit 289))))],
  .p (.r (.l (.r (.l .h)))) none (.pk (.s (.l (.r (.l (.l .h))))) (.c (.a (.b true))) (.s (.l (.l (.r (.l .h)))))),
  .p (.r .h) none (.mv (.s (.r (.l (.r (.l .h))))))])
 .rt)), false, false⟩
noncomputable def rf88 : RF := ⟨[.h, (.l .h)], [.s (.r (.l .h)), .s (.l (.r .h))], (.seq (.reg [.a (.l (.l .h)) none (.bx (nat_lit 80) (nat_lit 7) (.s (.l .h))),
  .p (.r (.l .h)) none (.mv (.c (.a (.i .i64 (.n (nat_lit 0)))))),
  .p (.l (.r .h)) none (.mv (.c (.a (.i .i64 (.n (nat_lit 0))))))])
 (.seq (.seq (.reg [.p (.l (.r (.l .h))) none (.mv (.s .h)),
  .p (.r (.r (.l .h))) none (.fa (nat_lit 0) (.s (.l (.l .h)))),
  .r (.l (.l (.r .h))) none (.ld (.s (.r (.r (.l .h))))),
  .k (some (.r (.l (.r .h)))) none (nat_lit 91) (.l (.l (.r (.r (.r (.l .h)))))) [(.s (.l (.r (.l .h)))), (.s (.l (.l (.r .h))))],
  .p (.r (.l (.l .h))) none (.mv (.s (.r (.l (.r .h))))),
  .p (.l (.r (.r .h))) none (.ex (nat_lit 0) (.s (.r (.l (.l .h))))),
  .p (.r (.r (.r .h))) none (.ex (nat_lit 1) (.s (.r (.l (.l .h))))),
  .p (.r (.r .h)) none (.mv (.s (.l (.r (.r .h))))),
  .p (.l (.l (.l .h))) none (.mv (.s (.r (.r (.r .h)))))])
 (.seq (.reg [.p (.l (.l (.l (.l .h)))) none (.mv (.s (.l (.l (.l .h)))))])
 (.cond (.s (.l (.l (.l (.l .h))))) (.seq (.reg [.p (.r (.l .h)) none (.mv (.c (.a (.i .i64 (.n (nat_lit 0)))))),
  .p (.l (.r .h)) none (.mv (.c (.a (.i .i64 (.n (nat_lit 9))))))])
 .rt) .skip)))
 (.seq (.seq (.reg [.p (.r (.l (.l (.l .h)))) none (.mv (.s .h)),
  .p (.l (.r (.l (.l .h)))) none (.nc (.s (.r (.l (.l (.l .h)))))),
  .p (.r (.r (.l (.l .h)))) none (.fa (nat_lit 7) (.s (.l (.r (.l (.l .h)))))),
  .r (.l (.l (.r (.l .h)))) none (.ld (.s (.r (.r (.l (.l .h)))))),
  .p (.r (.l (.r (.l .h)))) none (.ln (.s (.l (.l (.r (.l .h)))))),
  .p (.l (.r (.r (.l .h)))) none (.cp .geq (.s (.r (.l (.r (.l .h))))) (.c (.a (.i .i64 (.n (nat_lit 24))))))])
 (.cond (.s (.l (.r (.r (.l .h))))) (.seq (.reg [.p (.r (.l .h)) none (.mv (.c (.a (.i .i64 (.n (nat_lit 0)))))),
  .p (.l (.r .h)) none (.mv (.c (.a (.i .i64 (.n (nat_lit 5))))))])
 .rt) .skip))
 (.seq (.reg [.p (.r (.r (.r (.l .h)))) none (.mv (.s .h)),
  .r (.l (.l (.l (.r .h)))) none (.lg (nat_lit 7) (.s (.l (.l .h)))),
  .k (some (.r (.l (.l (.r .h))))) none (nat_lit 59) (.l (.l (.r (.r (.r .h))))) [(.s (.r (.r (.r (.l .h))))), (.s (.l (.l (.l (.r .h)))))],
  .p (.r (.l .h)) none (.mv (.s (.r (.l (.l (.r .h)))))),
  .p (.l (.r .h)) none (.mv (.c (.a (.i .i64 (.n (nat_lit 0))))))])
 .rt)))), false, false⟩
noncomputable def rf89 : RF := ⟨[.h, (.l .h)], [.s (.r (.l .h)), .s (.l (.r .h))], (.seq (.reg [.p (.r (.l .h)) none (.mv (.c (.a .s0))),
  .p (.l (.r .h)) none (.mv (.c (.a (.i .i64 (.n (nat_lit 0))))))])
 (.seq (.reg [.p (.r (.r .h)) none (.mv (.c (.a .s0)))])
 (.seq (.seq (.reg [.p (.l (.l (.r .h))) none (.mv (.s (.l .h))),
  .p (.r (.l (.r .h))) none (.ln (.s (.l (.l (.r .h))))),
  .p (.l (.r (.r .h))) none (.mv (.c (.a (.i .i64 (.n (nat_lit 0))))))])
 (.blk (nat_lit 0) (.loop (.seq (.reg [.p (.r (.r (.r .h))) none (.cp .lss (.s (.l (.r (.r .h)))) (.s (.r (.l (.r .h)))))])
 (.seq (.cond (.s (.r (.r (.r .h)))) .skip (.ex (nat_lit 0)))
 (.seq (.blk (nat_lit 1) (.seq (.reg [.p (.l (.l (.l (.l .h)))) none (.ix (nat_lit 6) (.s (.l (.l (.r .h)))) (.s (.l (.r (.r .h))))),
  .r (.r (.l (.l (.l .h)))) none (.lg (nat_lit 6) (.s (.l (.l (.l (.l .h)))))),
  .a (.r (.l (.l .h))) none (.al (nat_lit 168) (nat_lit 6) (.n (.n (.n .e (.t (nat_lit 1)) .e) (.i .i64 (.n (nat_lit 0))) (.n .e .s0 .e)) (.i .i64 (.n (nat_lit 0))) (.n (.n .e (.t (nat_lit 1)) .e) (.i .i64 (.n (nat_lit 0))) .e))),
  .c none none (.st (nat_lit 6) (.s (.r (.l (.l .h)))) (.s (.r (.l (.l (.l .h))))))])
 (.seq (.reg [.p (.r (.r (.l (.l .h)))) none (.mv (.s .h)),
  .r (.l (.l (.r (.l .h)))) none (.lg (nat_lit 6) (.s (.r (.l (.l .h))))),
  .k (some (.r (.l (.r (.l .h))))) none (nat_lit 92) (.r (.l (.r (.r (.r (.l .h)))))) [(.s (.r (.r (.l (.l .h))))), (.s (.l (.l (.r (.l .h)))))],
  .p (.l (.r (.l (.l .h)))) none (.mv (.s (.r (.l (.r (.l .h)))))),
  .p (.l (.r (.r (.l .h)))) none (.ex (nat_lit 0) (.s (.l (.r (.l (.l .h)))))),
  .p (.r (.r (.r (.l .h)))) none (.ex (nat_lit 1) (.s (.l (.r (.l (.l .h)))))),
  .a (.l (.r (.l .h))) none (.al (nat_lit 168) (nat_lit 6) (.n (.n (.n .e (.t (nat_lit 1)) .e) (.i .i64 (.n (nat_lit 0))) (.n .e .s0 .e)) (.i .i64 (.n (nat_lit 0))) (.n (.n .e (.t (nat_lit 1)) .e) (.i .i64 (.n (nat_lit 0))) .e))),
  .c none none (.st (nat_lit 6) (.s (.l (.r (.l .h)))) (.s (.l (.r (.r (.l .h)))))),
  .p (.r (.r (.l .h))) none (.mv (.s (.r (.r (.r (.l .h))))))])
 (.seq (.seq (.reg [.p (.l (.l (.l (.r .h)))) none (.mv (.s (.r (.r (.l .h))))),
  .p (.r (.l (.l (.r .h)))) none (.cp .neq (.s (.l (.l (.l (.r .h))))) (.c (.a (.i .i64 (.n (nat_lit 0))))))])
 (.cond (.s (.r (.l (.l (.r .h))))) (.seq (.reg [.p (.l (.r (.l (.r .h)))) none (.mv (.s (.r (.r (.l .h))))),
  .p (.r (.l .h)) none (.mv (.c (.a .s0))),
  .p (.l (.r .h)) none (.mv (.s (.l (.r (.l (.r .h))))))])
 .rt) .skip))
 (.reg [.p (.r (.r (.l (.r .h)))) none (.mv (.s (.r (.r .h)))),
  .r (.l (.l (.r (.r .h)))) none (.lg (nat_lit 6) (.s (.l (.r (.l .h))))),
  .a (.r (.l (.r (.r .h)))) none (.bs (nat_lit 168) (nat_lit 1) [(.i .i64 (.n (nat_lit 0))), (.i .i64 (.n (nat_lit 0))), (.i .i64 (.n (nat_lit 0))), (.t (nat_lit 1)), (.t (nat_lit 1)), .s0] [((nat_lit 0), (nat_lit 6), (.s (.l (.l (.r (.r .h))))))]),
  .c (some (.l (.r (.r (.r .h))))) none (.ap (nat_lit 168) (nat_lit 6) (nat_lit 80) (.s (.r (.r (.l (.r .h))))) (.s (.r (.l (.r (.r .h)))))),
  .p (.r (.r .h)) none (.mv (.s (.l (.r (.r (.r .h))))))])))))
 (.reg [.p (.r (.r (.r (.r .h)))) none (.ar .add (.s (.l (.r (.r .h)))) (.c (.a (.i .i64 (.n (nat_lit 1)))))),
  .p (.l (.r (.r .h))) none (.mv (.s (.r (.r (.r (.r .h))))))])))))))
 (.seq (.reg [.p (.l (.l (.l (.l (.l .h))))) none (.mv (.s (.r (.r .h)))),
  .p (.r (.l .h)) none (.mv (.s (.l (.l (.l (.l (.l .h))))))),
  .p (.l (.r .h)) none (.mv (.c (.a (.i .i64 (.n (nat_lit 0))))))])
 .rt)))), false, false⟩
noncomputable def rf90 : RF := ⟨[.h, (.l .h)], [.s (.r (.l .h)), .s (.l (.r .h))], (.seq (.reg [.p (.r (.l .h)) none (.mv (.c (.a .s0))),
  .p (.l (.r .h)) none (.mv (.c (.a (.i .i64 (.n (nat_lit 0))))))])
 (.seq (.reg [.p (.l (.r (.l .h))) none (.mv (.s .h)),
  .p (.r (.r (.l .h))) none (.nc (.s (.l (.r (.l .h))))),
  .p (.l (.l (.r .h))) none (.fa (nat_lit 8) (.s (.r (.r (.l .h))))),
  .r (.r (.l (.r .h))) none (.ld (.s (.l (.l (.r .h))))),
  .p (.l (.r (.r .h))) none (.ln (.s (.r (.l (.r .h))))),
  .p (.r (.r .h)) none (.mv (.s (.l (.r (.r .h)))))])
 (.seq (.reg [.p (.l (.l (.l (.l .h)))) none (.mv (.s .h)),
  .p (.r (.l (.l (.l .h)))) none (.mv (.s (.l .h))),
  .k (some (.l (.r (.l (.l .h))))) none (nat_lit 60) (.r (.l (.r (.r (.r .h))))) [(.s (.l (.l (.l (.l .h))))), (.s (.r (.l (.l (.l .h)))))],
  .p (.r (.r (.r .h))) none (.mv (.s (.l (.r (.l (.l .h)))))),
  .p (.r (.r (.l (.l .h)))) none (.ex (nat_lit 0) (.s (.r (.r (.r .h))))),
  .p (.l (.l (.r (.l .h)))) none (.ex (nat_lit 1) (.s (.r (.r (.r .h))))),
  .p (.l (.l (.l .h))) none (.mv (.s (.r (.r (.l (.l .h)))))),
  .p (.r (.l (.l .h))) none (.mv (.s (.l (.l (.r (.l .h))))))])
 (.seq (.reg [.p (.r (.l (.r (.l .h)))) none (.mv (.s .h)),
  .p (.l (.r (.r (.l .h)))) none (.mv (.s (.r (.r .h)))),
  .k (some (.r (.r (.r (.l .h))))) none (nat_lit 61) (.l (.r (.r (.r (.r .h))))) [(.s (.r (.l (.r (.l .h))))), (.s (.l (.r (.r (.l .h)))))]])
 (.seq (.reg [.p (.l (.l (.l (.r .h)))) none (.mv (.s (.l (.l (.l .h))))),
  .p (.r (.l (.l (.r .h)))) none (.mv (.s (.r (.l (.l .h))))),
  .p (.r (.l .h)) none (.mv (.s (.l (.l (.l (.r .h)))))),
  .p (.l (.r .h)) none (.mv (.s (.r (.l (.l (.r .h))))))])
 .rt))))), false, false⟩
noncomputable def rf91 : RF := ⟨[.h, (.l .h)], [.s (.r (.l .h)), .s (.l (.r .h))], (.seq (.reg [.p (.r (.l .h)) none (.mv (.c (.a (.i .i64 (.n (nat_lit 0)))))),
  .p (.l (.r .h)) none (.mv (.c (.a (.b false))))])
 (.seq (.seq (.reg [.p (.r (.l (.l .h))) none (.mv (.s .h)),
  .p (.l (.r (.l .h))) none (.nc (.s (.r (.l (.l .h))))),
  .p (.r (.r (.l .h))) none (.fa (nat_lit 8) (.s (.l (.r (.l .h))))),
  .r (.l (.l (.r .h))) none (.ld (.s (.r (.r (.l .h))))),
  .p (.r (.l (.r .h))) none (.ln (.s (.l (.l (.r .h))))),
  .p (.l (.r (.r .h))) none (.mv (.c (.a (.i .i64 (.n (nat_lit 0))))))])
 (.blk (nat_lit 0) (.loop (.seq (.reg [.p (.r (.r (.r .h))) none (.cp .lss (.s (.l (.r (.r .h)))) (.s (.r (.l (.r .h)))))])
 (.seq (.cond (.s (.r (.r (.r .h)))) .skip (.ex (nat_lit 0)))
 (.seq (.blk (nat_lit 1) (.seq (.reg [.p (.l (.l (.l (.l .h)))) none (.ix (nat_lit 1) (.s (.l (.l (.r .h)))) (.s (.l (.r (.r .h))))),
  .r (.r (.l (.l (.l .h)))) none (.ld (.s (.l (.l (.l (.l .h)))))),
  .p (.l (.l (.l .h))) none (.mv (.s (.r (.l (.l (.l .h))))))])
 (.seq (.reg [.p (.l (.r (.l (.l .h)))) none (.mv (.s .h)),
  .p (.r (.r (.l (.l .h)))) none (.nc (.s (.l (.r (.l (.l .h)))))),
  .p (.l (.l (.r (.l .h)))) none (.fa (nat_lit 7) (.s (.r (.r (.l (.l .h)))))),
  .r (.r (.l (.r (.l .h)))) none (.ld (.s (.l (.l (.r (.l .h)))))),
  .p (.l (.r (.r (.l .h)))) none (.mv (.s (.l (.l (.l .h))))),
  .p (.r (.r (.r (.l .h)))) none (.ix (nat_lit 7) (.s (.r (.l (.r (.l .h))))) (.s (.l (.r (.r (.l .h)))))),
  .p (.l (.l (.l (.r .h)))) none (.fa (nat_lit 0) (.s (.r (.r (.r (.l .h)))))),
  .r (.r (.l (.l (.r .h)))) none (.ld (.s (.l (.l (.l (.r .h)))))),
  .p (.l (.r (.l (.r .h)))) none (.mv (.s (.l .h))),
  .p (.r (.r (.l (.r .h)))) none (.eq false false [(nat_lit 2)] (.s (.r (.l (.l (.r .h))))) (.s (.l (.r (.l (.r .h))))))])
 (.cond (.s (.r (.r (.l (.r .h))))) (.seq (.reg [.p (.l (.l (.r (.r .h)))) none (.mv (.s (.l (.l (.l .h))))),
  .p (.r (.l .h)) none (.mv (.s (.l (.l (.r (.r .h)))))),
  .p (.l (.r .h)) none (.mv (.c (.a (.b true))))])
 .rt) .skip))))
 (.reg [.p (.r (.l (.r (.r .h)))) none (.ar .add (.s (.l (.r (.r .h)))) (.c (.a (.i .i64 (.n (nat_lit 1)))))),
  .p (.l (.r (.r .h))) none (.mv (.s (.r (.l (.r (.r .h))))))])))))))
 (.seq (.reg [.p (.r (.l .h)) none (.mv (.c (.a (.i .i64 (.n (nat_lit 0)))))),
  .p (.l (.r .h)) none (.mv (.c (.a (.b false))))])
 .rt))), false, false⟩
noncomputable def rf92 : RF := ⟨[.h, (.l .h)], [.g (.r (.l .h)) (nat_lit 6), .s (.l (.r .h))], (.seq (.reg [.a (.l (.l .h)) none (.bx (nat_lit 168) (nat_lit 6) (.s (.l .h))),
  .a (.r (.l .h)) none (.al (nat_lit 168) (nat_lit 6) (.n (.n (.n .e (.t (nat_lit 1)) .e) (.i .i64 (.n (nat_lit 0))) (.n .e .s0 .e)) (.i .i64 (.n (nat_lit 0))) (.n (.n .e (.t (nat_lit 1)) .e) (.i .i64 (.n (nat_lit 0))) .e))),
  .p (.l (.r .h)) none (.mv (.c (.a (.i .i64 (.n (nat_lit 0))))))])
 (.seq (.reg [.p (.r (.r .h)) none (.mv (.c (.a (.i .i64 (.n (nat_lit 0))))))])
 (.seq (.seq (.reg [.p (.r (.r (.l .h))) none (.fa (nat_lit 0) (.s (.l (.l .h)))),
  .r (.l (.l (.r .h))) none (.ld (.s (.r (.r (.l .h)))))])
 (.blk (nat_lit 0) (.seq (.reg [.p (.l (.r (.r .h))) none (.cp .eql (.s (.l (.l (.r .h)))) (.c (.a (.i .i64 (.n (nat_lit 1)))))),
  .p (.r (.l (.r .h))) none (.mv (.s (.l (.r (.r .h)))))])
 (.cond (.s (.r (.l (.r .h)))) (.reg [.p (.r (.r .h)) none (.mv (.c (.a (.i .i64 (.n (nat_lit 1))))))]) (.seq (.reg [.p (.l (.l (.l (.l .h)))) none (.cp .eql (.s (.l (.l (.r .h)))) (.c (.a (.i .i64 (.n (nat_lit 2)))))),
  .p (.r (.r (.r .h))) none (.mv (.s (.l (.l (.l (.l .h))))))])
 (.cond (.s (.r (.r (.r .h)))) (.reg [.p (.r (.r .h)) none (.mv (.c (.a (.i .i64 (.n (nat_lit 2))))))]) (.seq (.reg [.p (.l (.r (.l (.l .h)))) none (.cp .eql (.s (.l (.l (.r .h)))) (.c (.a (.i .i64 (.n (nat_lit 3)))))),
  .p (.r (.l (.l (.l .h)))) none (.mv (.s (.l (.r (.l (.l .h))))))])
 (.cond (.s (.r (.l (.l (.l .h))))) (.reg [.p (.r (.r .h)) none (.mv (.c (.a (.i .i64 (.n (nat_lit 3))))))]) .skip))))))))
 (.seq (.seq (.reg [.p (.r (.r (.l (.l .h)))) none (.mv (.s (.r (.r .h)))),
  .p (.l (.l (.r (.l .h)))) none (.cp .neq (.s (.r (.r (.l (.l .h))))) (.c (.a (.i .i64 (.n (nat_lit 0))))))])
 (.cond (.s (.l (.l (.r (.l .h))))) (.seq (.reg [.p (.l (.r (.r (.l .h)))) none (.mv (.s .h)),
  .p (.r (.r (.r (.l .h)))) none (.fa (nat_lit 3) (.s (.l (.l .h)))),
  .r (.l (.l (.l (.r .h)))) none (.ld (.s (.r (.r (.r (.l .h)))))),
  .k (some (.r (.l (.l (.r .h))))) none (nat_lit 91) (.l (.l (.r (.r (.r (.l .h)))))) [(.s (.l (.r (.r (.l .h))))), (.s (.l (.l (.l (.r .h)))))],
  .p (.r (.l (.r (.l .h)))) none (.mv (.s (.r (.l (.l (.r .h)))))),
  .p (.l (.r (.l (.r .h)))) none (.ex (nat_lit 0) (.s (.r (.l (.r (.l .h)))))),
  .p (.r (.r (.l (.r .h)))) none (.ex (nat_lit 1) (.s (.r (.l (.r (.l .h)))))),
  .p (.l (.l (.l .h))) none (.mv (.s (.l (.r (.l (.r .h)))))),
  .p (.r (.l (.l .h))) none (.mv (.s (.r (.r (.l (.r .h))))))])
 (.seq (.seq (.reg [.p (.l (.l (.r (.r .h)))) none (.mv (.s (.r (.l (.l .h))))),
  .p (.r (.l (.r (.r .h)))) none (.nt (.s (.l (.l (.r (.r .h))))))])
 (.cond (.s (.r (.l (.r (.r .h))))) (.seq (.reg [.r (.l (.r (.r (.r .h)))) none (.lg (nat_lit 6) (.s (.l (.l .h)))),
  .c none none (.st (nat_lit 6) (.s (.r (.l .h))) (.s (.l (.r (.r (.r .h)))))),
  .p (.l (.r .h)) none (.mv (.c (.a (.i .i64 (.n (nat_lit 8))))))])
 .rt) .skip))
 (.seq (.seq (.reg [.p (.r (.r (.r (.r .h)))) none (.mv (.s .h)),
  .p (.l (.l (.l (.l (.l .h))))) none (.nc (.s (.r (.r (.r (.r .h)))))),
  .p (.r (.l (.l (.l (.l .h))))) none (.fa (nat_lit 7) (.s (.l (.l (.l (.l (.l .h))))))),
  .r (.l (.r (.l (.l (.l .h))))) none (.ld (.s (.r (.l (.l (.l (.l .h))))))),
  .p (.r (.r (.l (.l (.l .h))))) none (.mv (.s (.l (.l (.l .h))))),
  .p (.l (.l (.r (.l (.l .h))))) none (.ix (nat_lit 7) (.s (.l (.r (.l (.l (.l .h)))))) (.s (.r (.r (.l (.l (.l .h))))))),
  .p (.r (.l (.r (.l (.l .h))))) none (.fa (nat_lit 1) (.s (.l (.l (.r (.l (.l .h))))))),
  .r (.l (.r (.r (.l (.l .h))))) none (.ld (.s (.r (.l (.r (.l (.l .h))))))),
  .p (.r (.r (.r (.l (.l .h))))) none (.mv (.s (.r (.r .h)))),
  .p (.l (.l (.l (.r (.l .h))))) none (.cp .neq (.s (.l (.r (.r (.l (.l .h)))))) (.s (.r (.r (.r (.l (.l .h)))))))])
 (.cond (.s (.l (.l (.l (.r (.l .h)))))) (.seq (.reg [.r (.r (.l (.l (.r (.l .h))))) none (.lg (nat_lit 6) (.s (.l (.l .h)))),
  .c none none (.st (nat_lit 6) (.s (.r (.l .h))) (.s (.r (.l (.l (.r (.l .h))))))),
  .p (.l (.r .h)) none (.mv (.c (.a (.i .i64 (.n (nat_lit 10))))))])
 .rt) .skip))
 (.reg [.p (.l (.r (.l (.r (.l .h))))) none (.mv (.s (.l (.l (.l .h))))),
  .p (.r (.r (.l (.r (.l .h))))) none (.fa (nat_lit 2) (.s (.l (.l .h)))),
  .c none none (.st (nat_lit 1) (.s (.r (.r (.l (.r (.l .h)))))) (.s (.l (.r (.l (.r (.l .h)))))))])))) .skip))
 (.seq (.seq (.reg [.p (.l (.l (.r (.r (.l .h))))) none (.fa (nat_lit 0) (.s (.l (.l .h)))),
  .r (.r (.l (.r (.r (.l .h))))) none (.ld (.s (.l (.l (.r (.r (.l .h))))))),
  .p (.l (.r (.r (.r (.l .h))))) none (.cp .eql (.s (.r (.l (.r (.r (.l .h)))))) (.c (.a (.i .i64 (.n (nat_lit 2))))))])
 (.cond (.s (.l (.r (.r (.r (.l .h)))))) (.seq (.drw [⟨.p (.r (.r (.r (.r (.l .h))))) none (.mv (.s .h)), (nat_lit 0), [], []⟩,
  ⟨.p (.l (.l (.l (.l (.r .h))))) none (.nc (.s (.r (.r (.r (.r (.l .h))))))), (nat_lit 1), [(nat_lit 0)], []⟩,
  ⟨.p (.r (.l (.l (.l (.r .h))))) none (.fa (nat_lit 2) (.s (.l (.l (.l (.l (.r .h))))))), (nat_lit 2), [(nat_lit 0), (nat_lit 1)], []⟩,
  ⟨.p (.l (.r (.l (.l (.r .h))))) none (.fa (nat_lit 0) (.s (.r (.l (.l (.l (.r .h))))))), (nat_lit 3), [(nat_lit 0), (nat_lit 1), (nat_lit 2)], []⟩,
  ⟨.p (.r (.r (.l (.l (.r .h))))) none (.fa (nat_lit 0) (.s (.l (.r (.l (.l (.r .h))))))), (nat_lit 4), [(nat_lit 0), (nat_lit 1), (nat_lit 2), (nat_lit 3)], []⟩,
  ⟨.r (.l (.l (.r (.l (.r .h))))) none (.ld (.s (.r (.r (.l (.l (.r .h))))))), (nat_lit 5), [(nat_lit 0), (nat_lit 1), (nat_lit 2), (nat_lit 3), (nat_lit 4)], []⟩,
  ⟨.p (.r (.l (.r (.l (.r .h))))) none (.mv (.s .h)), (nat_lit 6), [], []⟩,
  ⟨.p (.l (.r (.r (.l (.r .h))))) none (.nc (.s (.r (.l (.r (.l (.r .h))))))), (nat_lit 7), [(nat_lit 6)], []⟩,
  ⟨.p (.r (.r (.r (.l (.r .h))))) none (.fa (nat_lit 7) (.s (.l (.r (.r (.l (.r .h))))))), (nat_lit 8), [(nat_lit 6), (nat_lit 7)], []⟩,
  ⟨.r (.l (.l (.l (.r (.r .h))))) none (.ld (.s (.r (.r (.r (.l (.r .h))))))), (nat_lit 9), [(nat_lit 6), (nat_lit 7), (nat_lit 8)], []⟩,
  ⟨.p (.r (.l (.l (.r (.r .h))))) none (.fa (nat_lit 2) (.s (.l (.l .h)))), (nat_lit 10), [], []⟩,
  ⟨.r (.l (.r (.l (.r (.r .h))))) none (.ld (.s (.r (.l (.l (.r (.r .h))))))), (nat_lit 11), [(nat_lit 10)], []⟩,
  ⟨.p (.r (.r (.l (.r (.r .h))))) none (.ix (nat_lit 7) (.s (.l (.l (.l (.r (.r .h)))))) (.s (.l (.r (.l (.r (.r .h))))))), (nat_lit 12), [(nat_lit 6), (nat_lit 7), (nat_lit 8), (nat_lit 9), (nat_lit 10), (nat_lit 11)], []⟩,
  ⟨.p (.l (.l (.r (.r (.r .h))))) none (.fa (nat_lit 2) (.s (.r (.r (.l (.r (.r .h))))))), (nat_lit 13), [(nat_lit 6), (nat_lit 7), (nat_lit 8), (nat_lit 9), (nat_lit 10), (nat_lit 11), (nat_lit 12)], []⟩,
  ⟨.r (.r (.l (.r (.r (.r .h))))) none (.ld (.s (.l (.l (.r (.r (.r .h))))))), (nat_lit 14), [(nat_lit 6), (nat_lit 7), (nat_lit 8), (nat_lit 9), (nat_lit 10), (nat_lit 11), (nat_lit 12), (nat_lit 13)], []⟩,
  ⟨.p (.l (.r (.r (.r (.r .h))))) none (.ix (nat_lit 2) (.s (.l (.l (.r (.l (.r .h)))))) (.s (.r (.l (.r (.r (.r .h))))))), (nat_lit 15), [(nat_lit 0), (nat_lit 1), (nat_lit 2), (nat_lit 3), (nat_lit 4), (nat_lit 5), (nat_lit 6), (nat_lit 7), (nat_lit 8), (nat_lit 9), (nat_lit 10), (nat_lit 11), (nat_lit 12), (nat_lit 13), (nat_lit 14)], []⟩,
  ⟨.p (.r (.r (.r (.r (.r .h))))) none (.fa (nat_lit 1) (.s (.l (.r (.r (.r (.r .h))))))), (nat_lit 16), [(nat_lit 0), (nat_lit 1), (nat_lit 2), (nat_lit 3), (nat_lit 4), (nat_lit 5), (nat_lit 6), (nat_lit 7), (nat_lit 8), (nat_lit 9), (nat_lit 10), (nat_lit 11), (nat_lit 12), (nat_lit 13), (nat_lit 14), (nat_lit 15)], []⟩,
  ⟨.r (.l (.l (.l (.l (.l (.l .h)))))) none (.ld (.s (.r (.r (.r (.r (.r .h))))))), (nat_lit 17), [(nat_lit 0), (nat_lit 1), (nat_lit 2), (nat_lit 3), (nat_lit 4), (nat_lit 5), (nat_lit 6), (nat_lit 7), (nat_lit 8), (nat_lit 9), (nat_lit 10), (nat_lit 11), (nat_lit 12), (nat_lit 13), (nat_lit 14), (nat_lit 15), (nat_lit 16)], []⟩,
  ⟨.p (.r (.l (.l (.l (.l (.l .h)))))) none (.fa (nat_lit 4) (.s (.l (.l .h)))), (nat_lit 18), [], []⟩,
  ⟨.r (.l (.r (.l (.l (.l (.l .h)))))) none (.ld (.s (.r (.l (.l (.l (.l (.l .h)))))))), (nat_lit 19), [(nat_lit 18)], []⟩,
  ⟨.k (some (.r (.r (.l (.l (.l (.l .h))))))) none (nat_lit 93) (.l (.r (.r (.r (.r (.l .h)))))) [(.s (.l (.l (.l (.l (.l (.l .h))))))), (.s (.l (.r (.l (.l (.l (.l .h)))))))], (nat_lit 20), [(nat_lit 0), (nat_lit 1), (nat_lit 2), (nat_lit 3), (nat_lit 4), (nat_lit 5), (nat_lit 6), (nat_lit 7), (nat_lit 8), (nat_lit 9), (nat_lit 10), (nat_lit 11), (nat_lit 12), (nat_lit 13), (nat_lit 14), (nat_lit 15), (nat_lit 16), (nat_lit 17), (nat_lit 18), (nat_lit 19)], []⟩,
  ⟨.p (.l (.l (.r (.l (.l (.l .h)))))) none (.fa (nat_lit 1) (.s (.l (.l .h)))), (nat_lit 21), [(nat_lit 0), (nat_lit 1), (nat_lit 2), (nat_lit 3), (nat_lit 4), (nat_lit 5), (nat_lit 6), (nat_lit 7), (nat_lit 8), (nat_lit 9), (nat_lit 10), (nat_lit 11), (nat_lit 12), (nat_lit 13), (nat_lit 14), (nat_lit 15), (nat_lit 16), (nat_lit 17), (nat_lit 18), (nat_lit 19), (nat_lit 20)], []⟩,
  ⟨.c none none (.st (nat_lit 1) (.s (.l (.l (.r (.l (.l (.l .h))))))) (.s (.r (.r (.l (.l (.l (.l .h)))))))), (nat_lit 22), [(nat_lit 0), (nat_lit 1), (nat_lit 2), (nat_lit 3), (nat_lit 4), (nat_lit 5), (nat_lit 6), (nat_lit 7), (nat_lit 8), (nat_lit 9), (nat_lit 10), (nat_lit 11), (nat_lit 12), (nat_lit 13), (nat_lit 14), (nat_lit 15), (nat_lit 16), (nat_lit 17), (nat_lit 18), (nat_lit 19), (nat_lit 20), (nat_lit 21)], []⟩])
 (.seq (.reg [.p (.r (.l (.r (.l (.l (.l .h)))))) none (.fa (nat_lit 1) (.s (.l (.l .h)))),
  .r (.l (.r (.r (.l (.l (.l .h)))))) none (.ld (.s (.r (.l (.r (.l (.l (.l .h)))))))),
  .p (.r (.r (.r (.l (.l (.l .h)))))) none (.cp .lss (.s (.l (.r (.r (.l (.l (.l .h))))))) (.c (.a (.i .i64 (.n (nat_lit 0))))))])
 (.cond (.s (.r (.r (.r (.l (.l (.l .h))))))) (.seq (.reg [.r (.l (.l (.l (.r (.l (.l .h)))))) none (.lg (nat_lit 6) (.s (.l (.l .h)))),
  .c none none (.st (nat_lit 6) (.s (.r (.l .h))) (.s (.l (.l (.l (.r (.l (.l .h)))))))),
  .p (.l (.r .h)) none (.mv (.c (.a (.i .i64 (.n (nat_lit 8))))))])
 .rt) .skip))) .skip))
 (.seq (.reg [.p (.l (.r (.l .h))) none (.mv (.c (.a (.i .i64 (.n (nat_lit 0))))))])
 (.seq (.reg [.p (.l (.r (.l (.r (.l (.l .h)))))) none (.mv (.s .h)),
  .p (.r (.r (.l (.r (.l (.l .h)))))) none (.fa (nat_lit 5) (.s (.l (.l .h)))),
  .r (.l (.l (.r (.r (.l (.l .h)))))) none (.ld (.s (.r (.r (.l (.r (.l (.l .h)))))))),
  .k (some (.r (.l (.r (.r (.l (.l .h))))))) none (nat_lit 89) (.l (.r (.l (.r (.r (.l .h)))))) [(.s (.l (.r (.l (.r (.l (.l .h))))))), (.s (.l (.l (.r (.r (.l (.l .h)))))))],
  .p (.r (.l (.l (.r (.l (.l .h)))))) none (.mv (.s (.r (.l (.r (.r (.l (.l .h)))))))),
  .p (.l (.r (.r (.r (.l (.l .h)))))) none (.ex (nat_lit 0) (.s (.r (.l (.l (.r (.l (.l .h)))))))),
  .p (.r (.r (.r (.r (.l (.l .h)))))) none (.ex (nat_lit 1) (.s (.r (.l (.l (.r (.l (.l .h)))))))),
  .p (.l (.l (.l (.l (.r (.l .h)))))) none (.fa (nat_lit 5) (.s (.l (.l .h)))),
  .c none none (.st (nat_lit 1) (.s (.l (.l (.l (.l (.r (.l .h))))))) (.s (.l (.r (.r (.r (.l (.l .h)))))))),
  .p (.l (.r (.l .h))) none (.mv (.s (.r (.r (.r (.r (.l (.l .h))))))))])
 (.seq (.reg [.r (.r (.l (.l (.l (.r (.l .h)))))) none (.lg (nat_lit 6) (.s (.l (.l .h)))),
  .p (.l (.r (.l (.l (.r (.l .h)))))) none (.mv (.s (.l (.r (.l .h))))),
  .c none none (.st (nat_lit 6) (.s (.r (.l .h))) (.s (.r (.l (.l (.l (.r (.l .h)))))))),
  .p (.l (.r .h)) none (.mv (.s (.l (.r (.l (.l (.r (.l .h))))))))])
 .rt)))))))), false, false⟩
noncomputable def rf93 : RF := ⟨[.h, (.l .h)], [.s (.r (.l .h))], (.seq (.reg [.p (.r (.l .h)) none (.mv (.c (.a (.i .i64 (.n (nat_lit 0))))))])
 (.seq (.seq (.reg [.p (.r (.r .h)) none (.mv (.s .h)),
  .p (.l (.l (.l .h))) none (.ln (.s (.r (.r .h)))),
  .p (.r (.l (.l .h))) none (.mv (.c (.a (.i .i64 (.n (nat_lit 0))))))])
 (.blk (nat_lit 0) (.loop (.seq (.reg [.p (.l (.r (.l .h))) none (.cp .lss (.s (.r (.l (.l .h)))) (.s (.l (.l (.l .h)))))])
 (.seq (.cond (.s (.l (.r (.l .h)))) .skip (.ex (nat_lit 0)))
 (.seq (.blk (nat_lit 1) (.seq (.reg [.p (.r (.r (.l .h))) none (.mv (.s (.r (.l (.l .h))))),
  .p (.l (.r .h)) none (.mv (.s (.r (.r (.l .h)))))])
 (.seq (.reg [.p (.l (.l (.r .h))) none (.mv (.s (.l .h))),
  .p (.r (.l (.r .h))) none (.mv (.s .h)),
  .p (.l (.r (.r .h))) none (.mv (.s (.l (.r .h)))),
  .p (.r (.r (.r .h))) none (.ix (nat_lit 1) (.s (.r (.l (.r .h)))) (.s (.l (.r (.r .h))))),
  .r (.l (.l (.l (.l .h)))) none (.ld (.s (.r (.r (.r .h))))),
  .p (.r (.l (.l (.l .h)))) none (.eq false false [(nat_lit 2)] (.s (.l (.l (.r .h)))) (.s (.l (.l (.l (.l .h))))))])
 (.cond (.s (.r (.l (.l (.l .h))))) (.seq (.reg [.p (.l (.r (.l (.l .h)))) none (.mv (.s (.l (.r .h)))),
  .p (.r (.l .h)) none (.mv (.s (.l (.r (.l (.l .h))))))])
 .rt) .skip))))
 (.reg [.p (.r (.r (.l (.l .h)))) none (.ar .add (.s (.r (.l (.l .h)))) (.c (.a (.i .i64 (.n (nat_lit 1)))))),
  .p (.r (.l (.l .h))) none (.mv (.s (.r (.r (.l (.l .h))))))])))))))
 (.seq (.reg [.p (.r (.l .h)) none (.mv (.c (.a (.i .i64 (.g (nat_lit 0))))))])
 .rt))), false, false⟩
end
end Go.Proofs.Ytikafojlhinonaa
