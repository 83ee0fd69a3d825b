/- The program's functions in the evaluator's form, part 1. -/
import Derived.Test.YtikafojlhinonaaRows
import Derived.Test.YtikafojlhinonaaE27
set_option linter.unusedVariables false
set_option maxRecDepth 100000
namespace Go.Proofs.Ytikafojlhinonaa
open Go.Ev
noncomputable section
noncomputable def rf63 : RF := ⟨[.h], [.s (.r .h)], (.seq (.reg [.a (.l .h) none (.bx (nat_lit 46) (nat_lit 11) (.s .h)),
  .p (.r .h) none (.mv (.c (.a (.b false))))])
 (.seq (.reg [.p (.l (.r .h)) none (.fa (nat_lit 0) (.s (.l .h))),
  .r (.r (.r .h)) none (.ld (.s (.l (.r .h)))),
  .k (some (.l (.l (.l .h)))) none (nat_lit 62) (.r (.r (.r (.r (.r .h))))) [(.s (.r (.r .h)))],
  .a (.l (.l .h)) none (.al (nat_lit 3) (nat_lit 1) (.n .e (.i .i64 (.n (nat_lit 0))) .e)),
  .c none none (.st (nat_lit 1) (.s (.l (.l .h))) (.s (.l (.l (.l .h)))))])
 (.seq (.seq (.reg [.r (.r (.l (.l .h))) none (.ld (.s (.l (.l .h)))),
  .p (.l (.r (.l .h))) none (.cp .eql (.s (.r (.l (.l .h)))) (.c (.a (.i .i64 (.n (nat_lit 0))))))])
 (.cond (.s (.l (.r (.l .h)))) (.seq (.reg [.p (.r .h) none (.mv (.c (.a (.b false))))])
 .rt) .skip))
 (.seq (.reg [.p (.r (.r (.l .h))) none (.mf (nat_lit 74) [(.s (.l (.l .h)))]),
  .p (.r (.l .h)) none (.mv (.s (.r (.r (.l .h)))))])
 (.seq (.reg [.p (.l (.l (.r .h))) none (.mv (.s (.r (.l .h)))),
  .p (.r (.l (.r .h))) none (.fa (nat_lit 1) (.s (.l .h))),
  .r (.l (.r (.r .h))) none (.ld (.s (.r (.l (.r .h))))),
  .v (some (.r (.r (.r .h)))) none (.s (.l (.l (.r .h)))) [(.c (.a (.i .i64 (.n (nat_lit 1))))), (.s (.l (.r (.r .h))))],
  .p (.l (.l (.l (.l .h)))) none (.mv (.s (.r (.r (.r .h))))),
  .p (.r (.l (.l (.l .h)))) (some ((.l (.l (.l (.l .h)))), false)) (.mv (.s (.r (.l .h)))),
  .p (.l (.r (.l (.l .h)))) (some ((.l (.l (.l (.l .h)))), false)) (.fa (nat_lit 2) (.s (.l .h))),
  .r (.r (.r (.l (.l .h)))) (some ((.l (.l (.l (.l .h)))), false)) (.ld (.s (.l (.r (.l (.l .h)))))),
  .v (some (.l (.l (.r (.l .h))))) (some ((.l (.l (.l (.l .h)))), false)) (.s (.r (.l (.l (.l .h))))) [(.c (.a (.i .i64 (.n (nat_lit 2))))), (.s (.r (.r (.l (.l .h)))))],
  .p (.r (.l (.r (.l .h)))) none (.pk (.s (.l (.l (.l (.l .h))))) (.c (.a (.b true))) (.s (.l (.l (.r (.l .h)))))),
  .p (.l (.r (.r (.l .h)))) none (.mv (.s (.r (.l (.r (.l .h)))))),
  .p (.r (.r (.r (.l .h)))) (some ((.l (.r (.r (.l .h)))), false)) (.mv (.s (.r (.l .h)))),
  .p (.l (.l (.l (.r .h)))) (some ((.l (.r (.r (.l .h)))), false)) (.fa (nat_lit 3) (.s (.l .h))),
  .r (.r (.l (.l (.r .h)))) (some ((.l (.r (.r (.l .h)))), false)) (.ld (.s (.l (.l (.l (.r .h)))))),
  .v (some (.l (.r (.l (.r .h))))) (some ((.l (.r (.r (.l .h)))), false)) (.s (.r (.r (.r (.l .h))))) [(.c (.a (.i .i64 (.n (nat_lit 4))))), (.s (.r (.l (.l (.r .h)))))],
  .p (.r (.r (.l (.r .h)))) none (.pk (.s (.l (.r (.r (.l .h))))) (.c (.a (.b true))) (.s (.l (.r (.l (.r .h)))))),
  .p (.l (.l (.r (.r .h)))) none (.mv (.s (.r (.r (.l (.r .h)))))),
  .p (.r (.l (.r (.r .h)))) (some ((.l (.l (.r (.r .h)))), false)) (.mv (.s (.r (.l .h)))),
  .p (.l (.r (.r (.r .h)))) (some ((.l (.l (.r (.r .h)))), false)) (.fa (nat_lit 4) (.s (.l .h))),
  .r (.r (.r (.r (.r .h)))) (some ((.l (.l (.r (.r .h)))), false)) (.ld (.s (.l (.r (.r (.r .h)))))),
  .v (some (.l (.l (.l (.l (.l .h)))))) (some ((.l (.l (.r (.r .h)))), false)) (.s (.r (.l (.r (.r .h))))) [(.c (.a (.i .i64 (.n (nat_lit 8))))), (.s (.r (.r (.r (.r .h)))))],
  .p (.r (.l (.l (.l (.l .h))))) none (.pk (.s (.l (.l (.r (.r .h))))) (.c (.a (.b true))) (.s (.l (.l (.l (.l (.l .h))))))),
  .p (.l (.r (.l (.l (.l .h))))) none (.mv (.s (.r (.l (.l (.l (.l .h))))))),
  .p (.r (.r (.l (.l (.l .h))))) (some ((.l (.r (.l (.l (.l .h))))), false)) (.mv (.s (.r (.l .h)))),
  .p (.l (.l (.r (.l (.l .h))))) (some ((.l (.r (.l (.l (.l .h))))), false)) (.fa (nat_lit 5) (.s (.l .h))),
  .r (.r (.l (.r (.l (.l .h))))) (some ((.l (.r (.l (.l (.l .h))))), false)) (.ld (.s (.l (.l (.r (.l (.l .h))))))),
  .v (some (.l (.r (.r (.l (.l .h)))))) (some ((.l (.r (.l (.l (.l .h))))), false)) (.s (.r (.r (.l (.l (.l .h)))))) [(.c (.a (.i .i64 (.n (nat_lit 16))))), (.s (.r (.l (.r (.l (.l .h))))))],
  .p (.r (.r (.r (.l (.l .h))))) none (.pk (.s (.l (.r (.l (.l (.l .h)))))) (.c (.a (.b true))) (.s (.l (.r (.r (.l (.l .h))))))),
  .p (.l (.l (.l (.r (.l .h))))) none (.mv (.s (.r (.r (.r (.l (.l .h))))))),
  .p (.r (.l (.l (.r (.l .h))))) (some ((.l (.l (.l (.r (.l .h))))), false)) (.mv (.s (.r (.l .h)))),
  .p (.l (.r (.l (.r (.l .h))))) (some ((.l (.l (.l (.r (.l .h))))), false)) (.fa (nat_lit 6) (.s (.l .h))),
  .r (.r (.r (.l (.r (.l .h))))) (some ((.l (.l (.l (.r (.l .h))))), false)) (.ld (.s (.l (.r (.l (.r (.l .h))))))),
  .v (some (.l (.l (.r (.r (.l .h)))))) (some ((.l (.l (.l (.r (.l .h))))), false)) (.s (.r (.l (.l (.r (.l .h)))))) [(.c (.a (.i .i64 (.n (nat_lit 32))))), (.s (.r (.r (.l (.r (.l .h))))))],
  .p (.r (.l (.r (.r (.l .h))))) none (.pk (.s (.l (.l (.l (.r (.l .h)))))) (.c (.a (.b true))) (.s (.l (.l (.r (.r (.l .h))))))),
  .p (.l (.r (.r (.r (.l .h))))) none (.mv (.s (.r (.l (.r (.r (.l .h))))))),
  .p (.r (.r (.r (.r (.l .h))))) (some ((.l (.r (.r (.r (.l .h))))), false)) (.mv (.s (.r (.l .h)))),
  .p (.l (.l (.l (.l (.r .h))))) (some ((.l (.r (.r (.r (.l .h))))), false)) (.fa (nat_lit 7) (.s (.l .h))),
  .r (.r (.l (.l (.l (.r .h))))) (some ((.l (.r (.r (.r (.l .h))))), false)) (.ld (.s (.l (.l (.l (.l (.r .h))))))),
  .v (some (.l (.r (.l (.l (.r .h)))))) (some ((.l (.r (.r (.r (.l .h))))), false)) (.s (.r (.r (.r (.r (.l .h)))))) [(.c (.a (.i .i64 (.n (nat_lit 32))))), (.s (.r (.l (.l (.l (.r .h))))))],
  .p (.r (.r (.l (.l (.r .h))))) none (.pk (.s (.l (.r (.r (.r (.l .h)))))) (.c (.a (.b true))) (.s (.l (.r (.l (.l (.r .h))))))),
  .p (.l (.l (.r (.l (.r .h))))) none (.mv (.s (.r (.r (.l (.l (.r .h))))))),
  .r (.r (.l (.r (.l (.r .h))))) (some ((.l (.l (.r (.l (.r .h))))), false)) (.ld (.s (.l (.l .h)))),
  .p (.l (.r (.r (.l (.r .h))))) (some ((.l (.l (.r (.l (.r .h))))), false)) (.ar .and (.s (.r (.l (.r (.l (.r .h)))))) (.c (.a (.i .i64 (.n (nat_lit 32)))))),
  .p (.r (.r (.r (.l (.r .h))))) (some ((.l (.l (.r (.l (.r .h))))), false)) (.cp .eql (.s (.l (.r (.r (.l (.r .h)))))) (.c (.a (.i .i64 (.n (nat_lit 0)))))),
  .p (.l (.l (.l (.r (.r .h))))) (some ((.l (.l (.r (.l (.r .h))))), false)) (.mv (.s (.r (.r (.r (.l (.r .h))))))),
  .p (.r (.l (.l (.r (.r .h))))) (some ((.l (.l (.l (.r (.r .h))))), true)) (.fa (nat_lit 8) (.s (.l .h))),
  .r (.l (.r (.l (.r (.r .h))))) (some ((.l (.l (.l (.r (.r .h))))), true)) (.lg (nat_lit 3) (.s (.r (.l (.l (.r (.r .h))))))),
  .p (.r (.r (.l (.r (.r .h))))) (some ((.l (.l (.l (.r (.r .h))))), true)) (.bd [(.i .i64 (.n (nat_lit 0))), (.i .i64 (.n (nat_lit 0))), (.i .i64 (.n (nat_lit 0)))] []),
  .p (.l (.l (.r (.r (.r .h))))) (some ((.l (.l (.l (.r (.r .h))))), true)) (.eq true true [(nat_lit 0), (nat_lit 0), (nat_lit 0)] (.s (.l (.r (.l (.r (.r .h)))))) (.s (.r (.r (.l (.r (.r .h))))))),
  .p (.r (.l (.r (.r (.r .h))))) (some ((.l (.l (.r (.l (.r .h))))), false)) (.pk (.s (.l (.l (.l (.r (.r .h)))))) (.s (.l (.l (.r (.r (.r .h)))))) (.c (.a (.b false)))),
  .p (.l (.r (.r (.r (.r .h))))) none (.pk (.s (.l (.l (.r (.l (.r .h)))))) (.c (.a (.b true))) (.s (.r (.l (.r (.r (.r .h))))))),
  .p (.r (.r (.r (.r (.r .h))))) none (.nt (.s (.l (.r (.r (.r (.r .h))))))),
  .p (.r .h) none (.mv (.s (.r (.r (.r (.r (.r .h)))))))])
 .rt))))), false, false⟩
noncomputable def rf64 : RF := ⟨[.h, (.l .h), (.r .h), (.l (.l .h))], [.s (.r (.l (.l .h)))], (.seq (.reg [.a (.r (.l .h)) none (.bx (nat_lit 51) (nat_lit 4) (.s .h)),
  .a (.l (.r .h)) none (.bx (nat_lit 159) (nat_lit 2) (.s (.l .h))),
  .a (.r (.r .h)) none (.bx (nat_lit 46) (nat_lit 11) (.s (.r .h))),
  .p (.r (.l (.l .h))) none (.mv (.c (.a (.b false))))])
 (.seq (.reg [.p (.r (.r (.l .h))) none (.fa (nat_lit 0) (.s (.r (.r .h)))),
  .r (.l (.l (.r .h))) none (.ld (.s (.r (.r (.l .h))))),
  .k (some (.r (.l (.r .h)))) none (nat_lit 62) (.r (.r (.r (.r (.r .h))))) [(.s (.l (.l (.r .h))))],
  .p (.l (.r (.l .h))) none (.mv (.s (.r (.l (.r .h)))))])
 (.seq (.seq (.reg [.p (.l (.r (.r .h))) none (.mv (.s (.l (.r (.l .h))))),
  .p (.r (.r (.r .h))) none (.ar .and (.s (.l (.r (.r .h)))) (.c (.a (.i .i64 (.n (nat_lit 2)))))),
  .p (.l (.l (.l (.l .h)))) none (.cp .neq (.s (.r (.r (.r .h)))) (.c (.a (.i .i64 (.n (nat_lit 0)))))),
  .p (.r (.l (.l (.l .h)))) none (.mv (.s (.l (.l (.l (.l .h)))))),
  .r (.l (.r (.l (.l .h)))) (some ((.r (.l (.l (.l .h)))), true)) (.lg (nat_lit 2) (.s (.l (.r .h)))),
  .p (.r (.r (.l (.l .h)))) (some ((.r (.l (.l (.l .h)))), true)) (.fa (nat_lit 2) (.s (.r (.r .h)))),
  .r (.l (.l (.r (.l .h)))) (some ((.r (.l (.l (.l .h)))), true)) (.ld (.s (.r (.r (.l (.l .h)))))),
  .p (.r (.l (.r (.l .h)))) (some ((.r (.l (.l (.l .h)))), true)) (.mv (.s (.l (.l .h)))),
  .k (some (.l (.r (.r (.l .h))))) (some ((.r (.l (.l (.l .h)))), true)) (nat_lit 75) (.l (.l (.r (.r (.l (.l .h)))))) [(.s (.l (.r (.l (.l .h))))), (.s (.l (.l (.r (.l .h))))), (.s (.r (.l (.r (.l .h)))))],
  .p (.r (.r (.r (.l .h)))) (some ((.r (.l (.l (.l .h)))), true)) (.nt (.s (.l (.r (.r (.l .h)))))),
  .p (.l (.l (.l (.r .h)))) none (.pk (.s (.r (.l (.l (.l .h))))) (.s (.r (.r (.r (.l .h))))) (.c (.a (.b false)))),
  .p (.r (.l (.l (.r .h)))) none (.mv (.s (.l (.l (.l (.r .h)))))),
  .p (.l (.r (.l (.r .h)))) (some ((.r (.l (.l (.r .h)))), false)) (.mv (.s (.l (.r (.l .h))))),
  .p (.r (.r (.l (.r .h)))) (some ((.r (.l (.l (.r .h)))), false)) (.ar .and (.s (.l (.r (.l (.r .h))))) (.c (.a (.i .i64 (.n (nat_lit 4)))))),
  .p (.l (.l (.r (.r .h)))) (some ((.r (.l (.l (.r .h)))), false)) (.cp .neq (.s (.r (.r (.l (.r .h))))) (.c (.a (.i .i64 (.n (nat_lit 0)))))),
  .p (.r (.l (.r (.r .h)))) (some ((.r (.l (.l (.r .h)))), false)) (.mv (.s (.l (.l (.r (.r .h)))))),
  .r (.l (.r (.r (.r .h)))) (some ((.r (.l (.r (.r .h)))), true)) (.lg (nat_lit 2) (.s (.l (.r .h)))),
  .p (.r (.r (.r (.r .h)))) (some ((.r (.l (.r (.r .h)))), true)) (.fa (nat_lit 3) (.s (.r (.r .h)))),
  .r (.l (.l (.l (.l (.l .h))))) (some ((.r (.l (.r (.r .h)))), true)) (.ld (.s (.r (.r (.r (.r .h)))))),
  .p (.r (.l (.l (.l (.l .h))))) (some ((.r (.l (.r (.r .h)))), true)) (.mv (.s (.l (.l .h)))),
  .k (some (.l (.r (.l (.l (.l .h)))))) (some ((.r (.l (.r (.r .h)))), true)) (nat_lit 75) (.l (.l (.r (.r (.l (.l .h)))))) [(.s (.l (.r (.r (.r .h))))), (.s (.l (.l (.l (.l (.l .h)))))), (.s (.r (.l (.l (.l (.l .h))))))],
  .p (.r (.r (.l (.l (.l .h))))) (some ((.r (.l (.r (.r .h)))), true)) (.nt (.s (.l (.r (.l (.l (.l .h))))))),
  .p (.l (.l (.r (.l (.l .h))))) (some ((.r (.l (.l (.r .h)))), false)) (.pk (.s (.r (.l (.r (.r .h))))) (.s (.r (.r (.l (.l (.l .h)))))) (.c (.a (.b false)))),
  .p (.r (.l (.r (.l (.l .h))))) none (.pk (.s (.r (.l (.l (.r .h))))) (.c (.a (.b true))) (.s (.l (.l (.r (.l (.l .h))))))),
  .p (.l (.r (.r (.l (.l .h))))) none (.mv (.s (.r (.l (.r (.l (.l .h))))))),
  .p (.r (.r (.r (.l (.l .h))))) (some ((.l (.r (.r (.l (.l .h))))), false)) (.mv (.s (.l (.r (.l .h))))),
  .p (.l (.l (.l (.r (.l .h))))) (some ((.l (.r (.r (.l (.l .h))))), false)) (.ar .and (.s (.r (.r (.r (.l (.l .h)))))) (.c (.a (.i .i64 (.n (nat_lit 16)))))),
  .p (.r (.l (.l (.r (.l .h))))) (some ((.l (.r (.r (.l (.l .h))))), false)) (.cp .neq (.s (.l (.l (.l (.r (.l .h)))))) (.c (.a (.i .i64 (.n (nat_lit 0)))))),
  .p (.l (.r (.l (.r (.l .h))))) (some ((.l (.r (.r (.l (.l .h))))), false)) (.mv (.s (.r (.l (.l (.r (.l .h))))))),
  .p (.r (.r (.l (.r (.l .h))))) (some ((.l (.r (.l (.r (.l .h))))), true)) (.fa (nat_lit 5) (.s (.r (.r .h)))),
  .r (.l (.l (.r (.r (.l .h))))) (some ((.l (.r (.l (.r (.l .h))))), true)) (.ld (.s (.r (.r (.l (.r (.l .h))))))),
  .p (.r (.l (.r (.r (.l .h))))) (some ((.l (.r (.l (.r (.l .h))))), true)) (.fa (nat_lit 2) (.s (.r (.l .h)))),
  .r (.l (.r (.r (.r (.l .h))))) (some ((.l (.r (.l (.r (.l .h))))), true)) (.ld (.s (.r (.l (.r (.r (.l .h))))))),
  .p (.r (.r (.r (.r (.l .h))))) (some ((.l (.r (.l (.r (.l .h))))), true)) (.ln (.s (.l (.r (.r (.r (.l .h))))))),
  .p (.l (.l (.l (.l (.r .h))))) (some ((.l (.r (.l (.r (.l .h))))), true)) (.ar .sub (.s (.r (.r (.r (.r (.l .h)))))) (.c (.a (.i .i64 (.n (nat_lit 1)))))),
  .k (some (.r (.l (.l (.l (.r .h)))))) (some ((.l (.r (.l (.r (.l .h))))), true)) (nat_lit 42) (.r (.r (.l (.r (.l .h))))) [(.s (.l (.l (.r (.r (.l .h)))))), (.s (.l (.l (.l (.l (.r .h))))))],
  .p (.l (.r (.l (.l (.r .h))))) (some ((.l (.r (.l (.r (.l .h))))), true)) (.nt (.s (.r (.l (.l (.l (.r .h))))))),
  .p (.r (.r (.l (.l (.r .h))))) (some ((.l (.r (.r (.l (.l .h))))), false)) (.pk (.s (.l (.r (.l (.r (.l .h)))))) (.s (.l (.r (.l (.l (.r .h)))))) (.c (.a (.b false)))),
  .p (.l (.l (.r (.l (.r .h))))) none (.pk (.s (.l (.r (.r (.l (.l .h)))))) (.c (.a (.b true))) (.s (.r (.r (.l (.l (.r .h)))))))])
 (.cond (.s (.l (.l (.r (.l (.r .h)))))) (.seq (.reg [.p (.r (.l (.l .h))) none (.mv (.c (.a (.b false))))])
 .rt) .skip))
 (.seq (.seq (.reg [.p (.r (.l (.r (.l (.r .h))))) none (.fa (nat_lit 0) (.s (.r (.r .h)))),
  .r (.l (.r (.r (.l (.r .h))))) none (.ld (.s (.r (.l (.r (.l (.r .h)))))))])
 (.blk (nat_lit 0) (.seq (.seq (.reg [.p (.l (.l (.l (.r (.r .h))))) none (.cp .eql (.s (.l (.r (.r (.l (.r .h)))))) (.c (.a (.i .i64 (.n (nat_lit 15)))))),
  .p (.r (.r (.r (.l (.r .h))))) none (.mv (.s (.l (.l (.l (.r (.r .h)))))))])
 (.cond (.s (.r (.r (.r (.l (.r .h)))))) .skip (.seq (.reg [.p (.r (.l (.l (.r (.r .h))))) none (.cp .eql (.s (.l (.r (.r (.l (.r .h)))))) (.c (.a (.i .i64 (.n (nat_lit 16)))))),
  .p (.r (.r (.r (.l (.r .h))))) none (.mv (.s (.r (.l (.l (.r (.r .h)))))))])
 (.cond (.s (.r (.r (.r (.l (.r .h)))))) .skip (.reg [.p (.l (.r (.l (.r (.r .h))))) none (.cp .eql (.s (.l (.r (.r (.l (.r .h)))))) (.c (.a (.i .i64 (.n (nat_lit 17)))))),
  .p (.r (.r (.r (.l (.r .h))))) none (.mv (.s (.l (.r (.l (.r (.r .h)))))))])))))
 (.cond (.s (.r (.r (.r (.l (.r .h)))))) (.seq (.reg [.p (.r (.r (.l (.r (.r .h))))) none (.fa (nat_lit 4) (.s (.r (.r .h)))),
  .r (.l (.l (.r (.r (.r .h))))) none (.ld (.s (.r (.r (.l (.r (.r .h))))))),
  .p (.r (.l (.r (.r (.r .h))))) none (.fa (nat_lit 3) (.s (.r (.l .h)))),
  .r (.l (.r (.r (.r (.r .h))))) none (.ld (.s (.r (.l (.r (.r (.r .h))))))),
  .p (.r (.r (.r (.r (.r .h))))) none (.ln (.s (.l (.r (.r (.r (.r .h))))))),
  .p (.l (.l (.l (.l (.l (.l .h)))))) none (.ar .sub (.s (.r (.r (.r (.r (.r .h)))))) (.c (.a (.i .i64 (.n (nat_lit 1)))))),
  .k (some (.r (.l (.l (.l (.l (.l .h))))))) none (nat_lit 42) (.r (.r (.l (.r (.l .h))))) [(.s (.l (.l (.r (.r (.r .h)))))), (.s (.l (.l (.l (.l (.l (.l .h)))))))],
  .p (.r (.l (.l .h))) none (.mv (.s (.r (.l (.l (.l (.l (.l .h))))))))])
 .rt) (.seq (.seq (.reg [.p (.r (.r (.l (.l (.l (.l .h)))))) none (.cp .eql (.s (.l (.r (.r (.l (.r .h)))))) (.c (.a (.i .i64 (.n (nat_lit 19)))))),
  .p (.l (.r (.l (.l (.l (.l .h)))))) none (.mv (.s (.r (.r (.l (.l (.l (.l .h))))))))])
 (.cond (.s (.l (.r (.l (.l (.l (.l .h))))))) .skip (.reg [.p (.l (.l (.r (.l (.l (.l .h)))))) none (.cp .eql (.s (.l (.r (.r (.l (.r .h)))))) (.c (.a (.i .i64 (.n (nat_lit 20)))))),
  .p (.l (.r (.l (.l (.l (.l .h)))))) none (.mv (.s (.l (.l (.r (.l (.l (.l .h))))))))])))
 (.cond (.s (.l (.r (.l (.l (.l (.l .h))))))) (.seq (.reg [.p (.r (.l (.r (.l (.l (.l .h)))))) none (.fa (nat_lit 4) (.s (.r (.r .h)))),
  .r (.l (.r (.r (.l (.l (.l .h)))))) none (.ld (.s (.r (.l (.r (.l (.l (.l .h)))))))),
  .k (some (.r (.r (.r (.l (.l (.l .h))))))) none (nat_lit 42) (.r (.r (.l (.r (.l .h))))) [(.s (.l (.r (.r (.l (.l (.l .h))))))), (.c (.a (.i .i64 (.n (nat_lit 9999)))))],
  .p (.r (.l (.l .h))) none (.mv (.s (.r (.r (.r (.l (.l (.l .h))))))))])
 .rt) .skip))))))
 (.seq (.reg [.p (.r (.l (.l .h))) none (.mv (.c (.a (.b true))))])
 .rt))))), false, false⟩
noncomputable def rf65 : RF := ⟨[.h, (.l .h), (.r .h), (.l (.l .h))], [.s (.r (.l (.l .h)))], (.seq (.reg [.a (.r (.l .h)) none (.bx (nat_lit 51) (nat_lit 4) (.s .h)),
  .a (.l (.r .h)) none (.bx (nat_lit 159) (nat_lit 2) (.s (.l .h))),
  .a (.r (.r .h)) none (.bx (nat_lit 46) (nat_lit 11) (.s (.r .h))),
  .p (.r (.l (.l .h))) none (.mv (.c (.a (.b false))))])
 (.seq (.seq (.reg [.p (.l (.r (.l .h))) none (.fa (nat_lit 6) (.s (.r (.r .h)))),
  .r (.r (.r (.l .h))) none (.ld (.s (.l (.r (.l .h))))),
  .k (some (.l (.l (.r .h)))) none (nat_lit 42) (.r (.r (.l (.r (.l .h))))) [(.s (.r (.r (.l .h)))), (.c (.a (.i .i64 (.n (nat_lit 23)))))],
  .p (.r (.l (.r .h))) none (.nt (.s (.l (.l (.r .h))))),
  .p (.l (.r (.r .h))) none (.mv (.s (.r (.l (.r .h))))),
  .p (.r (.r (.r .h))) (some ((.l (.r (.r .h))), false)) (.fa (nat_lit 7) (.s (.r (.r .h)))),
  .r (.l (.l (.l (.l .h)))) (some ((.l (.r (.r .h))), false)) (.ld (.s (.r (.r (.r .h))))),
  .k (some (.r (.l (.l (.l .h))))) (some ((.l (.r (.r .h))), false)) (nat_lit 42) (.r (.r (.l (.r (.l .h))))) [(.s (.l (.l (.l (.l .h))))), (.c (.a (.i .i64 (.n (nat_lit 3)))))],
  .p (.l (.r (.l (.l .h)))) (some ((.l (.r (.r .h))), false)) (.nt (.s (.r (.l (.l (.l .h)))))),
  .p (.r (.r (.l (.l .h)))) none (.pk (.s (.l (.r (.r .h)))) (.c (.a (.b true))) (.s (.l (.r (.l (.l .h))))))])
 (.cond (.s (.r (.r (.l (.l .h))))) (.seq (.reg [.p (.r (.l (.l .h))) none (.mv (.c (.a (.b false))))])
 .rt) .skip))
 (.seq (.seq (.reg [.p (.l (.l (.r (.l .h)))) none (.fa (nat_lit 8) (.s (.r (.r .h)))),
  .p (.r (.l (.r (.l .h)))) none (.fa (nat_lit 0) (.s (.l (.l (.r (.l .h)))))),
  .r (.l (.r (.r (.l .h)))) none (.ld (.s (.r (.l (.r (.l .h))))))])
 (.blk (nat_lit 0) (.seq (.reg [.p (.l (.l (.l (.r .h)))) none (.cp .eql (.s (.l (.r (.r (.l .h))))) (.c (.a (.i .i64 (.n (nat_lit 0)))))),
  .p (.r (.r (.r (.l .h)))) none (.mv (.s (.l (.l (.l (.r .h))))))])
 (.cond (.s (.r (.r (.r (.l .h))))) (.seq (.reg [.p (.r (.l (.l (.r .h)))) none (.fa (nat_lit 8) (.s (.r (.r .h)))),
  .p (.l (.r (.l (.r .h)))) none (.fa (nat_lit 1) (.s (.r (.l (.l (.r .h)))))),
  .r (.r (.r (.l (.r .h)))) none (.ld (.s (.l (.r (.l (.r .h)))))),
  .p (.l (.l (.r (.r .h)))) none (.cp .eql (.s (.r (.r (.l (.r .h))))) (.c (.a (.i .i64 (.n (nat_lit 0)))))),
  .p (.r (.l (.r (.r .h)))) none (.mv (.s (.l (.l (.r (.r .h)))))),
  .p (.l (.r (.r (.r .h)))) (some ((.r (.l (.r (.r .h)))), true)) (.fa (nat_lit 8) (.s (.r (.r .h)))),
  .p (.r (.r (.r (.r .h)))) (some ((.r (.l (.r (.r .h)))), true)) (.fa (nat_lit 2) (.s (.l (.r (.r (.r .h)))))),
  .r (.l (.l (.l (.l (.l .h))))) (some ((.r (.l (.r (.r .h)))), true)) (.ld (.s (.r (.r (.r (.r .h)))))),
  .p (.r (.l (.l (.l (.l .h))))) (some ((.r (.l (.r (.r .h)))), true)) (.cp .eql (.s (.l (.l (.l (.l (.l .h)))))) (.c (.a (.i .i64 (.n (nat_lit 0)))))),
  .p (.l (.r (.l (.l (.l .h))))) none (.pk (.s (.r (.l (.r (.r .h))))) (.s (.r (.l (.l (.l (.l .h)))))) (.c (.a (.b false)))),
  .p (.r (.l (.l .h))) none (.mv (.s (.l (.r (.l (.l (.l .h)))))))])
 .rt) (.seq (.reg [.p (.l (.l (.r (.l (.l .h))))) none (.cp .eql (.s (.l (.r (.r (.l .h))))) (.c (.a (.i .i64 (.n (nat_lit 1)))))),
  .p (.r (.r (.l (.l (.l .h))))) none (.mv (.s (.l (.l (.r (.l (.l .h)))))))])
 (.cond (.s (.r (.r (.l (.l (.l .h)))))) (.seq (.reg [.p (.r (.l (.r (.l (.l .h))))) none (.fa (nat_lit 8) (.s (.r (.r .h)))),
  .p (.l (.r (.r (.l (.l .h))))) none (.fa (nat_lit 1) (.s (.r (.l (.r (.l (.l .h))))))),
  .r (.r (.r (.r (.l (.l .h))))) none (.ld (.s (.l (.r (.r (.l (.l .h))))))),
  .p (.l (.l (.l (.r (.l .h))))) none (.cp .eql (.s (.r (.r (.r (.l (.l .h)))))) (.c (.a (.i .i64 (.n (nat_lit 0)))))),
  .p (.r (.l (.l .h))) none (.mv (.s (.l (.l (.l (.r (.l .h)))))))])
 .rt) (.seq (.reg [.p (.l (.r (.l (.r (.l .h))))) none (.cp .eql (.s (.l (.r (.r (.l .h))))) (.c (.a (.i .i64 (.n (nat_lit 2)))))),
  .p (.r (.l (.l (.r (.l .h))))) none (.mv (.s (.l (.r (.l (.r (.l .h)))))))])
 (.cond (.s (.r (.l (.l (.r (.l .h)))))) (.seq (.reg [.r (.r (.r (.l (.r (.l .h))))) none (.lg (nat_lit 2) (.s (.l (.r .h)))),
  .p (.l (.l (.r (.r (.l .h))))) none (.fa (nat_lit 8) (.s (.r (.r .h)))),
  .p (.r (.l (.r (.r (.l .h))))) none (.fa (nat_lit 1) (.s (.l (.l (.r (.r (.l .h))))))),
  .r (.l (.r (.r (.r (.l .h))))) none (.ld (.s (.r (.l (.r (.r (.l .h))))))),
  .p (.r (.r (.r (.r (.l .h))))) none (.mv (.s (.l (.l .h)))),
  .k (some (.l (.l (.l (.l (.r .h)))))) none (nat_lit 75) (.l (.l (.r (.r (.l (.l .h)))))) [(.s (.r (.r (.l (.r (.l .h)))))), (.s (.l (.r (.r (.r (.l .h)))))), (.s (.r (.r (.r (.r (.l .h))))))],
  .p (.r (.l (.l .h))) none (.mv (.s (.l (.l (.l (.l (.r .h)))))))])
 .rt) (.seq (.reg [.p (.l (.r (.l (.l (.r .h))))) none (.cp .eql (.s (.l (.r (.r (.l .h))))) (.c (.a (.i .i64 (.n (nat_lit 3)))))),
  .p (.r (.l (.l (.l (.r .h))))) none (.mv (.s (.l (.r (.l (.l (.r .h)))))))])
 (.cond (.s (.r (.l (.l (.l (.r .h)))))) (.seq (.reg [.p (.r (.r (.l (.l (.r .h))))) none (.fa (nat_lit 8) (.s (.r (.r .h)))),
  .p (.l (.l (.r (.l (.r .h))))) none (.fa (nat_lit 1) (.s (.r (.r (.l (.l (.r .h))))))),
  .r (.r (.l (.r (.l (.r .h))))) none (.ld (.s (.l (.l (.r (.l (.r .h))))))),
  .p (.l (.r (.r (.l (.r .h))))) none (.fa (nat_lit 0) (.s (.r (.l .h)))),
  .r (.r (.r (.r (.l (.r .h))))) none (.ld (.s (.l (.r (.r (.l (.r .h))))))),
  .p (.l (.l (.l (.r (.r .h))))) none (.ar .sub (.s (.r (.r (.r (.l (.r .h)))))) (.c (.a (.i .i64 (.n (nat_lit 1)))))),
  .k (some (.r (.l (.l (.r (.r .h)))))) none (nat_lit 42) (.r (.r (.l (.r (.l .h))))) [(.s (.r (.l (.r (.l (.r .h)))))), (.s (.l (.l (.l (.r (.r .h))))))],
  .p (.r (.l (.l .h))) none (.mv (.s (.r (.l (.l (.r (.r .h)))))))])
 .rt) .skip))))))))))
 (.seq (.reg [.p (.r (.l (.l .h))) none (.mv (.c (.a (.b false))))])
 .rt)))), false, false⟩
noncomputable def rf66 : RF := ⟨[.h, (.l .h), (.r .h), (.l (.l .h))], [.s (.r (.l (.l .h)))], (.seq (.reg [.a (.r (.l .h)) none (.bx (nat_lit 51) (nat_lit 4) (.s .h)),
  .a (.l (.r .h)) none (.bx (nat_lit 159) (nat_lit 2) (.s (.l .h))),
  .a (.r (.r .h)) none (.bx (nat_lit 58) (nat_lit 8) (.s (.r .h))),
  .p (.r (.l (.l .h))) none (.mv (.c (.a (.b false))))])
 (.seq (.seq (.reg [.r (.l (.r (.r .h))) none (.lg (nat_lit 2) (.s (.l (.r .h)))),
  .p (.r (.r (.r .h))) none (.mv (.s (.l (.l .h)))),
  .p (.l (.l (.l (.l .h)))) none (.fa (nat_lit 3) (.s (.r (.r .h)))),
  .r (.r (.l (.l (.l .h)))) none (.ld (.s (.l (.l (.l (.l .h)))))),
  .k (some (.l (.r (.l (.l .h))))) none (nat_lit 76) (.r (.l (.r (.r (.l (.l .h)))))) [(.s (.l (.r (.r .h)))), (.s (.r (.r (.r .h)))), (.s (.r (.l (.l (.l .h)))))],
  .p (.r (.r (.l (.l .h)))) none (.nt (.s (.l (.r (.l (.l .h)))))),
  .p (.l (.l (.r (.l .h)))) none (.mv (.s (.r (.r (.l (.l .h)))))),
  .r (.r (.l (.r (.l .h)))) (some ((.l (.l (.r (.l .h)))), false)) (.lg (nat_lit 2) (.s (.l (.r .h)))),
  .p (.l (.r (.r (.l .h)))) (some ((.l (.l (.r (.l .h)))), false)) (.mv (.s (.l (.l .h)))),
  .p (.r (.r (.r (.l .h)))) (some ((.l (.l (.r (.l .h)))), false)) (.fa (nat_lit 4) (.s (.r (.r .h)))),
  .p (.l (.l (.l (.r .h)))) (some ((.l (.l (.r (.l .h)))), false)) (.ia (nat_lit 2) (nat_lit 2) (.s (.r (.r (.r (.l .h))))) (.c (.a (.i .i64 (.n (nat_lit 0)))))),
  .p (.r (.l (.l (.r .h)))) (some ((.l (.l (.r (.l .h)))), false)) (.fa (nat_lit 1) (.s (.l (.l (.l (.r .h)))))),
  .r (.l (.r (.l (.r .h)))) (some ((.l (.l (.r (.l .h)))), false)) (.ld (.s (.r (.l (.l (.r .h)))))),
  .k (some (.r (.r (.l (.r .h))))) (some ((.l (.l (.r (.l .h)))), false)) (nat_lit 76) (.r (.l (.r (.r (.l (.l .h)))))) [(.s (.r (.l (.r (.l .h))))), (.s (.l (.r (.r (.l .h))))), (.s (.l (.r (.l (.r .h)))))],
  .p (.l (.l (.r (.r .h)))) (some ((.l (.l (.r (.l .h)))), false)) (.nt (.s (.r (.r (.l (.r .h)))))),
  .p (.r (.l (.r (.r .h)))) none (.pk (.s (.l (.l (.r (.l .h))))) (.c (.a (.b true))) (.s (.l (.l (.r (.r .h)))))),
  .p (.l (.r (.r (.r .h)))) none (.mv (.s (.r (.l (.r (.r .h)))))),
  .r (.r (.r (.r (.r .h)))) (some ((.l (.r (.r (.r .h)))), false)) (.lg (nat_lit 2) (.s (.l (.r .h)))),
  .p (.l (.l (.l (.l (.l .h))))) (some ((.l (.r (.r (.r .h)))), false)) (.mv (.s (.l (.l .h)))),
  .p (.r (.l (.l (.l (.l .h))))) (some ((.l (.r (.r (.r .h)))), false)) (.fa (nat_lit 4) (.s (.r (.r .h)))),
  .p (.l (.r (.l (.l (.l .h))))) (some ((.l (.r (.r (.r .h)))), false)) (.ia (nat_lit 2) (nat_lit 2) (.s (.r (.l (.l (.l (.l .h)))))) (.c (.a (.i .i64 (.n (nat_lit 1)))))),
  .p (.r (.r (.l (.l (.l .h))))) (some ((.l (.r (.r (.r .h)))), false)) (.fa (nat_lit 1) (.s (.l (.r (.l (.l (.l .h))))))),
  .r (.l (.l (.r (.l (.l .h))))) (some ((.l (.r (.r (.r .h)))), false)) (.ld (.s (.r (.r (.l (.l (.l .h))))))),
  .k (some (.r (.l (.r (.l (.l .h)))))) (some ((.l (.r (.r (.r .h)))), false)) (nat_lit 76) (.r (.l (.r (.r (.l (.l .h)))))) [(.s (.r (.r (.r (.r .h))))), (.s (.l (.l (.l (.l (.l .h)))))), (.s (.l (.l (.r (.l (.l .h))))))],
  .p (.l (.r (.r (.l (.l .h))))) (some ((.l (.r (.r (.r .h)))), false)) (.nt (.s (.r (.l (.r (.l (.l .h))))))),
  .p (.r (.r (.r (.l (.l .h))))) none (.pk (.s (.l (.r (.r (.r .h))))) (.c (.a (.b true))) (.s (.l (.r (.r (.l (.l .h)))))))])
 (.cond (.s (.r (.r (.r (.l (.l .h)))))) (.seq (.reg [.p (.r (.l (.l .h))) none (.mv (.c (.a (.b false))))])
 .rt) .skip))
 (.seq (.reg [.p (.l (.r (.l .h))) none (.mv (.c (.a (.i .i64 (.n (nat_lit 0))))))])
 (.seq (.seq (.reg [.p (.l (.l (.l (.r (.l .h))))) none (.fa (nat_lit 0) (.s (.r (.r .h)))),
  .r (.r (.l (.l (.r (.l .h))))) none (.ld (.s (.l (.l (.l (.r (.l .h)))))))])
 (.blk (nat_lit 0) (.seq (.reg [.p (.r (.r (.l (.r (.l .h))))) none (.cp .eql (.s (.r (.l (.l (.r (.l .h)))))) (.c (.a (.i .i64 (.n (nat_lit 1)))))),
  .p (.l (.r (.l (.r (.l .h))))) none (.mv (.s (.r (.r (.l (.r (.l .h)))))))])
 (.cond (.s (.l (.r (.l (.r (.l .h)))))) (.reg [.p (.l (.r (.l .h))) none (.mv (.c (.a (.i .i64 (.n (nat_lit 1))))))]) (.seq (.reg [.p (.r (.l (.r (.r (.l .h))))) none (.cp .eql (.s (.r (.l (.l (.r (.l .h)))))) (.c (.a (.i .i64 (.n (nat_lit 2)))))),
  .p (.l (.l (.r (.r (.l .h))))) none (.mv (.s (.r (.l (.r (.r (.l .h)))))))])
 (.cond (.s (.l (.l (.r (.r (.l .h)))))) (.reg [.p (.l (.r (.l .h))) none (.mv (.c (.a (.i .i64 (.n (nat_lit 2))))))]) (.seq (.reg [.p (.r (.r (.r (.r (.l .h))))) none (.cp .eql (.s (.r (.l (.l (.r (.l .h)))))) (.c (.a (.i .i64 (.n (nat_lit 3)))))),
  .p (.l (.r (.r (.r (.l .h))))) none (.mv (.s (.r (.r (.r (.r (.l .h)))))))])
 (.cond (.s (.l (.r (.r (.r (.l .h)))))) (.seq (.reg [.p (.l (.r (.l .h))) none (.mv (.c (.a (.i .i64 (.n (nat_lit 1))))))])
 (.seq (.reg [.p (.l (.l (.l (.l (.r .h))))) none (.fa (nat_lit 4) (.s (.r (.r .h)))),
  .p (.r (.l (.l (.l (.r .h))))) none (.ia (nat_lit 2) (nat_lit 2) (.s (.l (.l (.l (.l (.r .h)))))) (.c (.a (.i .i64 (.n (nat_lit 1)))))),
  .r (.l (.r (.l (.l (.r .h))))) none (.lg (nat_lit 2) (.s (.r (.l (.l (.l (.r .h))))))),
  .k (some (.r (.r (.l (.l (.r .h)))))) none (nat_lit 77) (.l (.r (.r (.r (.l (.l .h)))))) [(.s (.l (.r (.l (.l (.r .h))))))],
  .p (.l (.l (.r (.l (.r .h))))) none (.nt (.s (.r (.r (.l (.l (.r .h)))))))])
 (.cond (.s (.l (.l (.r (.l (.r .h)))))) (.reg [.p (.l (.r (.l .h))) none (.mv (.c (.a (.i .i64 (.n (nat_lit 2))))))]) .skip))) (.seq (.seq (.reg [.p (.l (.r (.r (.l (.r .h))))) none (.cp .eql (.s (.r (.l (.l (.r (.l .h)))))) (.c (.a (.i .i64 (.n (nat_lit 4)))))),
  .p (.r (.l (.r (.l (.r .h))))) none (.mv (.s (.l (.r (.r (.l (.r .h)))))))])
 (.cond (.s (.r (.l (.r (.l (.r .h)))))) .skip (.seq (.reg [.p (.r (.r (.r (.l (.r .h))))) none (.cp .eql (.s (.r (.l (.l (.r (.l .h)))))) (.c (.a (.i .i64 (.n (nat_lit 5)))))),
  .p (.r (.l (.r (.l (.r .h))))) none (.mv (.s (.r (.r (.r (.l (.r .h)))))))])
 (.cond (.s (.r (.l (.r (.l (.r .h)))))) .skip (.reg [.p (.l (.l (.l (.r (.r .h))))) none (.cp .eql (.s (.r (.l (.l (.r (.l .h)))))) (.c (.a (.i .i64 (.n (nat_lit 6)))))),
  .p (.r (.l (.r (.l (.r .h))))) none (.mv (.s (.l (.l (.l (.r (.r .h)))))))])))))
 (.cond (.s (.r (.l (.r (.l (.r .h)))))) .skip (.seq (.reg [.p (.r (.l (.l .h))) none (.mv (.c (.a (.b false))))])
 .rt)))))))))))
 (.seq (.seq (.reg [.p (.r (.l (.l (.r (.r .h))))) none (.fa (nat_lit 0) (.s (.r (.r .h)))),
  .r (.l (.r (.l (.r (.r .h))))) none (.ld (.s (.r (.l (.l (.r (.r .h))))))),
  .p (.r (.r (.l (.r (.r .h))))) none (.cp .eql (.s (.l (.r (.l (.r (.r .h)))))) (.c (.a (.i .i64 (.n (nat_lit 2)))))),
  .p (.l (.l (.r (.r (.r .h))))) none (.mv (.s (.r (.r (.l (.r (.r .h))))))),
  .p (.r (.l (.r (.r (.r .h))))) (some ((.l (.l (.r (.r (.r .h))))), false)) (.fa (nat_lit 0) (.s (.r (.r .h)))),
  .r (.l (.r (.r (.r (.r .h))))) (some ((.l (.l (.r (.r (.r .h))))), false)) (.ld (.s (.r (.l (.r (.r (.r .h))))))),
  .p (.r (.r (.r (.r (.r .h))))) (some ((.l (.l (.r (.r (.r .h))))), false)) (.cp .eql (.s (.l (.r (.r (.r (.r .h)))))) (.c (.a (.i .i64 (.n (nat_lit 4)))))),
  .p (.l (.l (.l (.l (.l (.l .h)))))) none (.pk (.s (.l (.l (.r (.r (.r .h)))))) (.c (.a (.b true))) (.s (.r (.r (.r (.r (.r .h))))))),
  .p (.r (.l (.l (.l (.l (.l .h)))))) none (.mv (.s (.l (.l (.l (.l (.l (.l .h)))))))),
  .p (.l (.r (.l (.l (.l (.l .h)))))) (some ((.r (.l (.l (.l (.l (.l .h)))))), false)) (.fa (nat_lit 0) (.s (.r (.r .h)))),
  .r (.r (.r (.l (.l (.l (.l .h)))))) (some ((.r (.l (.l (.l (.l (.l .h)))))), false)) (.ld (.s (.l (.r (.l (.l (.l (.l .h)))))))),
  .p (.l (.l (.r (.l (.l (.l .h)))))) (some ((.r (.l (.l (.l (.l (.l .h)))))), false)) (.cp .eql (.s (.r (.r (.l (.l (.l (.l .h))))))) (.c (.a (.i .i64 (.n (nat_lit 5)))))),
  .p (.r (.l (.r (.l (.l (.l .h)))))) none (.pk (.s (.r (.l (.l (.l (.l (.l .h))))))) (.c (.a (.b true))) (.s (.l (.l (.r (.l (.l (.l .h)))))))),
  .p (.r (.r (.l .h))) none (.mv (.s (.r (.l (.r (.l (.l (.l .h))))))))])
 (.seq (.reg [.p (.l (.r (.r (.l (.l (.l .h)))))) none (.mv (.s (.r (.r (.l .h)))))])
 (.cond (.s (.l (.r (.r (.l (.l (.l .h))))))) (.seq (.reg [.r (.r (.r (.r (.l (.l (.l .h)))))) none (.lg (nat_lit 2) (.s (.l (.r .h)))),
  .p (.l (.l (.l (.r (.l (.l .h)))))) none (.fa (nat_lit 1) (.s (.r (.r .h)))),
  .r (.r (.l (.l (.r (.l (.l .h)))))) none (.ld (.s (.l (.l (.l (.r (.l (.l .h)))))))),
  .p (.l (.r (.l (.r (.l (.l .h)))))) none (.mv (.s (.l (.l .h)))),
  .k (some (.r (.r (.l (.r (.l (.l .h))))))) none (nat_lit 75) (.l (.l (.r (.r (.l (.l .h)))))) [(.s (.r (.r (.r (.l (.l (.l .h))))))), (.s (.r (.l (.l (.r (.l (.l .h))))))), (.s (.l (.r (.l (.r (.l (.l .h)))))))],
  .p (.l (.l (.r (.r (.l (.l .h)))))) none (.nt (.s (.r (.r (.l (.r (.l (.l .h))))))))])
 (.cond (.s (.l (.l (.r (.r (.l (.l .h))))))) (.seq (.reg [.p (.r (.l (.l .h))) none (.mv (.c (.a (.b false))))])
 .rt) .skip)) (.seq (.reg [.p (.r (.l (.r (.r (.l (.l .h)))))) none (.fa (nat_lit 1) (.s (.r (.r .h)))),
  .r (.l (.r (.r (.r (.l (.l .h)))))) none (.ld (.s (.r (.l (.r (.r (.l (.l .h)))))))),
  .p (.r (.r (.r (.r (.l (.l .h)))))) none (.cp .neq (.s (.l (.r (.r (.r (.l (.l .h))))))) (.c (.a (.i .i64 (.n (nat_lit 0))))))])
 (.cond (.s (.r (.r (.r (.r (.l (.l .h))))))) (.seq (.reg [.p (.r (.l (.l .h))) none (.mv (.c (.a (.b false))))])
 .rt) .skip)))))
 (.seq (.seq (.reg [.p (.l (.l (.l (.l (.r (.l .h)))))) none (.fa (nat_lit 0) (.s (.r (.r .h)))),
  .r (.r (.l (.l (.l (.r (.l .h)))))) none (.ld (.s (.l (.l (.l (.l (.r (.l .h)))))))),
  .p (.l (.r (.l (.l (.r (.l .h)))))) none (.cp .eql (.s (.r (.l (.l (.l (.r (.l .h))))))) (.c (.a (.i .i64 (.n (nat_lit 3)))))),
  .p (.r (.r (.l (.l (.r (.l .h)))))) none (.mv (.s (.l (.r (.l (.l (.r (.l .h)))))))),
  .p (.l (.l (.r (.l (.r (.l .h)))))) (some ((.r (.r (.l (.l (.r (.l .h)))))), false)) (.fa (nat_lit 0) (.s (.r (.r .h)))),
  .r (.r (.l (.r (.l (.r (.l .h)))))) (some ((.r (.r (.l (.l (.r (.l .h)))))), false)) (.ld (.s (.l (.l (.r (.l (.r (.l .h)))))))),
  .p (.l (.r (.r (.l (.r (.l .h)))))) (some ((.r (.r (.l (.l (.r (.l .h)))))), false)) (.cp .eql (.s (.r (.l (.r (.l (.r (.l .h))))))) (.c (.a (.i .i64 (.n (nat_lit 6)))))),
  .p (.r (.r (.r (.l (.r (.l .h)))))) none (.pk (.s (.r (.r (.l (.l (.r (.l .h))))))) (.c (.a (.b true))) (.s (.l (.r (.r (.l (.r (.l .h))))))))])
 (.cond (.s (.r (.r (.r (.l (.r (.l .h))))))) (.seq (.reg [.p (.l (.l (.l (.r (.r (.l .h)))))) none (.fa (nat_lit 2) (.s (.r (.r .h)))),
  .r (.r (.l (.l (.r (.r (.l .h)))))) none (.ld (.s (.l (.l (.l (.r (.r (.l .h)))))))),
  .k (some (.l (.r (.l (.r (.r (.l .h))))))) none (nat_lit 42) (.r (.r (.l (.r (.l .h))))) [(.s (.r (.l (.l (.r (.r (.l .h))))))), (.c (.a (.i .i64 (.n (nat_lit 7)))))],
  .p (.r (.r (.l (.r (.r (.l .h)))))) none (.nt (.s (.l (.r (.l (.r (.r (.l .h)))))))),
  .p (.l (.l (.r (.r (.r (.l .h)))))) none (.mv (.s (.r (.r (.l (.r (.r (.l .h)))))))),
  .p (.r (.l (.r (.r (.r (.l .h)))))) (some ((.l (.l (.r (.r (.r (.l .h)))))), false)) (.fa (nat_lit 3) (.s (.r (.r .h)))),
  .r (.l (.r (.r (.r (.r (.l .h)))))) (some ((.l (.l (.r (.r (.r (.l .h)))))), false)) (.ld (.s (.r (.l (.r (.r (.r (.l .h)))))))),
  .p (.r (.r (.r (.r (.r (.l .h)))))) (some ((.l (.l (.r (.r (.r (.l .h)))))), false)) (.ln (.s (.l (.r (.r (.r (.r (.l .h)))))))),
  .p (.l (.l (.l (.l (.l (.r .h)))))) (some ((.l (.l (.r (.r (.r (.l .h)))))), false)) (.cp .gtr (.s (.r (.r (.r (.r (.r (.l .h))))))) (.c (.a (.i .i64 (.n (nat_lit 4)))))),
  .p (.r (.l (.l (.l (.l (.r .h)))))) none (.pk (.s (.l (.l (.r (.r (.r (.l .h))))))) (.c (.a (.b true))) (.s (.l (.l (.l (.l (.l (.r .h))))))))])
 (.cond (.s (.r (.l (.l (.l (.l (.r .h))))))) (.seq (.reg [.p (.r (.l (.l .h))) none (.mv (.c (.a (.b false))))])
 .rt) .skip)) (.seq (.reg [.p (.l (.r (.l (.l (.l (.r .h)))))) none (.fa (nat_lit 2) (.s (.r (.r .h)))),
  .r (.r (.r (.l (.l (.l (.r .h)))))) none (.ld (.s (.l (.r (.l (.l (.l (.r .h)))))))),
  .p (.l (.l (.r (.l (.l (.r .h)))))) none (.cp .neq (.s (.r (.r (.l (.l (.l (.r .h))))))) (.c (.a (.i .i64 (.n (nat_lit 0)))))),
  .p (.r (.l (.r (.l (.l (.r .h)))))) none (.mv (.s (.l (.l (.r (.l (.l (.r .h)))))))),
  .p (.l (.r (.r (.l (.l (.r .h)))))) (some ((.r (.l (.r (.l (.l (.r .h)))))), false)) (.fa (nat_lit 3) (.s (.r (.r .h)))),
  .r (.r (.r (.r (.l (.l (.r .h)))))) (some ((.r (.l (.r (.l (.l (.r .h)))))), false)) (.ld (.s (.l (.r (.r (.l (.l (.r .h)))))))),
  .p (.l (.l (.l (.r (.l (.r .h)))))) (some ((.r (.l (.r (.l (.l (.r .h)))))), false)) (.ln (.s (.r (.r (.r (.l (.l (.r .h)))))))),
  .p (.r (.l (.l (.r (.l (.r .h)))))) (some ((.r (.l (.r (.l (.l (.r .h)))))), false)) (.cp .neq (.s (.l (.l (.l (.r (.l (.r .h))))))) (.c (.a (.i .i64 (.n (nat_lit 0)))))),
  .p (.l (.r (.l (.r (.l (.r .h)))))) none (.pk (.s (.r (.l (.r (.l (.l (.r .h))))))) (.c (.a (.b true))) (.s (.r (.l (.l (.r (.l (.r .h))))))))])
 (.cond (.s (.l (.r (.l (.r (.l (.r .h))))))) (.seq (.reg [.p (.r (.l (.l .h))) none (.mv (.c (.a (.b false))))])
 .rt) .skip))))
 (.seq (.seq (.reg [.p (.r (.r (.l (.r (.l (.r .h)))))) none (.fa (nat_lit 4) (.s (.r (.r .h)))),
  .r (.l (.l (.r (.r (.l (.r .h)))))) none (.lg (nat_lit 4) (.s (.r (.r (.l (.r (.l (.r .h)))))))),
  .p (.r (.l (.r (.r (.l (.r .h)))))) none (.mv (.c (.a (.i .i64 (.n (nat_lit 0))))))])
 (.blk (nat_lit 1) (.loop (.seq (.reg [.p (.l (.r (.r (.r (.l (.r .h)))))) none (.cp .lss (.s (.r (.l (.r (.r (.l (.r .h))))))) (.c (.a (.i .i64 (.n (nat_lit 2))))))])
 (.seq (.cond (.s (.l (.r (.r (.r (.l (.r .h))))))) .skip (.ex (nat_lit 1)))
 (.seq (.blk (nat_lit 2) (.seq (.reg [.p (.r (.r (.r (.r (.l (.r .h)))))) none (.mv (.s (.r (.l (.r (.r (.l (.r .h)))))))),
  .p (.l (.l (.l (.l (.r (.r .h)))))) none (.ig (nat_lit 2) (nat_lit 2) (.s (.l (.l (.r (.r (.l (.r .h))))))) (.s (.r (.l (.r (.r (.l (.r .h)))))))),
  .a (.r (.l (.r .h))) none (.al (nat_lit 55) (nat_lit 2) (.n (.n .e .s0 .e) (.i .i64 (.n (nat_lit 0))) .e)),
  .p (.l (.l (.r .h))) none (.mv (.s (.r (.r (.r (.r (.l (.r .h)))))))),
  .c none none (.st (nat_lit 2) (.s (.r (.l (.r .h)))) (.s (.l (.l (.l (.l (.r (.r .h))))))))])
 (.seq (.reg [.p (.r (.l (.l (.l (.r (.r .h)))))) none (.mv (.s (.l (.l (.r .h))))),
  .p (.l (.r (.l (.l (.r (.r .h)))))) none (.mv (.s (.l (.r (.l .h))))),
  .p (.r (.r (.l (.l (.r (.r .h)))))) none (.cp .lss (.s (.r (.l (.l (.l (.r (.r .h))))))) (.s (.l (.r (.l (.l (.r (.r .h)))))))),
  .p (.l (.l (.r (.l (.r (.r .h)))))) none (.mv (.s (.r (.r (.l (.l (.r (.r .h)))))))),
  .r (.r (.l (.r (.l (.r (.r .h)))))) (some ((.l (.l (.r (.l (.r (.r .h)))))), true)) (.lg (nat_lit 4) (.s (.r (.l .h)))),
  .r (.l (.r (.r (.l (.r (.r .h)))))) (some ((.l (.l (.r (.l (.r (.r .h)))))), true)) (.lg (nat_lit 2) (.s (.r (.l (.r .h))))),
  .p (.r (.r (.r (.l (.r (.r .h)))))) (some ((.l (.l (.r (.l (.r (.r .h)))))), true)) (.fa (nat_lit 0) (.s (.r (.r .h)))),
  .r (.l (.l (.l (.r (.r (.r .h)))))) (some ((.l (.l (.r (.l (.r (.r .h)))))), true)) (.ld (.s (.r (.r (.r (.l (.r (.r .h)))))))),
  .k (some (.r (.l (.l (.r (.r (.r .h))))))) (some ((.l (.l (.r (.l (.r (.r .h)))))), true)) (nat_lit 78) (.r (.r (.r (.r (.l (.l .h)))))) [(.s (.r (.l (.r (.l (.r (.r .h))))))), (.s (.l (.r (.r (.l (.r (.r .h))))))), (.s (.l (.l (.l (.r (.r (.r .h)))))))],
  .p (.l (.r (.l (.r (.r (.r .h)))))) (some ((.l (.l (.r (.l (.r (.r .h)))))), true)) (.nt (.s (.r (.l (.l (.r (.r (.r .h)))))))),
  .p (.r (.r (.l (.r (.r (.r .h)))))) none (.pk (.s (.l (.l (.r (.l (.r (.r .h))))))) (.s (.l (.r (.l (.r (.r (.r .h))))))) (.c (.a (.b false)))),
  .p (.l (.l (.r (.r (.r (.r .h)))))) none (.mv (.s (.r (.r (.l (.r (.r (.r .h)))))))),
  .p (.r (.l (.r (.r (.r (.r .h)))))) (some ((.l (.l (.r (.r (.r (.r .h)))))), false)) (.mv (.s (.l (.l (.r .h))))),
  .p (.l (.r (.r (.r (.r (.r .h)))))) (some ((.l (.l (.r (.r (.r (.r .h)))))), false)) (.mv (.s (.l (.r (.l .h))))),
  .p (.r (.r (.r (.r (.r (.r .h)))))) (some ((.l (.l (.r (.r (.r (.r .h)))))), false)) (.cp .geq (.s (.r (.l (.r (.r (.r (.r .h))))))) (.s (.l (.r (.r (.r (.r (.r .h)))))))),
  .p (.l (.l (.l (.l (.l (.l (.l .h))))))) (some ((.l (.l (.r (.r (.r (.r .h)))))), false)) (.mv (.s (.r (.r (.r (.r (.r (.r .h)))))))),
  .r (.r (.l (.l (.l (.l (.l (.l .h))))))) (some ((.l (.l (.l (.l (.l (.l (.l .h))))))), true)) (.lg (nat_lit 2) (.s (.r (.l (.r .h))))),
  .k (some (.l (.r (.l (.l (.l (.l (.l .h)))))))) (some ((.l (.l (.l (.l (.l (.l (.l .h))))))), true)) (nat_lit 77) (.l (.r (.r (.r (.l (.l .h)))))) [(.s (.r (.l (.l (.l (.l (.l (.l .h))))))))],
  .p (.r (.r (.l (.l (.l (.l (.l .h))))))) (some ((.l (.l (.l (.l (.l (.l (.l .h))))))), true)) (.nt (.s (.l (.r (.l (.l (.l (.l (.l .h))))))))),
  .p (.l (.l (.r (.l (.l (.l (.l .h))))))) (some ((.l (.l (.r (.r (.r (.r .h)))))), false)) (.pk (.s (.l (.l (.l (.l (.l (.l (.l .h)))))))) (.s (.r (.r (.l (.l (.l (.l (.l .h)))))))) (.c (.a (.b false)))),
  .p (.r (.l (.r (.l (.l (.l (.l .h))))))) none (.pk (.s (.l (.l (.r (.r (.r (.r .h))))))) (.c (.a (.b true))) (.s (.l (.l (.r (.l (.l (.l (.l .h)))))))))])
 (.cond (.s (.r (.l (.r (.l (.l (.l (.l .h)))))))) (.seq (.reg [.p (.r (.l (.l .h))) none (.mv (.c (.a (.b false))))])
 .rt) .skip))))
 (.reg [.p (.l (.r (.r (.l (.l (.l (.l .h))))))) none (.ar .add (.s (.r (.l (.r (.r (.l (.r .h))))))) (.c (.a (.i .i64 (.n (nat_lit 1)))))),
  .p (.r (.l (.r (.r (.l (.r .h)))))) none (.mv (.s (.l (.r (.r (.l (.l (.l (.l .h)))))))))])))))))
 (.seq (.reg [.p (.r (.l (.l .h))) none (.mv (.c (.a (.b true))))])
 .rt)))))))), false, false⟩
noncomputable def rf67 : RF := ⟨[.h, (.l .h)], [], (.seq (.reg [.p (.r (.l (.l .h))) none (.fa (nat_lit 1) (.s (.l .h))),
  .r (.l (.r (.l .h))) none (.ld (.s (.r (.l (.l .h))))),
  .p (.r (.r (.l .h))) none (.ln (.s (.l (.r (.l .h))))),
  .p (.l (.l (.r .h))) none (.mv (.c (.a (.i .i64 (.n (nat_lit 0))))))])
 (.blk (nat_lit 0) (.loop (.seq (.reg [.p (.r (.l (.r .h))) none (.cp .lss (.s (.l (.l (.r .h)))) (.s (.r (.r (.l .h)))))])
 (.seq (.cond (.s (.r (.l (.r .h)))) .skip (.ex (nat_lit 0)))
 (.seq (.blk (nat_lit 1) (.seq (.reg [.p (.l (.r (.r .h))) none (.mv (.s (.l (.l (.r .h))))),
  .p (.r (.r (.r .h))) none (.ix (nat_lit 10) (.s (.l (.r (.l .h)))) (.s (.l (.l (.r .h))))),
  .r (.l (.l (.l (.l .h)))) none (.lg (nat_lit 10) (.s (.r (.r (.r .h))))),
  .a (.r (.l .h)) none (.al (nat_lit 60) (nat_lit 10) (.n (.n (.n (.n .e .s0 .e) (.i .i64 (.n (nat_lit 0))) .e) .s0 (.n (.n .e .s0 .e) .s0 .e)) (.i .i64 (.n (nat_lit 0))) (.n (.n (.n .e (.i .i64 (.n (nat_lit 0))) .e) (.i .i64 (.n (nat_lit 0))) .e) (.i .i64 (.n (nat_lit 0))) (.n .e (.i .i64 (.n (nat_lit 0))) .e)))),
  .p (.l (.l .h)) none (.mv (.s (.l (.r (.r .h))))),
  .c none none (.st (nat_lit 10) (.s (.r (.l .h))) (.s (.l (.l (.l (.l .h))))))])
 (.seq (.reg [.p (.l (.r .h)) none (.mv (.c (.a (.i .i64 (.n (nat_lit 0))))))])
 (.seq (.seq (.reg [.p (.r (.l (.l (.l .h)))) none (.fa (nat_lit 2) (.s (.r (.l .h)))),
  .p (.l (.r (.l (.l .h)))) none (.fa (nat_lit 0) (.s (.r (.l (.l (.l .h)))))),
  .r (.r (.r (.l (.l .h)))) none (.ld (.s (.l (.r (.l (.l .h)))))),
  .p (.l (.l (.r (.l .h)))) none (.cp .eql (.s (.r (.r (.l (.l .h))))) (.c (.a (.i .i64 (.n (nat_lit 3))))))])
 (.cond (.s (.l (.l (.r (.l .h))))) (.reg [.p (.l (.r .h)) none (.mv (.c (.a (.i .i64 (.n (nat_lit 1))))))]) .skip))
 (.seq (.reg [.p (.r (.l (.r (.l .h)))) none (.fa (nat_lit 2) (.s (.r (.l .h)))),
  .p (.l (.r (.r (.l .h)))) none (.fa (nat_lit 4) (.s (.r (.l (.r (.l .h)))))),
  .r (.r (.r (.r (.l .h)))) none (.lg (nat_lit 4) (.s (.l (.r (.r (.l .h)))))),
  .p (.l (.l (.l (.r .h)))) none (.mv (.c (.a (.i .i64 (.n (nat_lit 0))))))])
 (.blk (nat_lit 2) (.loop (.seq (.reg [.p (.r (.l (.l (.r .h)))) none (.cp .lss (.s (.l (.l (.l (.r .h))))) (.c (.a (.i .i64 (.n (nat_lit 2))))))])
 (.seq (.cond (.s (.r (.l (.l (.r .h))))) .skip (.ex (nat_lit 2)))
 (.seq (.blk (nat_lit 3) (.seq (.reg [.p (.l (.r (.l (.r .h)))) none (.ig (nat_lit 2) (nat_lit 2) (.s (.r (.r (.r (.l .h))))) (.s (.l (.l (.l (.r .h)))))),
  .a (.l (.l (.l .h))) none (.al (nat_lit 55) (nat_lit 2) (.n (.n .e .s0 .e) (.i .i64 (.n (nat_lit 0))) .e)),
  .c none none (.st (nat_lit 2) (.s (.l (.l (.l .h)))) (.s (.l (.r (.l (.r .h))))))])
 (.seq (.reg [.p (.r (.r (.l (.r .h)))) none (.fa (nat_lit 0) (.s (.l (.l (.l .h))))),
  .r (.l (.l (.r (.r .h)))) none (.ld (.s (.r (.r (.l (.r .h)))))),
  .p (.r (.l (.r (.r .h)))) none (.cp .geq (.s (.l (.l (.r (.r .h))))) (.c (.a (.i .i64 (.n (nat_lit 0)))))),
  .p (.l (.r (.r (.r .h)))) none (.mv (.s (.r (.l (.r (.r .h)))))),
  .p (.r (.r (.r (.r .h)))) (some ((.l (.r (.r (.r .h)))), true)) (.mv (.s .h)),
  .p (.l (.l (.l (.l (.l .h))))) (some ((.l (.r (.r (.r .h)))), true)) (.mv (.s (.l (.l .h)))),
  .p (.r (.l (.l (.l (.l .h))))) (some ((.l (.r (.r (.r .h)))), true)) (.mv (.s (.l (.r .h)))),
  .r (.l (.r (.l (.l (.l .h))))) (some ((.l (.r (.r (.r .h)))), true)) (.lg (nat_lit 2) (.s (.l (.l (.l .h))))),
  .p (.r (.r (.l (.l (.l .h))))) (some ((.l (.r (.r (.r .h)))), true)) (.bd [(.i .i64 (.n (nat_lit 0))), (.i .i64 (.n (nat_lit 0))), (.i .i64 (.n (nat_lit 0))), .s0] [((nat_lit 0), (nat_lit 1), (.s (.l (.l (.l (.l (.l .h))))))), ((nat_lit 1), (nat_lit 1), (.s (.r (.l (.l (.l (.l .h))))))), ((nat_lit 2), (nat_lit 2), (.s (.l (.r (.l (.l (.l .h)))))))]),
  .v (some (.l (.l (.r (.l (.l .h)))))) (some ((.l (.r (.r (.r .h)))), true)) (.s (.r (.r (.r (.r .h))))) [(.s (.r (.r (.l (.l (.l .h))))))],
  .p (.r (.l (.r (.l (.l .h))))) (some ((.l (.r (.r (.r .h)))), true)) (.nt (.s (.l (.l (.r (.l (.l .h))))))),
  .p (.l (.r (.r (.l (.l .h))))) none (.pk (.s (.l (.r (.r (.r .h))))) (.s (.r (.l (.r (.l (.l .h)))))) (.c (.a (.b false))))])
 (.cond (.s (.l (.r (.r (.l (.l .h)))))) .rt .skip))))
 (.reg [.p (.r (.r (.r (.l (.l .h))))) none (.ar .add (.s (.l (.l (.l (.r .h))))) (.c (.a (.i .i64 (.n (nat_lit 1)))))),
  .p (.l (.l (.l (.r .h)))) none (.mv (.s (.r (.r (.r (.l (.l .h)))))))])))))))))))
 (.reg [.p (.l (.l (.l (.r (.l .h))))) none (.ar .add (.s (.l (.l (.r .h)))) (.c (.a (.i .i64 (.n (nat_lit 1)))))),
  .p (.l (.l (.r .h))) none (.mv (.s (.l (.l (.l (.r (.l .h)))))))]))))))), false, false⟩
noncomputable def rf68 : RF := ⟨[.h, (.l .h)], [.s (.r (.l .h)), .s (.l (.r .h))], (.seq (.reg [.a (.l (.l .h)) none (.bx (nat_lit 91) (nat_lit 2) (.s (.l .h))),
  .p (.r (.l .h)) none (.mv (.c (.a (.i .i64 (.n (nat_lit 0)))))),
  .p (.l (.r .h)) none (.mv (.c (.a (.b false))))])
 (.seq (.drw [⟨.p (.l (.r (.l .h))) none (.mv (.s .h)), (nat_lit 0), [], []⟩,
  ⟨.p (.r (.r (.l .h))) none (.nc (.s (.l (.r (.l .h))))), (nat_lit 1), [(nat_lit 0)], []⟩,
  ⟨.p (.l (.l (.r .h))) none (.fa (nat_lit 4) (.s (.r (.r (.l .h))))), (nat_lit 2), [(nat_lit 0), (nat_lit 1)], []⟩,
  ⟨.r (.r (.l (.r .h))) none (.ld (.s (.l (.l (.r .h))))), (nat_lit 3), [(nat_lit 0), (nat_lit 1), (nat_lit 2)], []⟩,
  ⟨.r (.l (.r (.r .h))) none (.lg (nat_lit 2) (.s (.l (.l .h)))), (nat_lit 4), [], []⟩,
  ⟨.r (.r (.r (.r .h))) none (.lk true true [(nat_lit 0), (nat_lit 0)] (.g [(.i .i64 (.n (nat_lit 0))), (.i .i64 (.n (nat_lit 0))), (.i .i64 (.n (nat_lit 0))), (.i .i64 (.n (nat_lit 0))), (.i .i64 (.n (nat_lit 0))), (.i .i64 (.n (nat_lit 0))), (.i .i64 (.n (nat_lit 0))), (.i .i64 (.n (nat_lit 0))), (.i .i64 (.n (nat_lit 0))), (.i .i64 (.n (nat_lit 0))), (.i .i64 (.n (nat_lit 0)))]) (.s (.r (.l (.r .h)))) (.s (.l (.r (.r .h))))), (nat_lit 5), [(nat_lit 0), (nat_lit 1), (nat_lit 2), (nat_lit 3), (nat_lit 4)], []⟩,
  ⟨.p (.r (.l (.l .h))) none (.mv (.s (.r (.r (.r .h))))), (nat_lit 6), [(nat_lit 0), (nat_lit 1), (nat_lit 2), (nat_lit 3), (nat_lit 4), (nat_lit 5)], []⟩,
  ⟨.p (.l (.l (.l (.l .h)))) none (.ex (nat_lit 0) (.s (.r (.l (.l .h))))), (nat_lit 7), [(nat_lit 0), (nat_lit 1), (nat_lit 2), (nat_lit 3), (nat_lit 4), (nat_lit 5), (nat_lit 6)], []⟩,
  ⟨.p (.r (.l (.l (.l .h)))) none (.ex (nat_lit 1) (.s (.r (.l (.l .h))))), (nat_lit 8), [(nat_lit 0), (nat_lit 1), (nat_lit 2), (nat_lit 3), (nat_lit 4), (nat_lit 5), (nat_lit 6)], []⟩,
  ⟨.a (.r (.r .h)) none (.al (nat_lit 46) (nat_lit 11) (.n (.n (.n (.n .e (.i .i64 (.n (nat_lit 0))) .e) (.i .i64 (.n (nat_lit 0))) .e) (.i .i64 (.n (nat_lit 0))) (.n (.n .e (.i .i64 (.n (nat_lit 0))) .e) (.i .i64 (.n (nat_lit 0))) .e)) (.i .i64 (.n (nat_lit 0))) (.n (.n (.n .e (.i .i64 (.n (nat_lit 0))) .e) (.i .i64 (.n (nat_lit 0))) .e) (.i .i64 (.n (nat_lit 0))) (.n (.n .e (.i .i64 (.n (nat_lit 0))) .e) (.i .i64 (.n (nat_lit 0))) .e)))), (nat_lit 9), [], []⟩,
  ⟨.c none none (.st (nat_lit 11) (.s (.r (.r .h))) (.s (.l (.l (.l (.l .h)))))), (nat_lit 10), [(nat_lit 0), (nat_lit 1), (nat_lit 2), (nat_lit 3), (nat_lit 4), (nat_lit 5), (nat_lit 6), (nat_lit 7), (nat_lit 9)], []⟩,
  ⟨.p (.l (.l (.l .h))) none (.mv (.s (.r (.l (.l (.l .h)))))), (nat_lit 11), [(nat_lit 0), (nat_lit 1), (nat_lit 2), (nat_lit 3), (nat_lit 4), (nat_lit 5), (nat_lit 6), (nat_lit 7), (nat_lit 8), (nat_lit 9), (nat_lit 10)], []⟩])
 (.seq (.drw [⟨.p (.l (.r (.l (.l .h)))) none (.fa (nat_lit 4) (.s (.r (.r .h)))), (nat_lit 0), [], []⟩,
  ⟨.r (.r (.r (.l (.l .h)))) none (.ld (.s (.l (.r (.l (.l .h)))))), (nat_lit 1), [(nat_lit 0)], []⟩,
  ⟨.p (.l (.l (.r (.l .h)))) none (.mv (.s (.l (.l (.l .h))))), (nat_lit 2), [], []⟩,
  ⟨.p (.r (.l (.r (.l .h)))) none (.mv (.s (.l (.l (.r (.l .h)))))), (nat_lit 3), [(nat_lit 2)], []⟩,
  ⟨.p (.l (.r (.r (.l .h)))) (some ((.r (.l (.r (.l .h)))), true)) (.fa (nat_lit 0) (.s (.r (.r .h)))), (nat_lit 4), [(nat_lit 2), (nat_lit 3)], []⟩,
  ⟨.r (.r (.r (.r (.l .h)))) (some ((.r (.l (.r (.l .h)))), true)) (.ld (.s (.l (.r (.r (.l .h)))))), (nat_lit 5), [(nat_lit 2), (nat_lit 3), (nat_lit 4)], []⟩,
  ⟨.p (.l (.l (.l (.r .h)))) (some ((.r (.l (.r (.l .h)))), true)) (.cp .eql (.s (.r (.r (.r (.l .h))))) (.c (.a (.i .i64 (.n (nat_lit 1)))))), (nat_lit 6), [(nat_lit 2), (nat_lit 3), (nat_lit 4), (nat_lit 5)], []⟩,
  ⟨.p (.r (.l (.l (.r .h)))) none (.pk (.s (.r (.l (.r (.l .h))))) (.s (.l (.l (.l (.r .h))))) (.c (.a (.b false)))), (nat_lit 7), [(nat_lit 2), (nat_lit 3), (nat_lit 4), (nat_lit 5), (nat_lit 6)], []⟩,
  ⟨.p (.r (.l .h)) none (.mv (.s (.r (.r (.l (.l .h)))))), (nat_lit 8), [(nat_lit 0), (nat_lit 1), (nat_lit 2), (nat_lit 3)], []⟩,
  ⟨.p (.l (.r .h)) none (.mv (.s (.r (.l (.l (.r .h)))))), (nat_lit 9), [(nat_lit 0), (nat_lit 1), (nat_lit 2), (nat_lit 3), (nat_lit 4), (nat_lit 5), (nat_lit 6), (nat_lit 7), (nat_lit 8)], []⟩])
 .rt))), false, false⟩
noncomputable def rf74 : RF := ⟨[.h, (.l .h), (.r .h)], [.s (.l (.r .h))], (.seq (.reg [.p (.l (.r .h)) none (.mv (.c (.a (.b false))))])
 (.seq (.reg [.r (.r (.r .h)) none (.ld (.s (.r .h))),
  .p (.l (.l (.l .h))) none (.mv (.s .h)),
  .p (.r (.l (.l .h))) none (.ar .and (.s (.r (.r .h))) (.s (.l (.l (.l .h))))),
  .p (.l (.r (.l .h))) none (.cp .eql (.s (.r (.l (.l .h)))) (.c (.a (.i .i64 (.n (nat_lit 0)))))),
  .p (.r (.r (.l .h))) none (.mv (.s (.l (.r (.l .h))))),
  .p (.l (.l (.r .h))) (some ((.r (.r (.l .h))), true)) (.mv (.s (.l .h))),
  .p (.r (.l (.r .h))) (some ((.r (.r (.l .h))), true)) (.cp .neq (.s (.l (.l (.r .h)))) (.c (.a (.i .i64 (.n (nat_lit 0)))))),
  .p (.l (.r (.r .h))) none (.pk (.s (.r (.r (.l .h)))) (.s (.r (.l (.r .h)))) (.c (.a (.b false)))),
  .p (.l (.r .h)) none (.mv (.s (.l (.r (.r .h)))))])
 .rt)), false, false⟩
noncomputable def rf75 : RF := ⟨[.h, (.l .h), (.r .h)], [.s (.r (.r .h))], (.seq (.reg [.a (.l (.l .h)) none (.bx (nat_lit 159) (nat_lit 2) (.s .h)),
  .p (.r (.r .h)) none (.mv (.c (.a (.b false))))])
 (.seq (.seq (.reg [.p (.l (.r (.l .h))) none (.mv (.s (.l .h))),
  .p (.r (.r (.l .h))) none (.fa (nat_lit 0) (.s (.l (.l .h)))),
  .r (.l (.l (.r .h))) none (.ld (.s (.r (.r (.l .h))))),
  .p (.r (.l (.r .h))) none (.ar .sub (.s (.l (.l (.r .h)))) (.c (.a (.i .i64 (.n (nat_lit 1)))))),
  .k (some (.l (.r (.r .h)))) none (nat_lit 42) (.r (.r (.l (.r (.l .h))))) [(.s (.l (.r (.l .h)))), (.s (.r (.l (.r .h))))]])
 (.cond (.s (.l (.r (.r .h)))) (.seq (.reg [.p (.r (.r .h)) none (.mv (.c (.a (.b true))))])
 .rt) .skip))
 (.seq (.reg [.p (.l (.l (.l (.l .h)))) none (.fa (nat_lit 1) (.s (.l (.l .h)))),
  .r (.r (.l (.l (.l .h)))) none (.ld (.s (.l (.l (.l (.l .h)))))),
  .p (.l (.r (.l (.l .h)))) none (.mv (.s (.l .h))),
  .r (.r (.r (.l (.l .h)))) none (.lk true false [(nat_lit 0)] (.a (.i .i64 (.n (nat_lit 0)))) (.s (.r (.l (.l (.l .h))))) (.s (.l (.r (.l (.l .h)))))),
  .p (.r (.r (.r .h))) none (.mv (.s (.r (.r (.l (.l .h)))))),
  .p (.l (.l (.r (.l .h)))) none (.ex (nat_lit 0) (.s (.r (.r (.r .h))))),
  .p (.r (.l (.r (.l .h)))) none (.ex (nat_lit 1) (.s (.r (.r (.r .h))))),
  .p (.l (.l (.l .h))) none (.mv (.s (.l (.l (.r (.l .h)))))),
  .p (.r (.l (.l .h))) none (.mv (.s (.r (.l (.r (.l .h))))))])
 (.seq (.reg [.p (.l (.r (.r (.l .h)))) none (.mv (.s (.r (.l (.l .h))))),
  .p (.r (.r (.r (.l .h)))) none (.mv (.s (.l (.r (.r (.l .h)))))),
  .p (.l (.l (.l (.r .h)))) (some ((.r (.r (.r (.l .h)))), true)) (.mv (.s (.l (.l (.l .h))))),
  .p (.r (.l (.l (.r .h)))) (some ((.r (.r (.r (.l .h)))), true)) (.mv (.s (.r .h))),
  .p (.l (.r (.l (.r .h)))) (some ((.r (.r (.r (.l .h)))), true)) (.cp .lss (.s (.l (.l (.l (.r .h))))) (.s (.r (.l (.l (.r .h)))))),
  .p (.r (.r (.l (.r .h)))) none (.pk (.s (.r (.r (.r (.l .h))))) (.s (.l (.r (.l (.r .h))))) (.c (.a (.b false)))),
  .p (.r (.r .h)) none (.mv (.s (.r (.r (.l (.r .h))))))])
 .rt)))), false, false⟩
noncomputable def rf76 : RF := ⟨[.h, (.l .h), (.r .h)], [.s (.r (.r .h))], (.seq (.reg [.a (.l (.l .h)) none (.bx (nat_lit 159) (nat_lit 2) (.s .h)),
  .p (.r (.r .h)) none (.mv (.c (.a (.b false))))])
 (.seq (.seq (.reg [.p (.l (.r (.l .h))) none (.mv (.s (.r .h))),
  .p (.r (.r (.l .h))) none (.ln (.s (.l (.r (.l .h))))),
  .p (.l (.l (.r .h))) none (.mv (.c (.a (.i .i64 (.n (nat_lit 0))))))])
 (.blk (nat_lit 0) (.loop (.seq (.reg [.p (.r (.l (.r .h))) none (.cp .lss (.s (.l (.l (.r .h)))) (.s (.r (.r (.l .h)))))])
 (.seq (.cond (.s (.r (.l (.r .h)))) .skip (.ex (nat_lit 0)))
 (.seq (.blk (nat_lit 1) (.seq (.reg [.p (.l (.r (.r .h))) none (.ix (nat_lit 1) (.s (.l (.r (.l .h)))) (.s (.l (.l (.r .h))))),
  .r (.r (.r (.r .h))) none (.ld (.s (.l (.r (.r .h))))),
  .p (.r (.l (.l .h))) none (.mv (.s (.r (.r (.r .h)))))])
 (.seq (.reg [.r (.l (.l (.l (.l .h)))) none (.lg (nat_lit 2) (.s (.l (.l .h)))),
  .p (.r (.l (.l (.l .h)))) none (.mv (.s (.r (.l (.l .h))))),
  .p (.l (.r (.l (.l .h)))) none (.mv (.s (.l .h))),
  .k (some (.r (.r (.l (.l .h))))) none (nat_lit 75) (.l (.l (.r (.r (.l (.l .h)))))) [(.s (.l (.l (.l (.l .h))))), (.s (.r (.l (.l (.l .h))))), (.s (.l (.r (.l (.l .h)))))],
  .p (.l (.l (.r (.l .h)))) none (.nt (.s (.r (.r (.l (.l .h))))))])
 (.cond (.s (.l (.l (.r (.l .h))))) (.seq (.reg [.p (.r (.r .h)) none (.mv (.c (.a (.b false))))])
 .rt) .skip))))
 (.reg [.p (.r (.l (.r (.l .h)))) none (.ar .add (.s (.l (.l (.r .h)))) (.c (.a (.i .i64 (.n (nat_lit 1)))))),
  .p (.l (.l (.r .h))) none (.mv (.s (.r (.l (.r (.l .h))))))])))))))
 (.seq (.reg [.p (.r (.r .h)) none (.mv (.c (.a (.b true))))])
 .rt))), false, false⟩
noncomputable def rf77 : RF := ⟨[.h], [.s (.r .h)], (.seq (.reg [.a (.l .h) none (.bx (nat_lit 55) (nat_lit 2) (.s .h)),
  .p (.r .h) none (.mv (.c (.a (.b false))))])
 (.seq (.reg [.p (.l (.l .h)) none (.fa (nat_lit 0) (.s (.l .h))),
  .r (.r (.l .h)) none (.ld (.s (.l (.l .h)))),
  .p (.l (.r .h)) none (.cp .eql (.s (.r (.l .h))) (.c (.a (.i .i64 (.g (nat_lit 0)))))),
  .p (.r (.r .h)) none (.mv (.s (.l (.r .h)))),
  .p (.l (.l (.l .h))) (some ((.r (.r .h)), true)) (.fa (nat_lit 1) (.s (.l .h))),
  .r (.r (.l (.l .h))) (some ((.r (.r .h)), true)) (.ld (.s (.l (.l (.l .h))))),
  .p (.l (.r (.l .h))) (some ((.r (.r .h)), true)) (.ln (.s (.r (.l (.l .h))))),
  .p (.r (.r (.l .h))) (some ((.r (.r .h)), true)) (.cp .eql (.s (.l (.r (.l .h)))) (.c (.a (.i .i64 (.n (nat_lit 0)))))),
  .p (.l (.l (.r .h))) none (.pk (.s (.r (.r .h))) (.s (.r (.r (.l .h)))) (.c (.a (.b false)))),
  .p (.r .h) none (.mv (.s (.l (.l (.r .h)))))])
 .rt)), false, false⟩
noncomputable def rf78 : RF := ⟨[.h, (.l .h), (.r .h)], [.s (.r (.r .h))], (.seq (.reg [.a (.l (.l .h)) none (.bx (nat_lit 51) (nat_lit 4) (.s .h)),
  .a (.r (.l .h)) none (.bx (nat_lit 55) (nat_lit 2) (.s (.l .h))),
  .p (.r (.r .h)) none (.mv (.c (.a (.b false))))])
 (.seq (.seq (.reg [.p (.r (.l (.l .h))) none (.fa (nat_lit 0) (.s (.r (.l .h)))),
  .r (.l (.r (.l .h))) none (.ld (.s (.r (.l (.l .h))))),
  .p (.r (.r (.l .h))) none (.cp .lss (.s (.l (.r (.l .h)))) (.c (.a (.i .i64 (.n (nat_lit 1)))))),
  .p (.l (.l (.r .h))) none (.mv (.s (.r (.r (.l .h))))),
  .p (.r (.l (.r .h))) (some ((.l (.l (.r .h))), false)) (.fa (nat_lit 0) (.s (.r (.l .h)))),
  .r (.l (.r (.r .h))) (some ((.l (.l (.r .h))), false)) (.ld (.s (.r (.l (.r .h))))),
  .p (.r (.r (.r .h))) (some ((.l (.l (.r .h))), false)) (.fa (nat_lit 1) (.s (.l (.l .h)))),
  .r (.l (.l (.l (.l .h)))) (some ((.l (.l (.r .h))), false)) (.ld (.s (.r (.r (.r .h))))),
  .p (.r (.l (.l (.l .h)))) (some ((.l (.l (.r .h))), false)) (.ln (.s (.l (.l (.l (.l .h)))))),
  .p (.l (.r (.l (.l .h)))) (some ((.l (.l (.r .h))), false)) (.cp .geq (.s (.l (.r (.r .h)))) (.s (.r (.l (.l (.l .h)))))),
  .p (.r (.r (.l (.l .h)))) none (.pk (.s (.l (.l (.r .h)))) (.c (.a (.b true))) (.s (.l (.r (.l (.l .h))))))])
 (.cond (.s (.r (.r (.l (.l .h))))) (.seq (.reg [.p (.r (.r .h)) none (.mv (.c (.a (.b false))))])
 .rt) .skip))
 (.seq (.reg [.p (.l (.l (.r (.l .h)))) none (.fa (nat_lit 1) (.s (.r (.l .h)))),
  .r (.r (.l (.r (.l .h)))) none (.ld (.s (.l (.l (.r (.l .h)))))),
  .p (.l (.r (.r (.l .h)))) none (.ln (.s (.r (.l (.r (.l .h)))))),
  .p (.l (.l (.l .h))) none (.mv (.s (.l (.r (.r (.l .h))))))])
 (.seq (.seq (.reg [.p (.r (.r (.r (.l .h)))) none (.mv (.s (.r .h))),
  .p (.l (.l (.l (.r .h)))) none (.cp .eql (.s (.r (.r (.r (.l .h))))) (.c (.a (.i .i64 (.n (nat_lit 3))))))])
 (.cond (.s (.l (.l (.l (.r .h))))) (.reg [.p (.r (.l (.l (.r .h)))) none (.mv (.s (.l (.l (.l .h))))),
  .p (.l (.r (.l (.r .h)))) none (.ar .add (.s (.r (.l (.l (.r .h))))) (.c (.a (.i .i64 (.n (nat_lit 1)))))),
  .p (.l (.l (.l .h))) none (.mv (.s (.l (.r (.l (.r .h))))))]) .skip))
 (.seq (.reg [.p (.r (.r (.l (.r .h)))) none (.mv (.s (.l (.l (.l .h))))),
  .p (.l (.l (.r (.r .h)))) none (.fa (nat_lit 1) (.s (.l (.l .h)))),
  .r (.r (.l (.r (.r .h)))) none (.ld (.s (.l (.l (.r (.r .h)))))),
  .p (.l (.r (.r (.r .h)))) none (.fa (nat_lit 0) (.s (.r (.l .h)))),
  .r (.r (.r (.r (.r .h)))) none (.ld (.s (.l (.r (.r (.r .h)))))),
  .p (.l (.l (.l (.l (.l .h))))) none (.ix (nat_lit 10) (.s (.r (.l (.r (.r .h))))) (.s (.r (.r (.r (.r .h)))))),
  .p (.r (.l (.l (.l (.l .h))))) none (.fa (nat_lit 0) (.s (.l (.l (.l (.l (.l .h))))))),
  .r (.l (.r (.l (.l (.l .h))))) none (.ld (.s (.r (.l (.l (.l (.l .h))))))),
  .p (.r (.r (.l (.l (.l .h))))) none (.cp .eql (.s (.r (.r (.l (.r .h))))) (.s (.l (.r (.l (.l (.l .h))))))),
  .p (.r (.r .h)) none (.mv (.s (.r (.r (.l (.l (.l .h)))))))])
 .rt))))), false, false⟩
noncomputable def site0 : Site := ⟨181, rfA (nav [1, 1, 1, 1, 1, 0, 1, 0] (bodyOf Try.f25)), rfB (nav [1, 1, 1, 1, 1, 0, 1, 0] (bodyOf Try.f25)), (.reg [.a (.r (.r .h)) none (.al (nat_lit 134) (nat_lit 4) (.n (.n (.n .e .s0 .e) (.i .i64 (.n (nat_lit 0))) .e) (.i .i64 (.n (nat_lit 0))) (.n .e (.i .i64 (.n (nat_lit 0))) .e))),
  .c none none (.st (nat_lit 4) (.s (.r (.r .h))) (.s (.l (.r (.l (.r (.l .h)))))))]), (.blk (nat_lit 3) (.seq (.drw [⟨.r (.r (.r (.l (.r (.l .h))))) none (.ld (.s (.l (.r .h)))), (nat_lit 0), [], []⟩,
  ⟨.p (.l (.l (.r (.r (.l .h))))) none (.fa (nat_lit 2) (.s (.r (.r .h)))), (nat_lit 1), [], []⟩,
  ⟨.p (.r (.l (.r (.r (.l .h))))) none (.fa (nat_lit 0) (.s (.l (.l (.r (.r (.l .h))))))), (nat_lit 2), [(nat_lit 1)], []⟩,
  ⟨.r (.l (.r (.r (.r (.l .h))))) none (.ld (.s (.r (.l (.r (.r (.l .h))))))), (nat_lit 3), [(nat_lit 1), (nat_lit 2)], []⟩,
  ⟨.r (.r (.r (.r (.r (.l .h))))) none (.ld (.s (.l (.r .h)))), (nat_lit 4), [], []⟩,
  ⟨.p (.l (.l (.l (.l (.r .h))))) none (.fa (nat_lit 2) (.s (.r (.r .h)))), (nat_lit 5), [], []⟩,
  ⟨.p (.r (.l (.l (.l (.r .h))))) none (.fa (nat_lit 0) (.s (.l (.l (.l (.l (.r .h))))))), (nat_lit 6), [(nat_lit 5)], []⟩,
  ⟨.r (.l (.r (.l (.l (.r .h))))) none (.ld (.s (.r (.l (.l (.l (.r .h))))))), (nat_lit 7), [(nat_lit 5), (nat_lit 6)], []⟩,
  ⟨.p (.r (.r (.l (.l (.r .h))))) none (.ix (nat_lit 1) (.s (.r (.r (.r (.r (.l .h)))))) (.s (.l (.r (.l (.l (.r .h))))))), (nat_lit 8), [(nat_lit 4), (nat_lit 5), (nat_lit 6), (nat_lit 7)], []⟩,
  ⟨.r (.l (.l (.r (.l (.r .h))))) none (.ld (.s (.r (.r (.l (.l (.r .h))))))), (nat_lit 9), [(nat_lit 4), (nat_lit 5), (nat_lit 6), (nat_lit 7), (nat_lit 8)], []⟩,
  ⟨.r (.r (.l (.r (.l (.r .h))))) none (.lg (nat_lit 4) (.s (.r (.r .h)))), (nat_lit 10), [], []⟩,
  ⟨.a (.l (.r (.r (.l (.r .h))))) none (.bs (nat_lit 134) (nat_lit 1) [(.i .i64 (.n (nat_lit 0))), (.i .i64 (.n (nat_lit 0))), (.i .i64 (.n (nat_lit 0))), .s0] [((nat_lit 0), (nat_lit 4), (.s (.r (.l (.r (.l (.r .h)))))))]), (nat_lit 11), [(nat_lit 10)], []⟩,
  ⟨.c (some (.r (.r (.r (.l (.r .h)))))) none (.ap (nat_lit 134) (nat_lit 4) (nat_lit 48) (.s (.l (.l (.r (.l (.r .h)))))) (.s (.l (.r (.r (.l (.r .h))))))), (nat_lit 12), [(nat_lit 4), (nat_lit 5), (nat_lit 6), (nat_lit 7), (nat_lit 8), (nat_lit 9), (nat_lit 10), (nat_lit 11)], [false, false, false, false, true, true]⟩,
  ⟨.p (.l (.l (.l (.r (.r .h))))) none (.ix (nat_lit 1) (.s (.r (.r (.l (.r (.l .h)))))) (.s (.l (.r (.r (.r (.l .h))))))), (nat_lit 13), [(nat_lit 0), (nat_lit 1), (nat_lit 2), (nat_lit 3), (nat_lit 4), (nat_lit 5), (nat_lit 6), (nat_lit 7), (nat_lit 8), (nat_lit 9), (nat_lit 10), (nat_lit 11), (nat_lit 12)], []⟩,
  ⟨.c none none (.st (nat_lit 1) (.s (.l (.l (.l (.r (.r .h)))))) (.s (.r (.r (.r (.l (.r .h))))))), (nat_lit 14), [(nat_lit 0), (nat_lit 1), (nat_lit 2), (nat_lit 3), (nat_lit 4), (nat_lit 5), (nat_lit 6), (nat_lit 7), (nat_lit 8), (nat_lit 9), (nat_lit 10), (nat_lit 11), (nat_lit 12), (nat_lit 13)], []⟩])
 (.seq (.reg [.p (.r (.l (.l (.r (.r .h))))) none (.fa (nat_lit 1) (.s (.r (.r .h)))),
  .r (.l (.r (.l (.r (.r .h))))) none (.ld (.s (.r (.l (.l (.r (.r .h))))))),
  .p (.r (.r (.l (.r (.r .h))))) none (.cp .gtr (.s (.l (.r (.l (.r (.r .h)))))) (.c (.a (.i .i64 (.n (nat_lit 0))))))])
 (.cond (.s (.r (.r (.l (.r (.r .h)))))) (.reg [.r (.l (.l (.r (.r (.r .h))))) none (.ld (.s (.l (.l .h)))),
  .p (.r (.l (.r (.r (.r .h))))) none (.fa (nat_lit 2) (.s (.r (.r .h)))),
  .p (.l (.r (.r (.r (.r .h))))) none (.fa (nat_lit 0) (.s (.r (.l (.r (.r (.r .h))))))),
  .r (.r (.r (.r (.r (.r .h))))) none (.ld (.s (.l (.r (.r (.r (.r .h))))))),
  .a (.l (.l (.l (.l (.l (.l .h)))))) none (.bs (nat_lit 3) (nat_lit 1) [(.i .i64 (.n (nat_lit 0)))] [((nat_lit 0), (nat_lit 1), (.c (.a (.i .i64 (.n (nat_lit 0))))))]),
  .v (some (.r (.l (.l (.l (.l (.l .h))))))) none (.s (.l (.l (.r (.r (.r .h)))))) [(.s (.r (.r (.r (.r (.r .h)))))), (.s (.l (.l (.l (.l (.l (.l .h)))))))]]) .skip))))⟩
noncomputable def site1 : Site := ⟨132, rfA (nav [1, 1, 0, 1, 0] (bodyOf Try.f24)), rfB (nav [1, 1, 0, 1, 0] (bodyOf Try.f24)), (.reg [.a (.r (.r .h)) none (.al (nat_lit 134) (nat_lit 4) (.n (.n (.n .e .s0 .e) (.i .i64 (.n (nat_lit 0))) .e) (.i .i64 (.n (nat_lit 0))) (.n .e (.i .i64 (.n (nat_lit 0))) .e))),
  .c none none (.st (nat_lit 4) (.s (.r (.r .h))) (.s (.r (.r (.l (.r (.r .h)))))))]), (.blk (nat_lit 5) (.seq (.reg [.p (.l (.l (.r (.r (.r .h))))) none (.fa (nat_lit 1) (.s (.r (.r .h)))),
  .r (.r (.l (.r (.r (.r .h))))) none (.ld (.s (.l (.l (.r (.r (.r .h))))))),
  .p (.l (.r (.r (.r (.r .h))))) none (.cp .gtr (.s (.r (.l (.r (.r (.r .h)))))) (.c (.a (.i .i64 (.n (nat_lit 0))))))])
 (.cond (.s (.l (.r (.r (.r (.r .h)))))) (.drw [⟨.r (.r (.r (.r (.r (.r .h))))) none (.ld (.s (.l .h))), (nat_lit 0), [], []⟩,
  ⟨.p (.l (.l (.l (.l (.l (.l .h)))))) none (.nc (.s (.r (.r (.r (.r (.r .h))))))), (nat_lit 1), [(nat_lit 0)], []⟩,
  ⟨.p (.r (.l (.l (.l (.l (.l .h)))))) none (.fa (nat_lit 5) (.s (.l (.l (.l (.l (.l (.l .h)))))))), (nat_lit 2), [(nat_lit 0), (nat_lit 1)], []⟩,
  ⟨.r (.l (.r (.l (.l (.l (.l .h)))))) none (.ld (.s (.r (.l (.l (.l (.l (.l .h)))))))), (nat_lit 3), [(nat_lit 0), (nat_lit 1), (nat_lit 2)], []⟩,
  ⟨.p (.r (.r (.l (.l (.l (.l .h)))))) none (.fa (nat_lit 2) (.s (.r (.r .h)))), (nat_lit 4), [], []⟩,
  ⟨.p (.l (.l (.r (.l (.l (.l .h)))))) none (.fa (nat_lit 0) (.s (.r (.r (.l (.l (.l (.l .h)))))))), (nat_lit 5), [(nat_lit 4)], []⟩,
  ⟨.r (.r (.l (.r (.l (.l (.l .h)))))) none (.ld (.s (.l (.l (.r (.l (.l (.l .h)))))))), (nat_lit 6), [(nat_lit 4), (nat_lit 5)], []⟩,
  ⟨.p (.l (.r (.r (.l (.l (.l .h)))))) none (.ix (nat_lit 1) (.s (.l (.r (.l (.l (.l (.l .h))))))) (.s (.r (.l (.r (.l (.l (.l .h)))))))), (nat_lit 7), [(nat_lit 0), (nat_lit 1), (nat_lit 2), (nat_lit 3), (nat_lit 4), (nat_lit 5), (nat_lit 6)], []⟩,
  ⟨.r (.r (.r (.r (.l (.l (.l .h)))))) none (.ld (.s (.l (.r (.r (.l (.l (.l .h)))))))), (nat_lit 8), [(nat_lit 0), (nat_lit 1), (nat_lit 2), (nat_lit 3), (nat_lit 4), (nat_lit 5), (nat_lit 6), (nat_lit 7)], []⟩,
  ⟨.p (.l (.l (.l (.r (.l (.l .h)))))) none (.ix (nat_lit 1) (.s (.r (.r (.r (.l (.l (.l .h))))))) (.c (.a (.i .i64 (.n (nat_lit 0)))))), (nat_lit 9), [(nat_lit 0), (nat_lit 1), (nat_lit 2), (nat_lit 3), (nat_lit 4), (nat_lit 5), (nat_lit 6), (nat_lit 7), (nat_lit 8)], []⟩,
  ⟨.c none none (.st (nat_lit 1) (.s (.l (.l (.l (.r (.l (.l .h))))))) (.c (.a (.i .i64 (.g (nat_lit 0)))))), (nat_lit 10), [(nat_lit 0), (nat_lit 1), (nat_lit 2), (nat_lit 3), (nat_lit 4), (nat_lit 5), (nat_lit 6), (nat_lit 7), (nat_lit 8), (nat_lit 9)], []⟩]) .skip)))⟩
noncomputable def site2 : Site := ⟨132, rfA (nav [1, 1, 1, 1, 0, 0, 1, 0, 0, 1, 1, 0] (bodyOf Try.f24)), rfB (nav [1, 1, 1, 1, 0, 0, 1, 0, 0, 1, 1, 0] (bodyOf Try.f24)), (.reg [.a (.r (.l (.l .h))) none (.al (nat_lit 134) (nat_lit 4) (.n (.n (.n .e .s0 .e) (.i .i64 (.n (nat_lit 0))) .e) (.i .i64 (.n (nat_lit 0))) (.n .e (.i .i64 (.n (nat_lit 0))) .e))),
  .c none none (.st (nat_lit 4) (.s (.r (.l (.l .h)))) (.s (.r (.r (.r (.r (.l (.l .h))))))))]), (.blk (nat_lit 9) (.seq (.reg [.p (.l (.l (.l (.l (.r (.l .h)))))) none (.fa (nat_lit 2) (.s (.r (.l (.l .h))))),
  .p (.r (.l (.l (.l (.r (.l .h)))))) none (.fa (nat_lit 1) (.s (.l (.l (.l (.l (.r (.l .h)))))))),
  .r (.l (.r (.l (.l (.r (.l .h)))))) none (.ld (.s (.r (.l (.l (.l (.r (.l .h)))))))),
  .p (.r (.r (.l (.l (.r (.l .h)))))) none (.ln (.s (.l (.r (.l (.l (.r (.l .h)))))))),
  .p (.l (.l (.r (.l (.r (.l .h)))))) none (.mv (.c (.a (.i .i64 (.n (nat_lit 0))))))])
 (.blk (nat_lit 10) (.loop (.seq (.reg [.p (.r (.l (.r (.l (.r (.l .h)))))) none (.cp .lss (.s (.l (.l (.r (.l (.r (.l .h))))))) (.s (.r (.r (.l (.l (.r (.l .h))))))))])
 (.seq (.cond (.s (.r (.l (.r (.l (.r (.l .h))))))) .skip (.ex (nat_lit 10)))
 (.seq (.blk (nat_lit 11) (.seq (.reg [.p (.l (.r (.r (.l (.r (.l .h)))))) none (.mv (.s (.l (.l (.r (.l (.r (.l .h)))))))),
  .p (.r (.r (.r (.l (.r (.l .h)))))) none (.ix (nat_lit 1) (.s (.l (.r (.l (.l (.r (.l .h))))))) (.s (.l (.l (.r (.l (.r (.l .h)))))))),
  .r (.l (.l (.l (.r (.r (.l .h)))))) none (.ld (.s (.r (.r (.r (.l (.r (.l .h)))))))),
  .p (.l (.r (.l .h))) none (.mv (.s (.l (.r (.r (.l (.r (.l .h)))))))),
  .p (.r (.r (.l .h))) none (.mv (.s (.l (.l (.l (.r (.r (.l .h))))))))])
 (.seq (.drw [⟨.r (.r (.l (.l (.r (.r (.l .h)))))) none (.ld (.s (.l .h))), (nat_lit 0), [], []⟩,
  ⟨.p (.l (.r (.l (.r (.r (.l .h)))))) none (.nc (.s (.r (.l (.l (.r (.r (.l .h)))))))), (nat_lit 1), [(nat_lit 0)], []⟩,
  ⟨.p (.r (.r (.l (.r (.r (.l .h)))))) none (.fa (nat_lit 5) (.s (.l (.r (.l (.r (.r (.l .h)))))))), (nat_lit 2), [(nat_lit 0), (nat_lit 1)], []⟩,
  ⟨.r (.l (.l (.r (.r (.r (.l .h)))))) none (.ld (.s (.r (.r (.l (.r (.r (.l .h)))))))), (nat_lit 3), [(nat_lit 0), (nat_lit 1), (nat_lit 2)], []⟩,
  ⟨.p (.r (.l (.r (.r (.r (.l .h)))))) none (.fa (nat_lit 2) (.s (.r (.l (.l .h))))), (nat_lit 4), [], []⟩,
  ⟨.p (.l (.r (.r (.r (.r (.l .h)))))) none (.fa (nat_lit 0) (.s (.r (.l (.r (.r (.r (.l .h)))))))), (nat_lit 5), [(nat_lit 4)], []⟩,
  ⟨.r (.r (.r (.r (.r (.r (.l .h)))))) none (.ld (.s (.l (.r (.r (.r (.r (.l .h)))))))), (nat_lit 6), [(nat_lit 4), (nat_lit 5)], []⟩,
  ⟨.p (.l (.l (.l (.l (.l (.r .h)))))) none (.ix (nat_lit 1) (.s (.l (.l (.r (.r (.r (.l .h))))))) (.s (.r (.r (.r (.r (.r (.l .h)))))))), (nat_lit 7), [(nat_lit 0), (nat_lit 1), (nat_lit 2), (nat_lit 3), (nat_lit 4), (nat_lit 5), (nat_lit 6)], []⟩,
  ⟨.r (.r (.l (.l (.l (.l (.r .h)))))) none (.ld (.s (.l (.l (.l (.l (.l (.r .h)))))))), (nat_lit 8), [(nat_lit 0), (nat_lit 1), (nat_lit 2), (nat_lit 3), (nat_lit 4), (nat_lit 5), (nat_lit 6), (nat_lit 7)], []⟩,
  ⟨.p (.l (.r (.l (.l (.l (.r .h)))))) none (.fa (nat_lit 1) (.s (.r (.l (.l .h))))), (nat_lit 9), [], []⟩,
  ⟨.r (.r (.r (.l (.l (.l (.r .h)))))) none (.ld (.s (.l (.r (.l (.l (.l (.r .h)))))))), (nat_lit 10), [(nat_lit 9)], []⟩,
  ⟨.p (.l (.l (.r (.l (.l (.r .h)))))) none (.mv (.s (.l (.r (.l .h))))), (nat_lit 11), [], []⟩,
  ⟨.p (.r (.l (.r (.l (.l (.r .h)))))) none (.ar .add (.s (.r (.r (.l (.l (.l (.r .h))))))) (.s (.l (.l (.r (.l (.l (.r .h)))))))), (nat_lit 12), [(nat_lit 9), (nat_lit 10), (nat_lit 11)], []⟩,
  ⟨.p (.l (.r (.r (.l (.l (.r .h)))))) none (.ix (nat_lit 1) (.s (.r (.l (.l (.l (.l (.r .h))))))) (.s (.r (.l (.r (.l (.l (.r .h)))))))), (nat_lit 13), [(nat_lit 0), (nat_lit 1), (nat_lit 2), (nat_lit 3), (nat_lit 4), (nat_lit 5), (nat_lit 6), (nat_lit 7), (nat_lit 8), (nat_lit 9), (nat_lit 10), (nat_lit 11), (nat_lit 12)], []⟩,
  ⟨.p (.l (.l (.r .h))) none (.mv (.s (.l (.r (.r (.l (.l (.r .h)))))))), (nat_lit 14), [(nat_lit 0), (nat_lit 1), (nat_lit 2), (nat_lit 3), (nat_lit 4), (nat_lit 5), (nat_lit 6), (nat_lit 7), (nat_lit 8), (nat_lit 9), (nat_lit 10), (nat_lit 11), (nat_lit 12), (nat_lit 13)], []⟩])
 (.seq (.reg [.r (.r (.r (.r (.l (.l (.r .h)))))) none (.ld (.s (.l .h))),
  .p (.l (.l (.l (.r (.l (.r .h)))))) none (.fa (nat_lit 0) (.s (.r (.l (.l .h))))),
  .r (.r (.l (.l (.r (.l (.r .h)))))) none (.ld (.s (.l (.l (.l (.r (.l (.r .h)))))))),
  .p (.l (.r (.l (.r (.l (.r .h)))))) none (.mv (.s (.r (.r (.l .h))))),
  .p (.r (.r (.l (.r (.l (.r .h)))))) none (.bd [(.i .i64 (.n (nat_lit 0))), (.i .i64 (.n (nat_lit 0)))] [((nat_lit 0), (nat_lit 1), (.s (.r (.l (.l (.r (.l (.r .h)))))))), ((nat_lit 1), (nat_lit 1), (.s (.l (.r (.l (.r (.l (.r .h))))))))]),
  .k (some (.l (.l (.r (.r (.l (.r .h))))))) none (nat_lit 47) (.l (.l (.l (.l (.r .h))))) [(.s (.r (.r (.r (.l (.l (.r .h))))))), (.s (.r (.r (.l (.r (.l (.r .h)))))))],
  .p (.r (.l (.r .h))) none (.mv (.s (.l (.l (.r (.r (.l (.r .h))))))))])
 (.seq (.seq (.reg [.p (.r (.l (.r (.r (.l (.r .h)))))) none (.mv (.s (.r (.l (.r .h))))),
  .p (.l (.r (.r (.r (.l (.r .h)))))) none (.cp .eql (.s (.r (.l (.r (.r (.l (.r .h))))))) (.c (.a (.i .i64 (.g (nat_lit 1)))))),
  .p (.r (.r (.r (.r (.l (.r .h)))))) none (.mv (.s (.l (.r (.r (.r (.l (.r .h)))))))),
  .p (.l (.l (.l (.l (.r (.r .h)))))) (some ((.r (.r (.r (.r (.l (.r .h)))))), false)) (.mv (.s (.r (.l (.r .h))))),
  .p (.r (.l (.l (.l (.r (.r .h)))))) (some ((.r (.r (.r (.r (.l (.r .h)))))), false)) (.mv (.s (.l (.l (.r .h))))),
  .p (.l (.r (.l (.l (.r (.r .h)))))) (some ((.r (.r (.r (.r (.l (.r .h)))))), false)) (.nc (.s (.r (.l (.l (.l (.r (.r .h)))))))),
  .r (.r (.r (.l (.l (.r (.r .h)))))) (some ((.r (.r (.r (.r (.l (.r .h)))))), false)) (.ld (.s (.l (.r (.l (.l (.r (.r .h)))))))),
  .p (.l (.l (.r (.l (.r (.r .h)))))) (some ((.r (.r (.r (.r (.l (.r .h)))))), false)) (.cp .eql (.s (.l (.l (.l (.l (.r (.r .h))))))) (.s (.r (.r (.l (.l (.r (.r .h)))))))),
  .p (.r (.l (.r (.l (.r (.r .h)))))) none (.pk (.s (.r (.r (.r (.r (.l (.r .h))))))) (.c (.a (.b true))) (.s (.l (.l (.r (.l (.r (.r .h)))))))),
  .p (.l (.r (.r (.l (.r (.r .h)))))) none (.mv (.s (.r (.l (.r (.l (.r (.r .h)))))))),
  .p (.r (.r (.r (.l (.r (.r .h)))))) (some ((.l (.r (.r (.l (.r (.r .h)))))), false)) (.mv (.s (.l (.l (.r .h))))),
  .p (.l (.l (.l (.r (.r (.r .h)))))) (some ((.l (.r (.r (.l (.r (.r .h)))))), false)) (.nc (.s (.r (.r (.r (.l (.r (.r .h)))))))),
  .r (.r (.l (.l (.r (.r (.r .h)))))) (some ((.l (.r (.r (.l (.r (.r .h)))))), false)) (.ld (.s (.l (.l (.l (.r (.r (.r .h)))))))),
  .p (.l (.r (.l (.r (.r (.r .h)))))) (some ((.l (.r (.r (.l (.r (.r .h)))))), false)) (.cp .eql (.s (.r (.l (.l (.r (.r (.r .h))))))) (.c (.a (.i .i64 (.g (nat_lit 0)))))),
  .p (.r (.r (.l (.r (.r (.r .h)))))) none (.pk (.s (.l (.r (.r (.l (.r (.r .h))))))) (.c (.a (.b true))) (.s (.l (.r (.l (.r (.r (.r .h))))))))])
 (.cond (.s (.r (.r (.l (.r (.r (.r .h))))))) (.ex (nat_lit 11)) .skip))
 (.seq (.seq (.reg [.p (.l (.l (.r (.r (.r (.r .h)))))) none (.mv (.s (.l (.l (.r .h))))),
  .p (.r (.l (.r (.r (.r (.r .h)))))) none (.nc (.s (.l (.l (.r (.r (.r (.r .h)))))))),
  .r (.l (.r (.r (.r (.r (.r .h)))))) none (.ld (.s (.r (.l (.r (.r (.r (.r .h)))))))),
  .p (.r (.r (.r (.r (.r (.r .h)))))) none (.cp .neq (.s (.l (.r (.r (.r (.r (.r .h))))))) (.c (.a (.i .i64 (.g (nat_lit 1))))))])
 (.cond (.s (.r (.r (.r (.r (.r (.r .h))))))) (.reg [.p (.r (.l (.r .h))) none (.mv (.c (.a (.i .i64 (.g (nat_lit 0))))))]) .skip))
 (.seq (.reg [.p (.l (.l (.l (.l (.l (.l (.l .h))))))) none (.mv (.s (.l (.l (.r .h))))),
  .p (.r (.l (.l (.l (.l (.l (.l .h))))))) none (.mv (.s (.r (.l (.r .h))))),
  .p (.l (.r (.l (.l (.l (.l (.l .h))))))) none (.nc (.s (.l (.l (.l (.l (.l (.l (.l .h))))))))),
  .c none none (.st (nat_lit 1) (.s (.l (.r (.l (.l (.l (.l (.l .h)))))))) (.s (.r (.l (.l (.l (.l (.l (.l .h)))))))))])
 (.reg [.c none none (.st (nat_lit 1) (.s (.l (.l (.l .h)))) (.c (.a (.b true))))]))))))))
 (.reg [.p (.r (.r (.l (.l (.l (.l (.l .h))))))) none (.ar .add (.s (.l (.l (.r (.l (.r (.l .h))))))) (.c (.a (.i .i64 (.n (nat_lit 1)))))),
  .p (.l (.l (.r (.l (.r (.l .h)))))) none (.mv (.s (.r (.r (.l (.l (.l (.l (.l .h)))))))))]))))))))⟩
end
end Go.Proofs.Ytikafojlhinonaa
