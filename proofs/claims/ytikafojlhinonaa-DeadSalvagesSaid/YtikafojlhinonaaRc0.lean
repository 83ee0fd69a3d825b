/- The program's functions in the evaluator's form, part 0. -/
import Derived.Test.YtikafojlhinonaaRows
import Derived.Test.YtikafojlhinonaaE27
set_option linter.unusedVariables false
set_option maxRecDepth 100000
namespace Go.Proofs.Ytikafojlhinonaa
open Go.Ev
noncomputable section
noncomputable def rf4 : RF := ⟨[.h, (.l .h)], [.s (.r (.l .h))], (.seq (.reg [.p (.r (.l .h)) none (.mv (.c (.a (.b false))))])
 (.seq (.reg [.p (.l (.r .h)) none (.mv (.c (.a .s0)))])
 (.seq (.reg [.p (.r (.r .h)) none (.mv (.c (.a (.i .i64 (.n (nat_lit 0)))))),
  .p (.l (.l (.l .h))) none (.mv (.c (.a (.i .i64 (.n (nat_lit 0))))))])
 (.seq (.seq (.reg [.p (.r (.l (.l .h))) none (.mv (.c (.a (.i .i64 (.n (nat_lit 0))))))])
 (.blk (nat_lit 0) (.loop (.seq (.seq (.reg [.p (.l (.l (.r .h))) none (.mv (.s (.r (.l (.l .h))))),
  .p (.r (.l (.r .h))) none (.mv (.s .h)),
  .p (.l (.r (.r .h))) none (.ln (.s (.r (.l (.r .h))))),
  .p (.r (.r (.r .h))) none (.cp .lss (.s (.l (.l (.r .h)))) (.s (.l (.r (.r .h))))),
  .p (.l (.l (.l (.l .h)))) none (.mv (.s (.r (.r (.r .h))))),
  .p (.r (.l (.l (.l .h)))) (some ((.l (.l (.l (.l .h)))), true)) (.mv (.s (.r (.l (.l .h))))),
  .p (.l (.r (.l (.l .h)))) (some ((.l (.l (.l (.l .h)))), true)) (.cp .lss (.s (.r (.l (.l (.l .h))))) (.c (.a (.i .i64 (.n (nat_lit 10)))))),
  .p (.r (.r (.l (.l .h)))) none (.pk (.s (.l (.l (.l (.l .h))))) (.s (.l (.r (.l (.l .h))))) (.c (.a (.b false))))])
 (.cond (.s (.r (.r (.l (.l .h))))) .skip (.ex (nat_lit 0))))
 (.seq (.blk (nat_lit 1) (.seq (.reg [.p (.l (.r (.r (.l .h)))) none (.mv (.s (.r (.l (.l .h))))),
  .p (.r (.r (.r (.l .h)))) none (.ar .mul (.c (.a (.i .i64 (.n (nat_lit 2))))) (.s (.l (.r (.r (.l .h)))))),
  .p (.l (.l (.l (.r .h)))) none (.ar .add (.c (.a (.i .i64 (.n (nat_lit 1))))) (.s (.r (.r (.r (.l .h)))))),
  .p (.l (.r (.l .h))) none (.mv (.s (.l (.l (.l (.r .h))))))])
 (.seq (.reg [.p (.r (.l (.l (.r .h)))) none (.mv (.s (.l (.r .h)))),
  .p (.l (.r (.l (.r .h)))) none (.mv (.s (.l (.r (.l .h))))),
  .p (.r (.r (.l (.r .h)))) none (.mv (.s .h)),
  .p (.l (.l (.r (.r .h)))) none (.mv (.s (.r (.l (.l .h))))),
  .p (.r (.l (.r (.r .h)))) none (.ix (nat_lit 1) (.s (.r (.r (.l (.r .h))))) (.s (.l (.l (.r (.r .h)))))),
  .r (.l (.r (.r (.r .h)))) none (.ld (.s (.r (.l (.r (.r .h)))))),
  .p (.r (.r (.r (.r .h)))) none (.bd [(.i .i64 (.n (nat_lit 0))), (.i .i64 (.n (nat_lit 0))), (.i .i64 (.n (nat_lit 0))), (.i .i64 (.n (nat_lit 0))), (.i .i64 (.n (nat_lit 0))), (.i .i64 (.n (nat_lit 0))), (.i .i64 (.n (nat_lit 0))), (.i .i64 (.n (nat_lit 0))), (.i .i64 (.n (nat_lit 0))), (.i .i64 (.n (nat_lit 0))), (.i .i64 (.n (nat_lit 0)))] [((nat_lit 0), (nat_lit 1), (.c (.a (.i .i64 (.n (nat_lit 1)))))), ((nat_lit 1), (nat_lit 1), (.s (.l (.r (.l (.r .h)))))), ((nat_lit 4), (nat_lit 1), (.s (.l (.r (.r (.r .h))))))]),
  .a (.l (.l (.l (.l (.l .h))))) none (.bs (nat_lit 46) (nat_lit 1) [(.i .i64 (.n (nat_lit 0))), (.i .i64 (.n (nat_lit 0))), (.i .i64 (.n (nat_lit 0))), (.i .i64 (.n (nat_lit 0))), (.i .i64 (.n (nat_lit 0))), (.i .i64 (.n (nat_lit 0))), (.i .i64 (.n (nat_lit 0))), (.i .i64 (.n (nat_lit 0))), (.i .i64 (.n (nat_lit 0))), (.i .i64 (.n (nat_lit 0))), (.i .i64 (.n (nat_lit 0)))] [((nat_lit 0), (nat_lit 11), (.s (.r (.r (.r (.r .h))))))]),
  .c (some (.r (.l (.l (.l (.l .h)))))) none (.ap (nat_lit 46) (nat_lit 11) (nat_lit 88) (.s (.r (.l (.l (.r .h))))) (.s (.l (.l (.l (.l (.l .h))))))),
  .p (.l (.r .h)) none (.mv (.s (.r (.l (.l (.l (.l .h)))))))])
 (.seq (.seq (.reg [.p (.l (.r (.l (.l (.l .h))))) none (.mv (.s (.r (.l (.l .h))))),
  .p (.r (.r (.l (.l (.l .h))))) none (.ar .rem (.s (.l (.r (.l (.l (.l .h)))))) (.c (.a (.i .i64 (.n (nat_lit 3)))))),
  .p (.l (.l (.r (.l (.l .h))))) none (.cp .eql (.s (.r (.r (.l (.l (.l .h)))))) (.c (.a (.i .i64 (.n (nat_lit 2))))))])
 (.cond (.s (.l (.l (.r (.l (.l .h)))))) (.seq (.reg [.p (.r (.l (.r (.l (.l .h))))) none (.mv (.s (.l (.r .h)))),
  .p (.l (.r (.r (.l (.l .h))))) none (.mv (.s (.l (.r (.l .h))))),
  .p (.r (.r (.r (.l (.l .h))))) none (.ar .add (.s (.l (.r (.r (.l (.l .h)))))) (.c (.a (.i .i64 (.n (nat_lit 1)))))),
  .p (.l (.l (.l (.r (.l .h))))) none (.mv (.s (.l (.l (.l .h))))),
  .p (.r (.l (.l (.r (.l .h))))) none (.mv (.s (.l (.r (.l .h))))),
  .p (.l (.r (.l (.r (.l .h))))) none (.bd [(.i .i64 (.n (nat_lit 0))), (.i .i64 (.n (nat_lit 0))), (.i .i64 (.n (nat_lit 0))), (.i .i64 (.n (nat_lit 0))), (.i .i64 (.n (nat_lit 0))), (.i .i64 (.n (nat_lit 0))), (.i .i64 (.n (nat_lit 0))), (.i .i64 (.n (nat_lit 0))), (.i .i64 (.n (nat_lit 0))), (.i .i64 (.n (nat_lit 0))), (.i .i64 (.n (nat_lit 0)))] [((nat_lit 0), (nat_lit 1), (.c (.a (.i .i64 (.n (nat_lit 4)))))), ((nat_lit 1), (nat_lit 1), (.s (.r (.r (.r (.l (.l .h))))))), ((nat_lit 2), (nat_lit 1), (.s (.l (.l (.l (.r (.l .h))))))), ((nat_lit 3), (nat_lit 1), (.s (.r (.l (.l (.r (.l .h)))))))]),
  .a (.r (.r (.l (.r (.l .h))))) none (.bs (nat_lit 46) (nat_lit 1) [(.i .i64 (.n (nat_lit 0))), (.i .i64 (.n (nat_lit 0))), (.i .i64 (.n (nat_lit 0))), (.i .i64 (.n (nat_lit 0))), (.i .i64 (.n (nat_lit 0))), (.i .i64 (.n (nat_lit 0))), (.i .i64 (.n (nat_lit 0))), (.i .i64 (.n (nat_lit 0))), (.i .i64 (.n (nat_lit 0))), (.i .i64 (.n (nat_lit 0))), (.i .i64 (.n (nat_lit 0)))] [((nat_lit 0), (nat_lit 11), (.s (.l (.r (.l (.r (.l .h)))))))]),
  .c (some (.l (.l (.r (.r (.l .h)))))) none (.ap (nat_lit 46) (nat_lit 11) (nat_lit 88) (.s (.r (.l (.r (.l (.l .h)))))) (.s (.r (.r (.l (.r (.l .h))))))),
  .p (.l (.r .h)) none (.mv (.s (.l (.l (.r (.r (.l .h)))))))])
 (.reg [.p (.r (.l (.r (.r (.l .h))))) none (.mv (.s (.r (.r .h)))),
  .p (.l (.r (.r (.r (.l .h))))) none (.mv (.s .h)),
  .p (.r (.r (.r (.r (.l .h))))) none (.mv (.s (.r (.l (.l .h))))),
  .p (.l (.l (.l (.l (.r .h))))) none (.ix (nat_lit 1) (.s (.l (.r (.r (.r (.l .h)))))) (.s (.r (.r (.r (.r (.l .h))))))),
  .r (.r (.l (.l (.l (.r .h))))) none (.ld (.s (.l (.l (.l (.l (.r .h))))))),
  .p (.l (.r (.l (.l (.r .h))))) none (.ar .sub (.s (.r (.l (.r (.r (.l .h)))))) (.s (.r (.l (.l (.l (.r .h))))))),
  .p (.r (.r .h)) none (.mv (.s (.l (.r (.l (.l (.r .h)))))))])) (.seq (.reg [.p (.r (.r (.l (.l (.r .h))))) none (.mv (.s (.r (.l (.l .h))))),
  .p (.l (.l (.r (.l (.r .h))))) none (.ar .rem (.s (.r (.r (.l (.l (.r .h)))))) (.c (.a (.i .i64 (.n (nat_lit 3)))))),
  .p (.r (.l (.r (.l (.r .h))))) none (.cp .eql (.s (.l (.l (.r (.l (.r .h)))))) (.c (.a (.i .i64 (.n (nat_lit 1))))))])
 (.cond (.s (.r (.l (.r (.l (.r .h)))))) (.seq (.reg [.p (.l (.r (.r (.l (.r .h))))) none (.mv (.s (.l (.r .h)))),
  .p (.r (.r (.r (.l (.r .h))))) none (.mv (.s (.l (.r (.l .h))))),
  .p (.l (.l (.l (.r (.r .h))))) none (.ar .add (.s (.r (.r (.r (.l (.r .h)))))) (.c (.a (.i .i64 (.n (nat_lit 1)))))),
  .p (.r (.l (.l (.r (.r .h))))) none (.mv (.s (.l (.r (.l .h))))),
  .p (.l (.r (.l (.r (.r .h))))) none (.mv (.s (.l (.l (.l .h))))),
  .p (.r (.r (.l (.r (.r .h))))) none (.bd [(.i .i64 (.n (nat_lit 0))), (.i .i64 (.n (nat_lit 0))), (.i .i64 (.n (nat_lit 0))), (.i .i64 (.n (nat_lit 0))), (.i .i64 (.n (nat_lit 0))), (.i .i64 (.n (nat_lit 0))), (.i .i64 (.n (nat_lit 0))), (.i .i64 (.n (nat_lit 0))), (.i .i64 (.n (nat_lit 0))), (.i .i64 (.n (nat_lit 0))), (.i .i64 (.n (nat_lit 0)))] [((nat_lit 0), (nat_lit 1), (.c (.a (.i .i64 (.n (nat_lit 3)))))), ((nat_lit 1), (nat_lit 1), (.s (.l (.l (.l (.r (.r .h))))))), ((nat_lit 2), (nat_lit 1), (.s (.r (.l (.l (.r (.r .h))))))), ((nat_lit 3), (nat_lit 1), (.s (.l (.r (.l (.r (.r .h)))))))]),
  .a (.l (.l (.r (.r (.r .h))))) none (.bs (nat_lit 46) (nat_lit 1) [(.i .i64 (.n (nat_lit 0))), (.i .i64 (.n (nat_lit 0))), (.i .i64 (.n (nat_lit 0))), (.i .i64 (.n (nat_lit 0))), (.i .i64 (.n (nat_lit 0))), (.i .i64 (.n (nat_lit 0))), (.i .i64 (.n (nat_lit 0))), (.i .i64 (.n (nat_lit 0))), (.i .i64 (.n (nat_lit 0))), (.i .i64 (.n (nat_lit 0))), (.i .i64 (.n (nat_lit 0)))] [((nat_lit 0), (nat_lit 11), (.s (.r (.r (.l (.r (.r .h)))))))]),
  .c (some (.r (.l (.r (.r (.r .h)))))) none (.ap (nat_lit 46) (nat_lit 11) (nat_lit 88) (.s (.l (.r (.r (.l (.r .h)))))) (.s (.l (.l (.r (.r (.r .h))))))),
  .p (.l (.r .h)) none (.mv (.s (.r (.l (.r (.r (.r .h)))))))])
 (.reg [.p (.l (.r (.r (.r (.r .h))))) none (.mv (.s (.r (.r .h)))),
  .p (.r (.r (.r (.r (.r .h))))) none (.mv (.s .h)),
  .p (.l (.l (.l (.l (.l (.l .h)))))) none (.mv (.s (.r (.l (.l .h))))),
  .p (.r (.l (.l (.l (.l (.l .h)))))) none (.ix (nat_lit 1) (.s (.r (.r (.r (.r (.r .h)))))) (.s (.l (.l (.l (.l (.l (.l .h)))))))),
  .r (.l (.r (.l (.l (.l (.l .h)))))) none (.ld (.s (.r (.l (.l (.l (.l (.l .h)))))))),
  .p (.r (.r (.l (.l (.l (.l .h)))))) none (.ar .add (.s (.l (.r (.r (.r (.r .h)))))) (.s (.l (.r (.l (.l (.l (.l .h)))))))),
  .p (.r (.r .h)) none (.mv (.s (.r (.r (.l (.l (.l (.l .h))))))))])) (.seq (.reg [.p (.l (.l (.r (.l (.l (.l .h)))))) none (.mv (.s (.l (.r .h)))),
  .p (.r (.l (.r (.l (.l (.l .h)))))) none (.mv (.s (.l (.r (.l .h))))),
  .p (.l (.r (.r (.l (.l (.l .h)))))) none (.ar .add (.s (.r (.l (.r (.l (.l (.l .h))))))) (.c (.a (.i .i64 (.n (nat_lit 1)))))),
  .p (.r (.r (.r (.l (.l (.l .h)))))) none (.mv (.s (.l (.l (.l .h))))),
  .p (.l (.l (.l (.r (.l (.l .h)))))) none (.mv (.s (.l (.r (.l .h))))),
  .p (.r (.l (.l (.r (.l (.l .h)))))) none (.bd [(.i .i64 (.n (nat_lit 0))), (.i .i64 (.n (nat_lit 0))), (.i .i64 (.n (nat_lit 0))), (.i .i64 (.n (nat_lit 0))), (.i .i64 (.n (nat_lit 0))), (.i .i64 (.n (nat_lit 0))), (.i .i64 (.n (nat_lit 0))), (.i .i64 (.n (nat_lit 0))), (.i .i64 (.n (nat_lit 0))), (.i .i64 (.n (nat_lit 0))), (.i .i64 (.n (nat_lit 0)))] [((nat_lit 0), (nat_lit 1), (.c (.a (.i .i64 (.n (nat_lit 3)))))), ((nat_lit 1), (nat_lit 1), (.s (.l (.r (.r (.l (.l (.l .h)))))))), ((nat_lit 2), (nat_lit 1), (.s (.r (.r (.r (.l (.l (.l .h)))))))), ((nat_lit 3), (nat_lit 1), (.s (.l (.l (.l (.r (.l (.l .h))))))))]),
  .a (.l (.r (.l (.r (.l (.l .h)))))) none (.bs (nat_lit 46) (nat_lit 1) [(.i .i64 (.n (nat_lit 0))), (.i .i64 (.n (nat_lit 0))), (.i .i64 (.n (nat_lit 0))), (.i .i64 (.n (nat_lit 0))), (.i .i64 (.n (nat_lit 0))), (.i .i64 (.n (nat_lit 0))), (.i .i64 (.n (nat_lit 0))), (.i .i64 (.n (nat_lit 0))), (.i .i64 (.n (nat_lit 0))), (.i .i64 (.n (nat_lit 0))), (.i .i64 (.n (nat_lit 0)))] [((nat_lit 0), (nat_lit 11), (.s (.r (.l (.l (.r (.l (.l .h))))))))]),
  .c (some (.r (.r (.l (.r (.l (.l .h))))))) none (.ap (nat_lit 46) (nat_lit 11) (nat_lit 88) (.s (.l (.l (.r (.l (.l (.l .h))))))) (.s (.l (.r (.l (.r (.l (.l .h)))))))),
  .p (.l (.r .h)) none (.mv (.s (.r (.r (.l (.r (.l (.l .h))))))))])
 (.reg [.p (.l (.l (.r (.r (.l (.l .h)))))) none (.mv (.s (.r (.r .h)))),
  .p (.r (.l (.r (.r (.l (.l .h)))))) none (.mv (.s .h)),
  .p (.l (.r (.r (.r (.l (.l .h)))))) none (.mv (.s (.r (.l (.l .h))))),
  .p (.r (.r (.r (.r (.l (.l .h)))))) none (.ix (nat_lit 1) (.s (.r (.l (.r (.r (.l (.l .h))))))) (.s (.l (.r (.r (.r (.l (.l .h)))))))),
  .r (.l (.l (.l (.l (.r (.l .h)))))) none (.ld (.s (.r (.r (.r (.r (.l (.l .h)))))))),
  .p (.r (.l (.l (.l (.r (.l .h)))))) none (.ar .add (.s (.l (.l (.r (.r (.l (.l .h))))))) (.s (.l (.l (.l (.l (.r (.l .h)))))))),
  .p (.r (.r .h)) none (.mv (.s (.r (.l (.l (.l (.r (.l .h))))))))]))))))
 (.reg [.p (.l (.r (.l (.l (.r (.l .h)))))) none (.mv (.s (.l (.r (.l .h))))),
  .p (.r (.r (.l (.l (.r (.l .h)))))) none (.ar .add (.s (.l (.r (.l (.l (.r (.l .h))))))) (.c (.a (.i .i64 (.n (nat_lit 1)))))),
  .p (.l (.l (.l .h))) none (.mv (.s (.r (.r (.l (.l (.r (.l .h))))))))])))))
 (.reg [.p (.l (.l (.r (.l .h)))) none (.mv (.s (.r (.l (.l .h))))),
  .p (.r (.l (.r (.l .h)))) none (.ar .add (.s (.l (.l (.r (.l .h))))) (.c (.a (.i .i64 (.n (nat_lit 1)))))),
  .p (.r (.l (.l .h))) none (.mv (.s (.r (.l (.r (.l .h))))))]))))))
 (.seq (.reg [.p (.l (.l (.r (.l (.r (.l .h)))))) none (.mv (.s (.l (.r .h)))),
  .p (.r (.l (.r (.l (.r (.l .h)))))) none (.mv (.s (.l (.l (.l .h))))),
  .p (.l (.r (.r (.l (.r (.l .h)))))) none (.mv (.s (.l .h))),
  .p (.r (.r (.r (.l (.r (.l .h)))))) none (.bd [(.i .i64 (.n (nat_lit 0))), (.i .i64 (.n (nat_lit 0))), (.i .i64 (.n (nat_lit 0)))] [((nat_lit 0), (nat_lit 1), (.c (.a (.i .i64 (.n (nat_lit 2)))))), ((nat_lit 1), (nat_lit 1), (.s (.r (.l (.r (.l (.r (.l .h)))))))), ((nat_lit 2), (nat_lit 1), (.s (.l (.r (.r (.l (.r (.l .h))))))))]),
  .p (.l (.l (.l (.r (.r (.l .h)))))) none (.bd [(.i .i64 (.n (nat_lit 0))), (.i .i64 (.n (nat_lit 0))), (.i .i64 (.n (nat_lit 0))), (.i .i64 (.n (nat_lit 0))), (.i .i64 (.n (nat_lit 0))), (.i .i64 (.n (nat_lit 0))), (.i .i64 (.n (nat_lit 0))), (.i .i64 (.n (nat_lit 0))), (.i .i64 (.n (nat_lit 0))), (.i .i64 (.n (nat_lit 0))), (.i .i64 (.n (nat_lit 0)))] [((nat_lit 0), (nat_lit 1), (.c (.a (.i .i64 (.n (nat_lit 21)))))), ((nat_lit 8), (nat_lit 3), (.s (.r (.r (.r (.l (.r (.l .h))))))))]),
  .a (.r (.l (.l (.r (.r (.l .h)))))) none (.bs (nat_lit 46) (nat_lit 1) [(.i .i64 (.n (nat_lit 0))), (.i .i64 (.n (nat_lit 0))), (.i .i64 (.n (nat_lit 0))), (.i .i64 (.n (nat_lit 0))), (.i .i64 (.n (nat_lit 0))), (.i .i64 (.n (nat_lit 0))), (.i .i64 (.n (nat_lit 0))), (.i .i64 (.n (nat_lit 0))), (.i .i64 (.n (nat_lit 0))), (.i .i64 (.n (nat_lit 0))), (.i .i64 (.n (nat_lit 0)))] [((nat_lit 0), (nat_lit 11), (.s (.l (.l (.l (.r (.r (.l .h))))))))]),
  .c (some (.l (.r (.l (.r (.r (.l .h))))))) none (.ap (nat_lit 46) (nat_lit 11) (nat_lit 88) (.s (.l (.l (.r (.l (.r (.l .h))))))) (.s (.r (.l (.l (.r (.r (.l .h)))))))),
  .p (.l (.r .h)) none (.mv (.s (.l (.r (.l (.r (.r (.l .h))))))))])
 (.seq (.reg [.p (.r (.r (.l (.r (.r (.l .h)))))) none (.mv (.s (.l (.r .h)))),
  .k (some (.l (.l (.r (.r (.r (.l .h))))))) none (nat_lit 13) (.l (.r (.r .h))) [(.c (.a (.i .i64 (.n (nat_lit 1))))), (.c (.a (.i .i64 (.n (nat_lit 0))))), (.s (.r (.r (.l (.r (.r (.l .h)))))))],
  .a (.r (.l (.r (.r (.r (.l .h)))))) none (.bs (nat_lit 60) (nat_lit 1) [(.i .i64 (.n (nat_lit 0))), .s0, (.i .i64 (.n (nat_lit 0))), (.i .i64 (.n (nat_lit 0))), (.i .i64 (.n (nat_lit 0))), .s0, (.i .i64 (.n (nat_lit 0))), .s0, (.i .i64 (.n (nat_lit 0))), .s0] [((nat_lit 0), (nat_lit 10), (.s (.l (.l (.r (.r (.r (.l .h))))))))]),
  .k (some (.l (.r (.r (.r (.r (.l .h))))))) none (nat_lit 12) (.r (.l (.r .h))) [(.c (.a (.i .i64 (.n (nat_lit 1))))), (.s (.r (.l (.r (.r (.r (.l .h)))))))],
  .k (some (.r (.r (.r (.r (.r (.l .h))))))) none (nat_lit 11) (.l (.l (.r .h))) [(.s (.l (.r (.r (.r (.r (.l .h)))))))],
  .a (.r (.r (.l .h))) none (.al (nat_lit 51) (nat_lit 4) (.n (.n (.n .e .s0 .e) .s0 .e) (.i .i64 (.n (nat_lit 0))) (.n .e .s0 .e))),
  .c none none (.st (nat_lit 4) (.s (.r (.r (.l .h)))) (.s (.r (.r (.r (.r (.r (.l .h))))))))])
 (.seq (.reg [.p (.l (.l (.l (.l (.l (.r .h)))))) none (.fa (nat_lit 1) (.s (.r (.r (.l .h))))),
  .r (.r (.l (.l (.l (.l (.r .h)))))) none (.ld (.s (.l (.l (.l (.l (.l (.r .h)))))))),
  .p (.l (.r (.l (.l (.l (.r .h)))))) none (.ln (.s (.r (.l (.l (.l (.l (.r .h)))))))),
  .p (.r (.r (.l (.l (.l (.r .h)))))) none (.cp .eql (.s (.l (.r (.l (.l (.l (.r .h))))))) (.c (.a (.i .i64 (.n (nat_lit 1)))))),
  .p (.l (.l (.r (.l (.l (.r .h)))))) none (.mv (.s (.r (.r (.l (.l (.l (.r .h)))))))),
  .p (.r (.l (.r (.l (.l (.r .h)))))) (some ((.l (.l (.r (.l (.l (.r .h)))))), true)) (.fa (nat_lit 1) (.s (.r (.r (.l .h))))),
  .r (.l (.r (.r (.l (.l (.r .h)))))) (some ((.l (.l (.r (.l (.l (.r .h)))))), true)) (.ld (.s (.r (.l (.r (.l (.l (.r .h)))))))),
  .p (.r (.r (.r (.l (.l (.r .h)))))) (some ((.l (.l (.r (.l (.l (.r .h)))))), true)) (.ix (nat_lit 10) (.s (.l (.r (.r (.l (.l (.r .h))))))) (.c (.a (.i .i64 (.n (nat_lit 0)))))),
  .p (.l (.l (.l (.r (.l (.r .h)))))) (some ((.l (.l (.r (.l (.l (.r .h)))))), true)) (.fa (nat_lit 1) (.s (.r (.r (.r (.l (.l (.r .h)))))))),
  .r (.r (.l (.l (.r (.l (.r .h)))))) (some ((.l (.l (.r (.l (.l (.r .h)))))), true)) (.ld (.s (.l (.l (.l (.r (.l (.r .h)))))))),
  .p (.l (.r (.l (.r (.l (.r .h)))))) (some ((.l (.l (.r (.l (.l (.r .h)))))), true)) (.ln (.s (.r (.l (.l (.r (.l (.r .h)))))))),
  .p (.r (.r (.l (.r (.l (.r .h)))))) (some ((.l (.l (.r (.l (.l (.r .h)))))), true)) (.cp .eql (.s (.l (.r (.l (.r (.l (.r .h))))))) (.c (.a (.i .i64 (.n (nat_lit 1)))))),
  .p (.l (.l (.r (.r (.l (.r .h)))))) none (.pk (.s (.l (.l (.r (.l (.l (.r .h))))))) (.s (.r (.r (.l (.r (.l (.r .h))))))) (.c (.a (.b false)))),
  .p (.r (.l (.r (.r (.l (.r .h)))))) none (.mv (.s (.l (.l (.r (.r (.l (.r .h)))))))),
  .p (.l (.r (.r (.r (.l (.r .h)))))) (some ((.r (.l (.r (.r (.l (.r .h)))))), true)) (.fa (nat_lit 1) (.s (.r (.r (.l .h))))),
  .r (.r (.r (.r (.r (.l (.r .h)))))) (some ((.r (.l (.r (.r (.l (.r .h)))))), true)) (.ld (.s (.l (.r (.r (.r (.l (.r .h)))))))),
  .p (.l (.l (.l (.l (.r (.r .h)))))) (some ((.r (.l (.r (.r (.l (.r .h)))))), true)) (.ix (nat_lit 10) (.s (.r (.r (.r (.r (.l (.r .h))))))) (.c (.a (.i .i64 (.n (nat_lit 0)))))),
  .p (.r (.l (.l (.l (.r (.r .h)))))) (some ((.r (.l (.r (.r (.l (.r .h)))))), true)) (.fa (nat_lit 1) (.s (.l (.l (.l (.l (.r (.r .h)))))))),
  .r (.l (.r (.l (.l (.r (.r .h)))))) (some ((.r (.l (.r (.r (.l (.r .h)))))), true)) (.ld (.s (.r (.l (.l (.l (.r (.r .h)))))))),
  .p (.r (.r (.l (.l (.r (.r .h)))))) (some ((.r (.l (.r (.r (.l (.r .h)))))), true)) (.ix (nat_lit 11) (.s (.l (.r (.l (.l (.r (.r .h))))))) (.c (.a (.i .i64 (.n (nat_lit 0)))))),
  .p (.l (.l (.r (.l (.r (.r .h)))))) (some ((.r (.l (.r (.r (.l (.r .h)))))), true)) (.fa (nat_lit 8) (.s (.r (.r (.l (.l (.r (.r .h)))))))),
  .r (.r (.l (.r (.l (.r (.r .h)))))) (some ((.r (.l (.r (.r (.l (.r .h)))))), true)) (.lg (nat_lit 3) (.s (.l (.l (.r (.l (.r (.r .h)))))))),
  .p (.l (.r (.r (.l (.r (.r .h)))))) (some ((.r (.l (.r (.r (.l (.r .h)))))), true)) (.mv (.s (.r (.r .h)))),
  .p (.r (.r (.r (.l (.r (.r .h)))))) (some ((.r (.l (.r (.r (.l (.r .h)))))), true)) (.mv (.s (.l .h))),
  .p (.l (.l (.l (.r (.r (.r .h)))))) (some ((.r (.l (.r (.r (.l (.r .h)))))), true)) (.ar .add (.s (.l (.r (.r (.l (.r (.r .h))))))) (.s (.r (.r (.r (.l (.r (.r .h)))))))),
  .p (.r (.l (.l (.r (.r (.r .h)))))) (some ((.r (.l (.r (.r (.l (.r .h)))))), true)) (.bd [(.i .i64 (.n (nat_lit 0))), (.i .i64 (.n (nat_lit 0))), (.i .i64 (.n (nat_lit 0)))] [((nat_lit 0), (nat_lit 1), (.c (.a (.i .i64 (.n (nat_lit 2)))))), ((nat_lit 2), (nat_lit 1), (.s (.l (.l (.l (.r (.r (.r .h))))))))]),
  .p (.l (.r (.l (.r (.r (.r .h)))))) (some ((.r (.l (.r (.r (.l (.r .h)))))), true)) (.eq false true [(nat_lit 0), (nat_lit 0), (nat_lit 0)] (.s (.r (.l (.r (.l (.r (.r .h))))))) (.s (.r (.l (.l (.r (.r (.r .h)))))))),
  .p (.r (.r (.l (.r (.r (.r .h)))))) none (.pk (.s (.r (.l (.r (.r (.l (.r .h))))))) (.s (.l (.r (.l (.r (.r (.r .h))))))) (.c (.a (.b false)))),
  .p (.l (.l (.r (.r (.r (.r .h)))))) none (.mv (.s (.r (.r (.l (.r (.r (.r .h)))))))),
  .k (some (.r (.l (.r (.r (.r (.r .h))))))) (some ((.l (.l (.r (.r (.r (.r .h)))))), true)) (nat_lit 14) (.r (.r (.r .h))) [],
  .p (.l (.r (.r (.r (.r (.r .h)))))) none (.pk (.s (.l (.l (.r (.r (.r (.r .h))))))) (.s (.r (.l (.r (.r (.r (.r .h))))))) (.c (.a (.b false)))),
  .p (.r (.l .h)) none (.mv (.s (.l (.r (.r (.r (.r (.r .h))))))))])
 .rt))))))), false, false⟩
noncomputable def rf11 : RF := ⟨[.h], [.g (.r .h) (nat_lit 4)], (.seq (.reg [.a (.l .h) none (.bx (nat_lit 51) (nat_lit 4) (.s .h)),
  .a (.r .h) none (.al (nat_lit 51) (nat_lit 4) (.n (.n (.n .e .s0 .e) .s0 .e) (.i .i64 (.n (nat_lit 0))) (.n .e .s0 .e)))])
 (.seq (.seq (.reg [.r (.r (.r (.l .h))) none (.lg (nat_lit 4) (.s (.l .h))),
  .k (some (.l (.l (.r .h)))) none (nat_lit 21) (.l (.r (.r (.l .h)))) [(.s (.r (.r (.l .h))))],
  .p (.r (.l (.r .h))) none (.cp .neq (.s (.l (.l (.r .h)))) (.c (.a (.i .i64 (.n (nat_lit 0))))))])
 (.cond (.s (.r (.l (.r .h)))) (.seq (.reg [.r (.l (.r (.r .h))) none (.lg (nat_lit 4) (.s (.l .h))),
  .c none none (.st (nat_lit 4) (.s (.r .h)) (.s (.l (.r (.r .h)))))])
 .rt) .skip))
 (.seq (.reg [.r (.r (.r (.r .h))) none (.lg (nat_lit 4) (.s (.l .h))),
  .k (some (.l (.l (.l (.l .h))))) none (nat_lit 22) (.r (.r (.r (.l .h)))) [(.s (.r (.r (.r .h))))],
  .a (.r (.l (.l (.l .h)))) none (.mm),
  .a (.l (.r (.l (.l .h)))) none (.mm),
  .p (.r (.r (.l (.l .h)))) none (.bd [(.i .i64 (.n (nat_lit 0))), .s0, .s0, .s0, .m0, .s0, .m0] [((nat_lit 0), (nat_lit 4), (.s (.l (.l (.l (.l .h)))))), ((nat_lit 4), (nat_lit 1), (.s (.r (.l (.l (.l .h)))))), ((nat_lit 6), (nat_lit 1), (.s (.l (.r (.l (.l .h))))))]),
  .a (.l (.l .h)) none (.al (nat_lit 88) (nat_lit 7) (.n (.n (.n .e .s0 .e) .s0 (.n .e .s0 .e)) (.i .i64 (.n (nat_lit 0))) (.n (.n .e .m0 .e) .s0 (.n .e .m0 .e)))),
  .c none none (.st (nat_lit 7) (.s (.l (.l .h))) (.s (.r (.r (.l (.l .h))))))])
 (.seq (.seq (.reg [.p (.l (.l (.r (.l .h)))) none (.fa (nat_lit 0) (.s (.l (.l .h)))),
  .p (.r (.l (.r (.l .h)))) none (.fa (nat_lit 1) (.s (.l (.l (.r (.l .h)))))),
  .r (.l (.r (.r (.l .h)))) none (.ld (.s (.r (.l (.r (.l .h)))))),
  .p (.r (.r (.r (.l .h)))) none (.ln (.s (.l (.r (.r (.l .h)))))),
  .p (.l (.l (.l (.r .h)))) none (.mv (.c (.a (.i .i64 (.n (nat_lit 0))))))])
 (.blk (nat_lit 0) (.loop (.seq (.reg [.p (.r (.l (.l (.r .h)))) none (.cp .lss (.s (.l (.l (.l (.r .h))))) (.s (.r (.r (.r (.l .h))))))])
 (.seq (.cond (.s (.r (.l (.l (.r .h))))) .skip (.ex (nat_lit 0)))
 (.seq (.blk (nat_lit 1) (.seq (.reg [.p (.l (.r (.l (.r .h)))) none (.mv (.s (.l (.l (.l (.r .h)))))),
  .p (.r (.r (.l (.r .h)))) none (.ix (nat_lit 10) (.s (.l (.r (.r (.l .h))))) (.s (.l (.l (.l (.r .h)))))),
  .r (.l (.l (.r (.r .h)))) none (.lg (nat_lit 10) (.s (.r (.r (.l (.r .h)))))),
  .a (.l (.r .h)) none (.al (nat_lit 60) (nat_lit 10) (.n (.n (.n (.n .e .s0 .e) (.i .i64 (.n (nat_lit 0))) .e) .s0 (.n (.n .e .s0 .e) .s0 .e)) (.i .i64 (.n (nat_lit 0))) (.n (.n (.n .e (.i .i64 (.n (nat_lit 0))) .e) (.i .i64 (.n (nat_lit 0))) .e) (.i .i64 (.n (nat_lit 0))) (.n .e (.i .i64 (.n (nat_lit 0))) .e)))),
  .p (.r (.l .h)) none (.mv (.s (.l (.r (.l (.r .h)))))),
  .c none none (.st (nat_lit 10) (.s (.l (.r .h))) (.s (.l (.l (.r (.r .h))))))])
 (.seq (.reg [.p (.r (.l (.r (.r .h)))) none (.fa (nat_lit 1) (.s (.l (.r .h)))),
  .r (.l (.r (.r (.r .h)))) none (.ld (.s (.r (.l (.r (.r .h)))))),
  .p (.r (.r (.r (.r .h)))) none (.ln (.s (.l (.r (.r (.r .h)))))),
  .p (.l (.l (.l (.l (.l .h))))) none (.mv (.c (.a (.i .i64 (.n (nat_lit 0))))))])
 (.blk (nat_lit 2) (.loop (.seq (.reg [.p (.r (.l (.l (.l (.l .h))))) none (.cp .lss (.s (.l (.l (.l (.l (.l .h)))))) (.s (.r (.r (.r (.r .h))))))])
 (.seq (.cond (.s (.r (.l (.l (.l (.l .h)))))) .skip (.ex (nat_lit 2)))
 (.seq (.blk (nat_lit 3) (.seq (.reg [.p (.l (.r (.l (.l (.l .h))))) none (.ix (nat_lit 11) (.s (.l (.r (.r (.r .h))))) (.s (.l (.l (.l (.l (.l .h))))))),
  .r (.r (.r (.l (.l (.l .h))))) none (.lg (nat_lit 11) (.s (.l (.r (.l (.l (.l .h))))))),
  .a (.l (.l (.l .h))) none (.al (nat_lit 46) (nat_lit 11) (.n (.n (.n (.n .e (.i .i64 (.n (nat_lit 0))) .e) (.i .i64 (.n (nat_lit 0))) .e) (.i .i64 (.n (nat_lit 0))) (.n (.n .e (.i .i64 (.n (nat_lit 0))) .e) (.i .i64 (.n (nat_lit 0))) .e)) (.i .i64 (.n (nat_lit 0))) (.n (.n (.n .e (.i .i64 (.n (nat_lit 0))) .e) (.i .i64 (.n (nat_lit 0))) .e) (.i .i64 (.n (nat_lit 0))) (.n (.n .e (.i .i64 (.n (nat_lit 0))) .e) (.i .i64 (.n (nat_lit 0))) .e)))),
  .c none none (.st (nat_lit 11) (.s (.l (.l (.l .h)))) (.s (.r (.r (.l (.l (.l .h)))))))])
 (.seq (.reg [.r (.l (.l (.r (.l (.l .h))))) none (.lg (nat_lit 11) (.s (.l (.l (.l .h))))),
  .k (some (.r (.l (.r (.l (.l .h)))))) none (nat_lit 23) (.l (.l (.l (.r .h)))) [(.s (.l (.l (.r (.l (.l .h))))))]])
 (.cond (.s (.r (.l (.r (.l (.l .h)))))) (.reg [.p (.l (.r (.r (.l (.l .h))))) none (.fa (nat_lit 4) (.s (.l (.l .h)))),
  .r (.r (.r (.r (.l (.l .h))))) none (.ld (.s (.l (.r (.r (.l (.l .h))))))),
  .p (.l (.l (.l (.r (.l .h))))) none (.mv (.s (.r (.l .h)))),
  .p (.r (.l (.l (.r (.l .h))))) none (.fa (nat_lit 1) (.s (.l (.l (.l .h))))),
  .r (.l (.r (.l (.r (.l .h))))) none (.ld (.s (.r (.l (.l (.r (.l .h))))))),
  .p (.r (.r (.l (.r (.l .h))))) none (.bd [(.i .i64 (.n (nat_lit 0))), (.i .i64 (.n (nat_lit 0)))] [((nat_lit 0), (nat_lit 1), (.s (.l (.l (.l (.r (.l .h))))))), ((nat_lit 1), (nat_lit 1), (.s (.l (.r (.l (.r (.l .h)))))))]),
  .r (.l (.l (.r (.r (.l .h))))) none (.lg (nat_lit 11) (.s (.l (.l (.l .h))))),
  .c none none (.mu true [(nat_lit 0), (nat_lit 0)] (.s (.r (.r (.r (.l (.l .h)))))) (.s (.r (.r (.l (.r (.l .h)))))) (.s (.l (.l (.r (.r (.l .h)))))))]) .skip))))
 (.reg [.p (.r (.l (.r (.r (.l .h))))) none (.ar .add (.s (.l (.l (.l (.l (.l .h)))))) (.c (.a (.i .i64 (.n (nat_lit 1)))))),
  .p (.l (.l (.l (.l (.l .h))))) none (.mv (.s (.r (.l (.r (.r (.l .h)))))))])))))))))
 (.reg [.p (.l (.r (.r (.r (.l .h))))) none (.ar .add (.s (.l (.l (.l (.r .h))))) (.c (.a (.i .i64 (.n (nat_lit 1)))))),
  .p (.l (.l (.l (.r .h)))) none (.mv (.s (.l (.r (.r (.r (.l .h)))))))])))))))
 (.seq (.reg [.k (some (.r (.r (.r (.r (.l .h)))))) none (nat_lit 24) (.r (.l (.l (.r .h)))) [(.s (.l (.l .h)))]])
 (.seq (.reg [.k (some (.l (.l (.l (.l (.r .h)))))) none (nat_lit 25) (.l (.r (.l (.r .h)))) [(.s (.l (.l .h)))]])
 (.seq (.reg [.p (.r (.l (.l (.l (.r .h))))) none (.fa (nat_lit 0) (.s (.l (.l .h)))),
  .r (.l (.r (.l (.l (.r .h))))) none (.lg (nat_lit 4) (.s (.r (.l (.l (.l (.r .h))))))),
  .a (.r (.l (.l .h))) none (.al (nat_lit 51) (nat_lit 4) (.n (.n (.n .e .s0 .e) .s0 .e) (.i .i64 (.n (nat_lit 0))) (.n .e .s0 .e))),
  .c none none (.st (nat_lit 4) (.s (.r (.l (.l .h)))) (.s (.l (.r (.l (.l (.r .h)))))))])
 (.seq (.reg [.p (.r (.r (.l (.l (.r .h))))) none (.fa (nat_lit 1) (.s (.r (.l (.l .h))))),
  .c none none (.st (nat_lit 1) (.s (.r (.r (.l (.l (.r .h)))))) (.c (.a .s0)))])
 (.seq (.seq (.reg [.p (.l (.l (.r (.l (.r .h))))) none (.fa (nat_lit 0) (.s (.l (.l .h)))),
  .p (.r (.l (.r (.l (.r .h))))) none (.fa (nat_lit 1) (.s (.l (.l (.r (.l (.r .h))))))),
  .r (.l (.r (.r (.l (.r .h))))) none (.ld (.s (.r (.l (.r (.l (.r .h))))))),
  .p (.r (.r (.r (.l (.r .h))))) none (.ln (.s (.l (.r (.r (.l (.r .h))))))),
  .p (.l (.l (.l (.r (.r .h))))) none (.mv (.c (.a (.i .i64 (.n (nat_lit 0))))))])
 (.blk (nat_lit 4) (.loop (.seq (.reg [.p (.r (.l (.l (.r (.r .h))))) none (.cp .lss (.s (.l (.l (.l (.r (.r .h)))))) (.s (.r (.r (.r (.l (.r .h)))))))])
 (.seq (.cond (.s (.r (.l (.l (.r (.r .h)))))) .skip (.ex (nat_lit 4)))
 (.seq (.blk (nat_lit 5) (.seq (.reg [.p (.l (.r (.l (.r (.r .h))))) none (.mv (.s (.l (.l (.l (.r (.r .h))))))),
  .p (.l (.r (.l .h))) none (.mv (.s (.l (.r (.l (.r (.r .h)))))))])
 (.drw [⟨.p (.r (.r (.l (.r (.r .h))))) none (.fa (nat_lit 1) (.s (.r (.l (.l .h))))), (nat_lit 0), [], []⟩,
  ⟨.r (.l (.l (.r (.r (.r .h))))) none (.ld (.s (.r (.r (.l (.r (.r .h))))))), (nat_lit 1), [(nat_lit 0)], []⟩,
  ⟨.p (.r (.l (.r (.r (.r .h))))) none (.mv (.s (.l (.r (.l .h))))), (nat_lit 2), [], []⟩,
  ⟨.k (some (.l (.r (.r (.r (.r .h)))))) none (nat_lit 26) (.r (.r (.l (.r .h)))) [(.s (.l (.l .h))), (.s (.r (.l (.r (.r (.r .h))))))], (nat_lit 3), [(nat_lit 2)], [true]⟩,
  ⟨.a (.r (.r (.r (.r (.r .h))))) none (.bs (nat_lit 60) (nat_lit 1) [(.i .i64 (.n (nat_lit 0))), .s0, (.i .i64 (.n (nat_lit 0))), (.i .i64 (.n (nat_lit 0))), (.i .i64 (.n (nat_lit 0))), .s0, (.i .i64 (.n (nat_lit 0))), .s0, (.i .i64 (.n (nat_lit 0))), .s0] [((nat_lit 0), (nat_lit 10), (.s (.l (.r (.r (.r (.r .h)))))))]), (nat_lit 4), [(nat_lit 2), (nat_lit 3)], []⟩,
  ⟨.c (some (.l (.l (.l (.l (.l (.l .h))))))) none (.ap (nat_lit 60) (nat_lit 10) (nat_lit 144) (.s (.l (.l (.r (.r (.r .h)))))) (.s (.r (.r (.r (.r (.r .h))))))), (nat_lit 5), [(nat_lit 0), (nat_lit 1), (nat_lit 2), (nat_lit 3), (nat_lit 4)], []⟩,
  ⟨.p (.r (.l (.l (.l (.l (.l .h)))))) none (.fa (nat_lit 1) (.s (.r (.l (.l .h))))), (nat_lit 6), [(nat_lit 0), (nat_lit 1), (nat_lit 2), (nat_lit 3), (nat_lit 4), (nat_lit 5)], []⟩,
  ⟨.c none none (.st (nat_lit 1) (.s (.r (.l (.l (.l (.l (.l .h))))))) (.s (.l (.l (.l (.l (.l (.l .h)))))))), (nat_lit 7), [(nat_lit 0), (nat_lit 1), (nat_lit 2), (nat_lit 3), (nat_lit 4), (nat_lit 5), (nat_lit 6)], []⟩])))
 (.reg [.p (.l (.r (.l (.l (.l (.l .h)))))) none (.ar .add (.s (.l (.l (.l (.r (.r .h)))))) (.c (.a (.i .i64 (.n (nat_lit 1)))))),
  .p (.l (.l (.l (.r (.r .h))))) none (.mv (.s (.l (.r (.l (.l (.l (.l .h))))))))])))))))
 (.seq (.reg [.r (.r (.r (.l (.l (.l (.l .h)))))) none (.lg (nat_lit 4) (.s (.r (.l (.l .h))))),
  .c none none (.st (nat_lit 4) (.s (.r .h)) (.s (.r (.r (.l (.l (.l (.l .h))))))))])
 .rt)))))))))), false, false⟩
noncomputable def rf12 : RF := ⟨[.h, (.l .h)], [.g (.r (.l .h)) (nat_lit 4)], (.seq (.reg [.a (.r (.l .h)) none (.al (nat_lit 51) (nat_lit 4) (.n (.n (.n .e .s0 .e) .s0 .e) (.i .i64 (.n (nat_lit 0))) (.n .e .s0 .e)))])
 (.seq (.reg [.p (.l (.r .h)) none (.mv (.s .h)),
  .a (.r (.r .h)) none (.bs (nat_lit 60) (nat_lit 0) [] []),
  .p (.l (.l (.l .h))) none (.mv (.s (.l .h))),
  .c (some (.r (.l (.l .h)))) none (.ap (nat_lit 60) (nat_lit 10) (nat_lit 144) (.s (.r (.r .h))) (.s (.l (.l (.l .h))))),
  .p (.l (.r (.l .h))) none (.bd [(.i .i64 (.n (nat_lit 0))), (.i .i64 (.n (nat_lit 0))), (.i .i64 (.n (nat_lit 0)))] [((nat_lit 0), (nat_lit 1), (.c (.a (.i .i64 (.g (nat_lit 0)))))), ((nat_lit 1), (nat_lit 1), (.c (.a (.i .i64 (.g (nat_lit 0))))))]),
  .a (.r (.r (.l .h))) none (.bs (nat_lit 94) (nat_lit 1) [(.i .i64 (.n (nat_lit 0))), (.i .i64 (.n (nat_lit 0))), (.i .i64 (.n (nat_lit 0)))] [((nat_lit 0), (nat_lit 3), (.s (.l (.r (.l .h)))))]),
  .p (.l (.l (.r .h))) none (.bd [(.i .i64 (.n (nat_lit 0))), .s0, .s0, .s0] [((nat_lit 0), (nat_lit 1), (.s (.l (.r .h)))), ((nat_lit 1), (nat_lit 1), (.s (.r (.l (.l .h))))), ((nat_lit 2), (nat_lit 1), (.s (.r (.r (.l .h)))))]),
  .c none none (.st (nat_lit 4) (.s (.r (.l .h))) (.s (.l (.l (.r .h)))))])
 .rt)), false, false⟩
noncomputable def rf13 : RF := ⟨[.h, (.l .h), (.r .h)], [.g (.r (.r .h)) (nat_lit 10)], (.seq (.reg [.a (.r (.r .h)) none (.al (nat_lit 60) (nat_lit 10) (.n (.n (.n (.n .e .s0 .e) (.i .i64 (.n (nat_lit 0))) .e) .s0 (.n (.n .e .s0 .e) .s0 .e)) (.i .i64 (.n (nat_lit 0))) (.n (.n (.n .e (.i .i64 (.n (nat_lit 0))) .e) (.i .i64 (.n (nat_lit 0))) .e) (.i .i64 (.n (nat_lit 0))) (.n .e (.i .i64 (.n (nat_lit 0))) .e))))])
 (.seq (.reg [.p (.l (.l (.l .h))) none (.mv (.s .h)),
  .a (.r (.l (.l .h))) none (.bs (nat_lit 46) (nat_lit 0) [] []),
  .p (.l (.r (.l .h))) none (.mv (.s (.r .h))),
  .c (some (.r (.r (.l .h)))) none (.ap (nat_lit 46) (nat_lit 11) (nat_lit 88) (.s (.r (.l (.l .h)))) (.s (.l (.r (.l .h))))),
  .p (.l (.l (.r .h))) none (.mv (.s (.l .h))),
  .p (.r (.l (.r .h))) none (.bd [(.i .i64 (.n (nat_lit 0))), .s0] [((nat_lit 0), (nat_lit 1), (.c (.a (.i .i64 (.g (nat_lit 0))))))]),
  .p (.l (.r (.r .h))) none (.bd [(.i .i64 (.n (nat_lit 0))), .s0] [((nat_lit 0), (nat_lit 1), (.c (.a (.i .i64 (.g (nat_lit 0))))))]),
  .p (.r (.r (.r .h))) none (.bd [(.i .i64 (.n (nat_lit 0))), .s0, (.i .i64 (.n (nat_lit 0))), .s0] [((nat_lit 0), (nat_lit 2), (.s (.r (.l (.r .h))))), ((nat_lit 2), (nat_lit 2), (.s (.l (.r (.r .h)))))]),
  .p (.l (.l (.l (.l .h)))) none (.bd [(.i .i64 (.n (nat_lit 0))), (.i .i64 (.n (nat_lit 0))), (.i .i64 (.n (nat_lit 0))), .s0, (.i .i64 (.n (nat_lit 0))), .s0, (.i .i64 (.n (nat_lit 0))), .s0] [((nat_lit 0), (nat_lit 1), (.c (.a (.i .i64 (.n (nat_lit 4)))))), ((nat_lit 1), (nat_lit 1), (.s (.l (.l (.r .h))))), ((nat_lit 4), (nat_lit 4), (.s (.r (.r (.r .h)))))]),
  .p (.r (.l (.l (.l .h)))) none (.bd [(.i .i64 (.n (nat_lit 0))), .s0, (.i .i64 (.n (nat_lit 0))), (.i .i64 (.n (nat_lit 0))), (.i .i64 (.n (nat_lit 0))), .s0, (.i .i64 (.n (nat_lit 0))), .s0, (.i .i64 (.n (nat_lit 0))), .s0] [((nat_lit 0), (nat_lit 1), (.s (.l (.l (.l .h))))), ((nat_lit 1), (nat_lit 1), (.s (.r (.r (.l .h))))), ((nat_lit 2), (nat_lit 8), (.s (.l (.l (.l (.l .h))))))]),
  .c none none (.st (nat_lit 10) (.s (.r (.r .h))) (.s (.r (.l (.l (.l .h))))))])
 .rt)), false, false⟩
noncomputable def rf14 : RF := ⟨[], [.s .h], (.seq (.reg [.p .h none (.mv (.c (.a (.b false))))])
 (.seq (.reg [.p (.r .h) none (.bd [(.i .i64 (.n (nat_lit 0))), (.i .i64 (.n (nat_lit 0))), (.i .i64 (.n (nat_lit 0))), (.i .i64 (.n (nat_lit 0))), (.i .i64 (.n (nat_lit 0))), (.i .i64 (.n (nat_lit 0))), (.i .i64 (.n (nat_lit 0))), (.i .i64 (.n (nat_lit 0))), (.i .i64 (.n (nat_lit 0))), (.i .i64 (.n (nat_lit 0))), (.i .i64 (.n (nat_lit 0)))] [((nat_lit 0), (nat_lit 1), (.c (.a (.i .i64 (.n (nat_lit 1)))))), ((nat_lit 1), (nat_lit 1), (.c (.a (.i .i64 (.n (nat_lit 1)))))), ((nat_lit 4), (nat_lit 1), (.c (.a (.i .i64 (.n (nat_lit 1))))))]),
  .p (.l (.l .h)) none (.bd [(.i .i64 (.n (nat_lit 0))), (.i .i64 (.n (nat_lit 0))), (.i .i64 (.n (nat_lit 0))), (.i .i64 (.n (nat_lit 0))), (.i .i64 (.n (nat_lit 0))), (.i .i64 (.n (nat_lit 0))), (.i .i64 (.n (nat_lit 0))), (.i .i64 (.n (nat_lit 0))), (.i .i64 (.n (nat_lit 0))), (.i .i64 (.n (nat_lit 0))), (.i .i64 (.n (nat_lit 0)))] [((nat_lit 0), (nat_lit 1), (.c (.a (.i .i64 (.n (nat_lit 3)))))), ((nat_lit 1), (nat_lit 1), (.c (.a (.i .i64 (.n (nat_lit 2)))))), ((nat_lit 3), (nat_lit 1), (.c (.a (.i .i64 (.n (nat_lit 1))))))]),
  .p (.r (.l .h)) none (.bd [(.i .i64 (.n (nat_lit 0))), (.i .i64 (.n (nat_lit 0))), (.i .i64 (.n (nat_lit 0)))] [((nat_lit 0), (nat_lit 1), (.c (.a (.i .i64 (.n (nat_lit 2)))))), ((nat_lit 1), (nat_lit 1), (.c (.a (.i .i64 (.n (nat_lit 2))))))]),
  .p (.l (.r .h)) none (.bd [(.i .i64 (.n (nat_lit 0))), (.i .i64 (.n (nat_lit 0))), (.i .i64 (.n (nat_lit 0))), (.i .i64 (.n (nat_lit 0))), (.i .i64 (.n (nat_lit 0))), (.i .i64 (.n (nat_lit 0))), (.i .i64 (.n (nat_lit 0))), (.i .i64 (.n (nat_lit 0))), (.i .i64 (.n (nat_lit 0))), (.i .i64 (.n (nat_lit 0))), (.i .i64 (.n (nat_lit 0)))] [((nat_lit 0), (nat_lit 1), (.c (.a (.i .i64 (.n (nat_lit 21)))))), ((nat_lit 8), (nat_lit 3), (.s (.r (.l .h))))]),
  .a (.r (.r .h)) none (.bs (nat_lit 46) (nat_lit 3) [(.i .i64 (.n (nat_lit 0))), (.i .i64 (.n (nat_lit 0))), (.i .i64 (.n (nat_lit 0))), (.i .i64 (.n (nat_lit 0))), (.i .i64 (.n (nat_lit 0))), (.i .i64 (.n (nat_lit 0))), (.i .i64 (.n (nat_lit 0))), (.i .i64 (.n (nat_lit 0))), (.i .i64 (.n (nat_lit 0))), (.i .i64 (.n (nat_lit 0))), (.i .i64 (.n (nat_lit 0))), (.i .i64 (.n (nat_lit 0))), (.i .i64 (.n (nat_lit 0))), (.i .i64 (.n (nat_lit 0))), (.i .i64 (.n (nat_lit 0))), (.i .i64 (.n (nat_lit 0))), (.i .i64 (.n (nat_lit 0))), (.i .i64 (.n (nat_lit 0))), (.i .i64 (.n (nat_lit 0))), (.i .i64 (.n (nat_lit 0))), (.i .i64 (.n (nat_lit 0))), (.i .i64 (.n (nat_lit 0))), (.i .i64 (.n (nat_lit 0))), (.i .i64 (.n (nat_lit 0))), (.i .i64 (.n (nat_lit 0))), (.i .i64 (.n (nat_lit 0))), (.i .i64 (.n (nat_lit 0))), (.i .i64 (.n (nat_lit 0))), (.i .i64 (.n (nat_lit 0))), (.i .i64 (.n (nat_lit 0))), (.i .i64 (.n (nat_lit 0))), (.i .i64 (.n (nat_lit 0))), (.i .i64 (.n (nat_lit 0)))] [((nat_lit 0), (nat_lit 11), (.s (.r .h))), ((nat_lit 11), (nat_lit 11), (.s (.l (.l .h)))), ((nat_lit 22), (nat_lit 11), (.s (.l (.r .h))))]),
  .k (some (.l (.l (.l .h)))) none (nat_lit 13) (.l (.r (.r .h))) [(.c (.a (.i .i64 (.n (nat_lit 1))))), (.c (.a (.i .i64 (.n (nat_lit 0))))), (.s (.r (.r .h)))],
  .a (.r (.l (.l .h))) none (.bs (nat_lit 60) (nat_lit 1) [(.i .i64 (.n (nat_lit 0))), .s0, (.i .i64 (.n (nat_lit 0))), (.i .i64 (.n (nat_lit 0))), (.i .i64 (.n (nat_lit 0))), .s0, (.i .i64 (.n (nat_lit 0))), .s0, (.i .i64 (.n (nat_lit 0))), .s0] [((nat_lit 0), (nat_lit 10), (.s (.l (.l (.l .h)))))]),
  .k (some (.l (.r (.l .h)))) none (nat_lit 12) (.r (.l (.r .h))) [(.c (.a (.i .i64 (.n (nat_lit 1))))), (.s (.r (.l (.l .h))))],
  .k (some (.r (.r (.l .h)))) none (nat_lit 11) (.l (.l (.r .h))) [(.s (.l (.r (.l .h))))],
  .a (.l .h) none (.al (nat_lit 51) (nat_lit 4) (.n (.n (.n .e .s0 .e) .s0 .e) (.i .i64 (.n (nat_lit 0))) (.n .e .s0 .e))),
  .c none none (.st (nat_lit 4) (.s (.l .h)) (.s (.r (.r (.l .h)))))])
 (.seq (.reg [.p (.l (.l (.r .h))) none (.fa (nat_lit 1) (.s (.l .h))),
  .r (.r (.l (.r .h))) none (.ld (.s (.l (.l (.r .h))))),
  .p (.l (.r (.r .h))) none (.ln (.s (.r (.l (.r .h))))),
  .p (.r (.r (.r .h))) none (.cp .eql (.s (.l (.r (.r .h)))) (.c (.a (.i .i64 (.n (nat_lit 1)))))),
  .p (.l (.l (.l (.l .h)))) none (.mv (.s (.r (.r (.r .h))))),
  .p (.r (.l (.l (.l .h)))) (some ((.l (.l (.l (.l .h)))), true)) (.fa (nat_lit 1) (.s (.l .h))),
  .r (.l (.r (.l (.l .h)))) (some ((.l (.l (.l (.l .h)))), true)) (.ld (.s (.r (.l (.l (.l .h)))))),
  .p (.r (.r (.l (.l .h)))) (some ((.l (.l (.l (.l .h)))), true)) (.ix (nat_lit 10) (.s (.l (.r (.l (.l .h))))) (.c (.a (.i .i64 (.n (nat_lit 0)))))),
  .p (.l (.l (.r (.l .h)))) (some ((.l (.l (.l (.l .h)))), true)) (.fa (nat_lit 1) (.s (.r (.r (.l (.l .h)))))),
  .r (.r (.l (.r (.l .h)))) (some ((.l (.l (.l (.l .h)))), true)) (.ld (.s (.l (.l (.r (.l .h)))))),
  .p (.l (.r (.r (.l .h)))) (some ((.l (.l (.l (.l .h)))), true)) (.ln (.s (.r (.l (.r (.l .h)))))),
  .p (.r (.r (.r (.l .h)))) (some ((.l (.l (.l (.l .h)))), true)) (.cp .eql (.s (.l (.r (.r (.l .h))))) (.c (.a (.i .i64 (.n (nat_lit 1)))))),
  .p (.l (.l (.l (.r .h)))) none (.pk (.s (.l (.l (.l (.l .h))))) (.s (.r (.r (.r (.l .h))))) (.c (.a (.b false)))),
  .p (.r (.l (.l (.r .h)))) none (.mv (.s (.l (.l (.l (.r .h)))))),
  .p (.l (.r (.l (.r .h)))) (some ((.r (.l (.l (.r .h)))), true)) (.fa (nat_lit 1) (.s (.l .h))),
  .r (.r (.r (.l (.r .h)))) (some ((.r (.l (.l (.r .h)))), true)) (.ld (.s (.l (.r (.l (.r .h)))))),
  .p (.l (.l (.r (.r .h)))) (some ((.r (.l (.l (.r .h)))), true)) (.ix (nat_lit 10) (.s (.r (.r (.l (.r .h))))) (.c (.a (.i .i64 (.n (nat_lit 0)))))),
  .p (.r (.l (.r (.r .h)))) (some ((.r (.l (.l (.r .h)))), true)) (.fa (nat_lit 1) (.s (.l (.l (.r (.r .h)))))),
  .r (.l (.r (.r (.r .h)))) (some ((.r (.l (.l (.r .h)))), true)) (.ld (.s (.r (.l (.r (.r .h)))))),
  .p (.r (.r (.r (.r .h)))) (some ((.r (.l (.l (.r .h)))), true)) (.ix (nat_lit 11) (.s (.l (.r (.r (.r .h))))) (.c (.a (.i .i64 (.n (nat_lit 0)))))),
  .p (.l (.l (.l (.l (.l .h))))) (some ((.r (.l (.l (.r .h)))), true)) (.fa (nat_lit 8) (.s (.r (.r (.r (.r .h)))))),
  .r (.r (.l (.l (.l (.l .h))))) (some ((.r (.l (.l (.r .h)))), true)) (.lg (nat_lit 3) (.s (.l (.l (.l (.l (.l .h))))))),
  .p (.l (.r (.l (.l (.l .h))))) (some ((.r (.l (.l (.r .h)))), true)) (.bd [(.i .i64 (.n (nat_lit 0))), (.i .i64 (.n (nat_lit 0))), (.i .i64 (.n (nat_lit 0)))] [((nat_lit 0), (nat_lit 1), (.c (.a (.i .i64 (.n (nat_lit 2)))))), ((nat_lit 2), (nat_lit 1), (.c (.a (.i .i64 (.n (nat_lit 1))))))]),
  .p (.r (.r (.l (.l (.l .h))))) (some ((.r (.l (.l (.r .h)))), true)) (.eq false true [(nat_lit 0), (nat_lit 0), (nat_lit 0)] (.s (.r (.l (.l (.l (.l .h)))))) (.s (.l (.r (.l (.l (.l .h))))))),
  .p (.l (.l (.r (.l (.l .h))))) none (.pk (.s (.r (.l (.l (.r .h))))) (.s (.r (.r (.l (.l (.l .h)))))) (.c (.a (.b false)))),
  .p .h none (.mv (.s (.l (.l (.r (.l (.l .h)))))))])
 .rt))), false, false⟩
noncomputable def rf21 : RF := ⟨[.h], [.s (.r .h)], (.seq (.reg [.a (.l .h) none (.bx (nat_lit 51) (nat_lit 4) (.s .h)),
  .p (.r .h) none (.mv (.c (.a (.i .i64 (.n (nat_lit 0))))))])
 (.seq (.reg [.p (.l (.l .h)) none (.mv (.c (.a (.i .i64 (.n (nat_lit 0))))))])
 (.seq (.seq (.reg [.p (.r (.r (.l .h))) none (.fa (nat_lit 1) (.s (.l .h))),
  .r (.l (.l (.r .h))) none (.ld (.s (.r (.r (.l .h))))),
  .p (.r (.l (.r .h))) none (.ln (.s (.l (.l (.r .h))))),
  .p (.l (.r (.r .h))) none (.mv (.c (.a (.i .i64 (.n (nat_lit 0))))))])
 (.blk (nat_lit 0) (.loop (.seq (.reg [.p (.r (.r (.r .h))) none (.cp .lss (.s (.l (.r (.r .h)))) (.s (.r (.l (.r .h)))))])
 (.seq (.cond (.s (.r (.r (.r .h)))) .skip (.ex (nat_lit 0)))
 (.seq (.blk (nat_lit 1) (.seq (.reg [.p (.l (.l (.l (.l .h)))) none (.ix (nat_lit 10) (.s (.l (.l (.r .h)))) (.s (.l (.r (.r .h))))),
  .r (.r (.l (.l (.l .h)))) none (.lg (nat_lit 10) (.s (.l (.l (.l (.l .h)))))),
  .a (.l (.r .h)) none (.al (nat_lit 60) (nat_lit 10) (.n (.n (.n (.n .e .s0 .e) (.i .i64 (.n (nat_lit 0))) .e) .s0 (.n (.n .e .s0 .e) .s0 .e)) (.i .i64 (.n (nat_lit 0))) (.n (.n (.n .e (.i .i64 (.n (nat_lit 0))) .e) (.i .i64 (.n (nat_lit 0))) .e) (.i .i64 (.n (nat_lit 0))) (.n .e (.i .i64 (.n (nat_lit 0))) .e)))),
  .c none none (.st (nat_lit 10) (.s (.l (.r .h))) (.s (.r (.l (.l (.l .h))))))])
 (.reg [.p (.l (.r (.l (.l .h)))) none (.mv (.s (.l (.l .h)))),
  .p (.r (.r (.l (.l .h)))) none (.fa (nat_lit 1) (.s (.l (.r .h)))),
  .r (.l (.l (.r (.l .h)))) none (.ld (.s (.r (.r (.l (.l .h)))))),
  .p (.r (.l (.r (.l .h)))) none (.ln (.s (.l (.l (.r (.l .h)))))),
  .p (.l (.r (.r (.l .h)))) none (.ar .add (.s (.l (.r (.l (.l .h))))) (.s (.r (.l (.r (.l .h)))))),
  .p (.l (.l .h)) none (.mv (.s (.l (.r (.r (.l .h))))))])))
 (.reg [.p (.r (.r (.r (.l .h)))) none (.ar .add (.s (.l (.r (.r .h)))) (.c (.a (.i .i64 (.n (nat_lit 1)))))),
  .p (.l (.r (.r .h))) none (.mv (.s (.r (.r (.r (.l .h))))))])))))))
 (.seq (.seq (.reg [.p (.l (.l (.l (.r .h)))) none (.fa (nat_lit 1) (.s (.l .h))),
  .r (.r (.l (.l (.r .h)))) none (.ld (.s (.l (.l (.l (.r .h)))))),
  .p (.l (.r (.l (.r .h)))) none (.ln (.s (.r (.l (.l (.r .h)))))),
  .p (.r (.r (.l (.r .h)))) none (.cp .gtr (.s (.l (.r (.l (.r .h))))) (.c (.a (.i .i64 (.n (nat_lit 400)))))),
  .p (.l (.l (.r (.r .h)))) none (.mv (.s (.r (.r (.l (.r .h)))))),
  .p (.r (.l (.r (.r .h)))) (some ((.l (.l (.r (.r .h)))), false)) (.mv (.s (.l (.l .h)))),
  .p (.l (.r (.r (.r .h)))) (some ((.l (.l (.r (.r .h)))), false)) (.cp .gtr (.s (.r (.l (.r (.r .h))))) (.c (.a (.i .i64 (.n (nat_lit 6000)))))),
  .p (.r (.r (.r (.r .h)))) none (.pk (.s (.l (.l (.r (.r .h))))) (.c (.a (.b true))) (.s (.l (.r (.r (.r .h)))))),
  .p (.l (.l (.l (.l (.l .h))))) none (.mv (.s (.r (.r (.r (.r .h)))))),
  .p (.r (.l (.l (.l (.l .h))))) (some ((.l (.l (.l (.l (.l .h))))), false)) (.fa (nat_lit 2) (.s (.l .h))),
  .r (.l (.r (.l (.l (.l .h))))) (some ((.l (.l (.l (.l (.l .h))))), false)) (.ld (.s (.r (.l (.l (.l (.l .h))))))),
  .p (.r (.r (.l (.l (.l .h))))) (some ((.l (.l (.l (.l (.l .h))))), false)) (.ln (.s (.l (.r (.l (.l (.l .h))))))),
  .p (.l (.l (.r (.l (.l .h))))) (some ((.l (.l (.l (.l (.l .h))))), false)) (.cp .gtr (.s (.r (.r (.l (.l (.l .h)))))) (.c (.a (.i .i64 (.n (nat_lit 64)))))),
  .p (.r (.l (.r (.l (.l .h))))) none (.pk (.s (.l (.l (.l (.l (.l .h)))))) (.c (.a (.b true))) (.s (.l (.l (.r (.l (.l .h))))))),
  .p (.l (.r (.r (.l (.l .h))))) none (.mv (.s (.r (.l (.r (.l (.l .h))))))),
  .p (.r (.r (.r (.l (.l .h))))) (some ((.l (.r (.r (.l (.l .h))))), false)) (.fa (nat_lit 3) (.s (.l .h))),
  .r (.l (.l (.l (.r (.l .h))))) (some ((.l (.r (.r (.l (.l .h))))), false)) (.ld (.s (.r (.r (.r (.l (.l .h))))))),
  .p (.r (.l (.l (.r (.l .h))))) (some ((.l (.r (.r (.l (.l .h))))), false)) (.ln (.s (.l (.l (.l (.r (.l .h))))))),
  .p (.l (.r (.l (.r (.l .h))))) (some ((.l (.r (.r (.l (.l .h))))), false)) (.cp .gtr (.s (.r (.l (.l (.r (.l .h)))))) (.c (.a (.i .i64 (.n (nat_lit 64)))))),
  .p (.r (.r (.l (.r (.l .h))))) none (.pk (.s (.l (.r (.r (.l (.l .h)))))) (.c (.a (.b true))) (.s (.l (.r (.l (.r (.l .h)))))))])
 (.cond (.s (.r (.r (.l (.r (.l .h)))))) (.seq (.reg [.p (.r .h) none (.mv (.c (.a (.i .i64 (.n (nat_lit 5))))))])
 .rt) .skip))
 (.seq (.seq (.reg [.r (.l (.l (.r (.r (.l .h))))) none (.lg (nat_lit 4) (.s (.l .h))),
  .k (some (.r (.l (.r (.r (.l .h)))))) none (nat_lit 39) (.l (.l (.l (.r (.l .h))))) [(.s (.l (.l (.r (.r (.l .h))))))],
  .p (.l (.r (.r (.r (.l .h))))) none (.nt (.s (.r (.l (.r (.r (.l .h))))))),
  .p (.r (.r (.r (.r (.l .h))))) none (.mv (.s (.l (.r (.r (.r (.l .h))))))),
  .p (.l (.l (.l (.l (.r .h))))) (some ((.r (.r (.r (.r (.l .h))))), false)) (.fa (nat_lit 2) (.s (.l .h))),
  .r (.r (.l (.l (.l (.r .h))))) (some ((.r (.r (.r (.r (.l .h))))), false)) (.ld (.s (.l (.l (.l (.l (.r .h))))))),
  .k (some (.l (.r (.l (.l (.r .h)))))) (some ((.r (.r (.r (.r (.l .h))))), false)) (nat_lit 40) (.r (.l (.l (.r (.l .h))))) [(.s (.r (.l (.l (.l (.r .h))))))],
  .p (.r (.r (.l (.l (.r .h))))) (some ((.r (.r (.r (.r (.l .h))))), false)) (.nt (.s (.l (.r (.l (.l (.r .h))))))),
  .p (.l (.l (.r (.l (.r .h))))) none (.pk (.s (.r (.r (.r (.r (.l .h)))))) (.c (.a (.b true))) (.s (.r (.r (.l (.l (.r .h))))))),
  .p (.r (.l (.r (.l (.r .h))))) none (.mv (.s (.l (.l (.r (.l (.r .h))))))),
  .r (.l (.r (.r (.l (.r .h))))) (some ((.r (.l (.r (.l (.r .h))))), false)) (.lg (nat_lit 4) (.s (.l .h))),
  .k (some (.r (.r (.r (.l (.r .h)))))) (some ((.r (.l (.r (.l (.r .h))))), false)) (nat_lit 41) (.l (.r (.l (.r (.l .h))))) [(.s (.l (.r (.r (.l (.r .h))))))],
  .p (.l (.l (.l (.r (.r .h))))) (some ((.r (.l (.r (.l (.r .h))))), false)) (.nt (.s (.r (.r (.r (.l (.r .h))))))),
  .p (.r (.l (.l (.r (.r .h))))) none (.pk (.s (.r (.l (.r (.l (.r .h)))))) (.c (.a (.b true))) (.s (.l (.l (.l (.r (.r .h)))))))])
 (.cond (.s (.r (.l (.l (.r (.r .h)))))) (.seq (.reg [.p (.r .h) none (.mv (.c (.a (.i .i64 (.n (nat_lit 4))))))])
 .rt) .skip))
 (.seq (.seq (.reg [.p (.l (.r (.l (.r (.r .h))))) none (.fa (nat_lit 1) (.s (.l .h))),
  .r (.r (.r (.l (.r (.r .h))))) none (.ld (.s (.l (.r (.l (.r (.r .h))))))),
  .p (.l (.l (.r (.r (.r .h))))) none (.ln (.s (.r (.r (.l (.r (.r .h))))))),
  .p (.r (.l (.r (.r (.r .h))))) none (.mv (.c (.a (.i .i64 (.n (nat_lit 0))))))])
 (.blk (nat_lit 2) (.loop (.seq (.reg [.p (.l (.r (.r (.r (.r .h))))) none (.cp .lss (.s (.r (.l (.r (.r (.r .h)))))) (.s (.l (.l (.r (.r (.r .h)))))))])
 (.seq (.cond (.s (.l (.r (.r (.r (.r .h)))))) .skip (.ex (nat_lit 2)))
 (.seq (.blk (nat_lit 3) (.seq (.reg [.p (.r (.r (.r (.r (.r .h))))) none (.ix (nat_lit 10) (.s (.r (.r (.l (.r (.r .h)))))) (.s (.r (.l (.r (.r (.r .h))))))),
  .r (.l (.l (.l (.l (.l (.l .h)))))) none (.lg (nat_lit 10) (.s (.r (.r (.r (.r (.r .h))))))),
  .a (.l (.l (.l .h))) none (.al (nat_lit 60) (nat_lit 10) (.n (.n (.n (.n .e .s0 .e) (.i .i64 (.n (nat_lit 0))) .e) .s0 (.n (.n .e .s0 .e) .s0 .e)) (.i .i64 (.n (nat_lit 0))) (.n (.n (.n .e (.i .i64 (.n (nat_lit 0))) .e) (.i .i64 (.n (nat_lit 0))) .e) (.i .i64 (.n (nat_lit 0))) (.n .e (.i .i64 (.n (nat_lit 0))) .e)))),
  .c none none (.st (nat_lit 10) (.s (.l (.l (.l .h)))) (.s (.l (.l (.l (.l (.l (.l .h))))))))])
 (.seq (.reg [.p (.r (.l (.l (.l (.l (.l .h)))))) none (.fa (nat_lit 0) (.s (.l (.l (.l .h))))),
  .r (.l (.r (.l (.l (.l (.l .h)))))) none (.ld (.s (.r (.l (.l (.l (.l (.l .h)))))))),
  .k (some (.r (.r (.l (.l (.l (.l .h))))))) none (nat_lit 42) (.r (.r (.l (.r (.l .h))))) [(.s (.l (.r (.l (.l (.l (.l .h))))))), (.c (.a (.i .i64 (.n (nat_lit 999)))))],
  .p (.l (.l (.r (.l (.l (.l .h)))))) none (.nt (.s (.r (.r (.l (.l (.l (.l .h))))))))])
 (.cond (.s (.l (.l (.r (.l (.l (.l .h))))))) (.seq (.reg [.p (.r .h) none (.mv (.c (.a (.i .i64 (.n (nat_lit 4))))))])
 .rt) .skip))))
 (.reg [.p (.r (.l (.r (.l (.l (.l .h)))))) none (.ar .add (.s (.r (.l (.r (.r (.r .h)))))) (.c (.a (.i .i64 (.n (nat_lit 1)))))),
  .p (.r (.l (.r (.r (.r .h))))) none (.mv (.s (.r (.l (.r (.l (.l (.l .h))))))))])))))))
 (.seq (.seq (.reg [.p (.l (.r (.r (.l (.l (.l .h)))))) none (.fa (nat_lit 1) (.s (.l .h))),
  .r (.r (.r (.r (.l (.l (.l .h)))))) none (.ld (.s (.l (.r (.r (.l (.l (.l .h)))))))),
  .p (.l (.l (.l (.r (.l (.l .h)))))) none (.ln (.s (.r (.r (.r (.l (.l (.l .h)))))))),
  .p (.r (.l (.l (.r (.l (.l .h)))))) none (.mv (.c (.a (.i .i64 (.n (nat_lit 0))))))])
 (.blk (nat_lit 4) (.loop (.seq (.reg [.p (.l (.r (.l (.r (.l (.l .h)))))) none (.cp .lss (.s (.r (.l (.l (.r (.l (.l .h))))))) (.s (.l (.l (.l (.r (.l (.l .h))))))))])
 (.seq (.cond (.s (.l (.r (.l (.r (.l (.l .h))))))) .skip (.ex (nat_lit 4)))
 (.seq (.blk (nat_lit 5) (.seq (.reg [.p (.r (.r (.l (.r (.l (.l .h)))))) none (.ix (nat_lit 10) (.s (.r (.r (.r (.l (.l (.l .h))))))) (.s (.r (.l (.l (.r (.l (.l .h)))))))),
  .r (.l (.l (.r (.r (.l (.l .h)))))) none (.lg (nat_lit 10) (.s (.r (.r (.l (.r (.l (.l .h)))))))),
  .a (.l (.r (.l .h))) none (.al (nat_lit 60) (nat_lit 10) (.n (.n (.n (.n .e .s0 .e) (.i .i64 (.n (nat_lit 0))) .e) .s0 (.n (.n .e .s0 .e) .s0 .e)) (.i .i64 (.n (nat_lit 0))) (.n (.n (.n .e (.i .i64 (.n (nat_lit 0))) .e) (.i .i64 (.n (nat_lit 0))) .e) (.i .i64 (.n (nat_lit 0))) (.n .e (.i .i64 (.n (nat_lit 0))) .e)))),
  .c none none (.st (nat_lit 10) (.s (.l (.r (.l .h)))) (.s (.l (.l (.r (.r (.l (.l .h))))))))])
 (.seq (.reg [.r (.r (.l (.r (.r (.l (.l .h)))))) none (.lg (nat_lit 4) (.s (.l .h))),
  .r (.l (.r (.r (.r (.l (.l .h)))))) none (.lg (nat_lit 10) (.s (.l (.r (.l .h))))),
  .k (some (.r (.r (.r (.r (.l (.l .h))))))) none (nat_lit 43) (.l (.l (.r (.r (.l .h))))) [(.s (.r (.l (.r (.r (.l (.l .h))))))), (.s (.l (.r (.r (.r (.l (.l .h)))))))],
  .p (.l (.l (.l (.l (.r (.l .h)))))) none (.nt (.s (.r (.r (.r (.r (.l (.l .h))))))))])
 (.cond (.s (.l (.l (.l (.l (.r (.l .h))))))) (.seq (.reg [.p (.r .h) none (.mv (.c (.a (.i .i64 (.n (nat_lit 4))))))])
 .rt) .skip))))
 (.reg [.p (.r (.l (.l (.l (.r (.l .h)))))) none (.ar .add (.s (.r (.l (.l (.r (.l (.l .h))))))) (.c (.a (.i .i64 (.n (nat_lit 1)))))),
  .p (.r (.l (.l (.r (.l (.l .h)))))) none (.mv (.s (.r (.l (.l (.l (.r (.l .h))))))))])))))))
 (.seq (.reg [.p (.r .h) none (.mv (.c (.a (.i .i64 (.n (nat_lit 0))))))])
 .rt)))))))), false, false⟩
noncomputable def rf22 : RF := ⟨[.h], [.g (.r .h) (nat_lit 4)], (.seq (.reg [.a (.l .h) none (.bx (nat_lit 51) (nat_lit 4) (.s .h)),
  .a (.r .h) none (.al (nat_lit 51) (nat_lit 4) (.n (.n (.n .e .s0 .e) .s0 .e) (.i .i64 (.n (nat_lit 0))) (.n .e .s0 .e)))])
 (.seq (.reg [.p (.l (.l (.l (.l .h)))) none (.fa (nat_lit 1) (.s (.l .h))),
  .r (.r (.l (.l (.l .h)))) none (.ld (.s (.l (.l (.l (.l .h)))))),
  .p (.l (.r (.l (.l .h)))) none (.ln (.s (.r (.l (.l (.l .h)))))),
  .a (.r (.r (.l (.l .h)))) none (.ms (nat_lit 4) (nat_lit 1) [(.b false)] (.s (.l (.r (.l (.l .h)))))),
  .p (.l (.l .h)) none (.mv (.s (.r (.r (.l (.l .h))))))])
 (.seq (.reg [.p (.l (.l (.r (.l .h)))) none (.mv (.s (.l (.l .h)))),
  .p (.r (.l (.r (.l .h)))) none (.ix (nat_lit 1) (.s (.l (.l (.r (.l .h))))) (.c (.a (.i .i64 (.n (nat_lit 0)))))),
  .c none none (.st (nat_lit 1) (.s (.r (.l (.r (.l .h))))) (.c (.a (.b true))))])
 (.seq (.seq (.reg [.a (.l (.r (.r (.l .h)))) none (.bs (nat_lit 3) (nat_lit 1) [(.i .i64 (.n (nat_lit 0)))] [((nat_lit 0), (nat_lit 1), (.c (.a (.i .i64 (.n (nat_lit 0))))))]),
  .p (.r (.l .h)) none (.mv (.s (.l (.r (.r (.l .h))))))])
 (.blk (nat_lit 0) (.loop (.seq (.seq (.reg [.p (.r (.r (.r (.l .h)))) none (.mv (.s (.r (.l .h)))),
  .p (.l (.l (.l (.r .h)))) none (.ln (.s (.r (.r (.r (.l .h)))))),
  .p (.r (.l (.l (.r .h)))) none (.cp .gtr (.s (.l (.l (.l (.r .h))))) (.c (.a (.i .i64 (.n (nat_lit 0))))))])
 (.cond (.s (.r (.l (.l (.r .h))))) .skip (.ex (nat_lit 0))))
 (.blk (nat_lit 1) (.seq (.reg [.p (.l (.r (.l (.r .h)))) none (.mv (.s (.r (.l .h)))),
  .p (.r (.r (.l (.r .h)))) none (.mv (.s (.r (.l .h)))),
  .p (.l (.l (.r (.r .h)))) none (.ln (.s (.r (.r (.l (.r .h)))))),
  .p (.r (.l (.r (.r .h)))) none (.ar .sub (.s (.l (.l (.r (.r .h))))) (.c (.a (.i .i64 (.n (nat_lit 1)))))),
  .p (.l (.r (.r (.r .h)))) none (.ix (nat_lit 1) (.s (.l (.r (.l (.r .h))))) (.s (.r (.l (.r (.r .h)))))),
  .r (.r (.r (.r (.r .h)))) none (.ld (.s (.l (.r (.r (.r .h)))))),
  .p (.l (.r .h)) none (.mv (.s (.r (.r (.r (.r .h))))))])
 (.seq (.reg [.p (.l (.l (.l (.l (.l .h))))) none (.mv (.s (.r (.l .h)))),
  .p (.r (.l (.l (.l (.l .h))))) none (.mv (.s (.r (.l .h)))),
  .p (.l (.r (.l (.l (.l .h))))) none (.ln (.s (.r (.l (.l (.l (.l .h))))))),
  .p (.r (.r (.l (.l (.l .h))))) none (.ar .sub (.s (.l (.r (.l (.l (.l .h)))))) (.c (.a (.i .i64 (.n (nat_lit 1)))))),
  .p (.l (.l (.r (.l (.l .h))))) none (.sl (.s (.l (.l (.l (.l (.l .h)))))) (.s (.r (.r (.l (.l (.l .h))))))),
  .p (.r (.l .h)) none (.mv (.s (.l (.l (.r (.l (.l .h)))))))])
 (.seq (.reg [.p (.r (.l (.r (.l (.l .h))))) none (.fa (nat_lit 1) (.s (.l .h))),
  .r (.l (.r (.r (.l (.l .h))))) none (.ld (.s (.r (.l (.r (.l (.l .h))))))),
  .p (.r (.r (.r (.l (.l .h))))) none (.mv (.s (.l (.r .h)))),
  .p (.l (.l (.l (.r (.l .h))))) none (.ix (nat_lit 10) (.s (.l (.r (.r (.l (.l .h)))))) (.s (.r (.r (.r (.l (.l .h))))))),
  .p (.r (.l (.l (.r (.l .h))))) none (.fa (nat_lit 2) (.s (.l (.l (.l (.r (.l .h))))))),
  .p (.l (.r (.l (.r (.l .h))))) none (.fa (nat_lit 4) (.s (.r (.l (.l (.r (.l .h))))))),
  .r (.r (.r (.l (.r (.l .h))))) none (.lg (nat_lit 4) (.s (.l (.r (.l (.r (.l .h))))))),
  .p (.l (.l (.r (.r (.l .h))))) none (.mv (.c (.a (.i .i64 (.n (nat_lit 0))))))])
 (.blk (nat_lit 2) (.loop (.seq (.reg [.p (.r (.l (.r (.r (.l .h))))) none (.cp .lss (.s (.l (.l (.r (.r (.l .h)))))) (.c (.a (.i .i64 (.n (nat_lit 2))))))])
 (.seq (.cond (.s (.r (.l (.r (.r (.l .h)))))) .skip (.ex (nat_lit 2)))
 (.seq (.blk (nat_lit 3) (.seq (.reg [.p (.l (.r (.r (.r (.l .h))))) none (.ig (nat_lit 2) (nat_lit 2) (.s (.r (.r (.l (.r (.l .h)))))) (.s (.l (.l (.r (.r (.l .h))))))),
  .a (.l (.l (.l .h))) none (.al (nat_lit 55) (nat_lit 2) (.n (.n .e .s0 .e) (.i .i64 (.n (nat_lit 0))) .e)),
  .c none none (.st (nat_lit 2) (.s (.l (.l (.l .h)))) (.s (.l (.r (.r (.r (.l .h)))))))])
 (.seq (.reg [.p (.r (.r (.r (.r (.l .h))))) none (.fa (nat_lit 0) (.s (.l (.l (.l .h))))),
  .r (.l (.l (.l (.l (.r .h))))) none (.ld (.s (.r (.r (.r (.r (.l .h))))))),
  .p (.r (.l (.l (.l (.r .h))))) none (.cp .geq (.s (.l (.l (.l (.l (.r .h)))))) (.c (.a (.i .i64 (.n (nat_lit 0)))))),
  .p (.l (.r (.l (.l (.r .h))))) none (.mv (.s (.r (.l (.l (.l (.r .h))))))),
  .p (.r (.r (.l (.l (.r .h))))) (some ((.l (.r (.l (.l (.r .h))))), true)) (.mv (.s (.l (.l .h)))),
  .p (.l (.l (.r (.l (.r .h))))) (some ((.l (.r (.l (.l (.r .h))))), true)) (.fa (nat_lit 0) (.s (.l (.l (.l .h))))),
  .r (.r (.l (.r (.l (.r .h))))) (some ((.l (.r (.l (.l (.r .h))))), true)) (.ld (.s (.l (.l (.r (.l (.r .h))))))),
  .p (.l (.r (.r (.l (.r .h))))) (some ((.l (.r (.l (.l (.r .h))))), true)) (.ix (nat_lit 1) (.s (.r (.r (.l (.l (.r .h)))))) (.s (.r (.l (.r (.l (.r .h))))))),
  .r (.r (.r (.r (.l (.r .h))))) (some ((.l (.r (.l (.l (.r .h))))), true)) (.ld (.s (.l (.r (.r (.l (.r .h))))))),
  .p (.l (.l (.l (.r (.r .h))))) (some ((.l (.r (.l (.l (.r .h))))), true)) (.nt (.s (.r (.r (.r (.l (.r .h))))))),
  .p (.r (.l (.l (.r (.r .h))))) none (.pk (.s (.l (.r (.l (.l (.r .h)))))) (.s (.l (.l (.l (.r (.r .h)))))) (.c (.a (.b false))))])
 (.cond (.s (.r (.l (.l (.r (.r .h)))))) (.seq (.reg [.p (.l (.r (.l (.r (.r .h))))) none (.mv (.s (.l (.l .h)))),
  .p (.r (.r (.l (.r (.r .h))))) none (.fa (nat_lit 0) (.s (.l (.l (.l .h))))),
  .r (.l (.l (.r (.r (.r .h))))) none (.ld (.s (.r (.r (.l (.r (.r .h))))))),
  .p (.r (.l (.r (.r (.r .h))))) none (.ix (nat_lit 1) (.s (.l (.r (.l (.r (.r .h)))))) (.s (.l (.l (.r (.r (.r .h))))))),
  .c none none (.st (nat_lit 1) (.s (.r (.l (.r (.r (.r .h)))))) (.c (.a (.b true))))])
 (.reg [.p (.l (.r (.r (.r (.r .h))))) none (.mv (.s (.r (.l .h)))),
  .p (.r (.r (.r (.r (.r .h))))) none (.fa (nat_lit 0) (.s (.l (.l (.l .h))))),
  .r (.l (.l (.l (.l (.l (.l .h)))))) none (.ld (.s (.r (.r (.r (.r (.r .h))))))),
  .a (.r (.l (.l (.l (.l (.l .h)))))) none (.bs (nat_lit 3) (nat_lit 1) [(.i .i64 (.n (nat_lit 0)))] [((nat_lit 0), (nat_lit 1), (.s (.l (.l (.l (.l (.l (.l .h))))))))]),
  .c (some (.l (.r (.l (.l (.l (.l .h))))))) none (.ap (nat_lit 3) (nat_lit 1) (nat_lit 8) (.s (.l (.r (.r (.r (.r .h)))))) (.s (.r (.l (.l (.l (.l (.l .h)))))))),
  .p (.r (.l .h)) none (.mv (.s (.l (.r (.l (.l (.l (.l .h))))))))])) .skip))))
 (.reg [.p (.r (.r (.l (.l (.l (.l .h)))))) none (.ar .add (.s (.l (.l (.r (.r (.l .h)))))) (.c (.a (.i .i64 (.n (nat_lit 1)))))),
  .p (.l (.l (.r (.r (.l .h))))) none (.mv (.s (.r (.r (.l (.l (.l (.l .h))))))))]))))))))))))))
 (.seq (.reg [.p (.l (.l (.r (.l (.l (.l .h)))))) none (.fa (nat_lit 1) (.s (.l .h))),
  .r (.r (.l (.r (.l (.l (.l .h)))))) none (.ld (.s (.l (.l (.r (.l (.l (.l .h)))))))),
  .p (.l (.r (.r (.l (.l (.l .h)))))) none (.ln (.s (.r (.l (.r (.l (.l (.l .h)))))))),
  .a (.r (.r (.r (.l (.l (.l .h)))))) none (.ms (nat_lit 3) (nat_lit 8) [(.i .i64 (.n (nat_lit 0)))] (.s (.l (.r (.r (.l (.l (.l .h)))))))),
  .p (.r (.l (.l .h))) none (.mv (.s (.r (.r (.r (.l (.l (.l .h))))))))])
 (.seq (.drw [⟨.p (.l (.l (.l (.r (.l (.l .h)))))) none (.fa (nat_lit 0) (.s (.l .h))), (nat_lit 0), [], []⟩,
  ⟨.r (.r (.l (.l (.r (.l (.l .h)))))) none (.ld (.s (.l (.l (.l (.r (.l (.l .h)))))))), (nat_lit 1), [(nat_lit 0)], []⟩,
  ⟨.p (.l (.r (.l (.r (.l (.l .h)))))) none (.fa (nat_lit 2) (.s (.l .h))), (nat_lit 2), [], []⟩,
  ⟨.r (.r (.r (.l (.r (.l (.l .h)))))) none (.ld (.s (.l (.r (.l (.r (.l (.l .h)))))))), (nat_lit 3), [(nat_lit 2)], []⟩,
  ⟨.p (.r (.l (.r (.r (.l (.l .h)))))) none (.fa (nat_lit 3) (.s (.l .h))), (nat_lit 5), [], []⟩,
  ⟨.r (.l (.r (.r (.r (.l (.l .h)))))) none (.ld (.s (.r (.l (.r (.r (.l (.l .h)))))))), (nat_lit 6), [(nat_lit 5)], []⟩,
  ⟨.k (some (.l (.l (.r (.r (.l (.l .h))))))) none (nat_lit 44) (.r (.l (.r (.r (.l .h))))) [(.s (.r (.r (.l (.r (.l (.l .h)))))))], (nat_lit 4), [(nat_lit 2), (nat_lit 3)], [true, false, true]⟩,
  ⟨.k (some (.r (.r (.r (.r (.l (.l .h))))))) none (nat_lit 45) (.l (.r (.r (.r (.l .h))))) [(.s (.l (.r (.r (.r (.l (.l .h)))))))], (nat_lit 7), [(nat_lit 2), (nat_lit 3), (nat_lit 4), (nat_lit 5), (nat_lit 6)], [false, false, true]⟩,
  ⟨.p (.l (.l (.l (.l (.r (.l .h)))))) none (.bd [(.i .i64 (.n (nat_lit 0))), .s0, .s0, .s0] [((nat_lit 0), (nat_lit 1), (.s (.r (.l (.l (.r (.l (.l .h)))))))), ((nat_lit 2), (nat_lit 1), (.s (.l (.l (.r (.r (.l (.l .h)))))))), ((nat_lit 3), (nat_lit 1), (.s (.r (.r (.r (.r (.l (.l .h))))))))]), (nat_lit 8), [(nat_lit 0), (nat_lit 1), (nat_lit 2), (nat_lit 3), (nat_lit 4), (nat_lit 5), (nat_lit 6), (nat_lit 7)], []⟩,
  ⟨.a (.l (.r (.l .h))) none (.al (nat_lit 51) (nat_lit 4) (.n (.n (.n .e .s0 .e) .s0 .e) (.i .i64 (.n (nat_lit 0))) (.n .e .s0 .e))), (nat_lit 9), [], []⟩,
  ⟨.c none none (.st (nat_lit 4) (.s (.l (.r (.l .h)))) (.s (.l (.l (.l (.l (.r (.l .h)))))))), (nat_lit 10), [(nat_lit 0), (nat_lit 1), (nat_lit 2), (nat_lit 3), (nat_lit 4), (nat_lit 5), (nat_lit 6), (nat_lit 7), (nat_lit 8), (nat_lit 9)], []⟩])
 (.seq (.seq (.reg [.p (.r (.l (.l (.l (.r (.l .h)))))) none (.fa (nat_lit 1) (.s (.l .h))),
  .r (.l (.r (.l (.l (.r (.l .h)))))) none (.ld (.s (.r (.l (.l (.l (.r (.l .h)))))))),
  .p (.r (.r (.l (.l (.r (.l .h)))))) none (.ln (.s (.l (.r (.l (.l (.r (.l .h)))))))),
  .p (.l (.l (.r (.l (.r (.l .h)))))) none (.mv (.c (.a (.i .i64 (.n (nat_lit 0))))))])
 (.blk (nat_lit 4) (.loop (.seq (.reg [.p (.r (.l (.r (.l (.r (.l .h)))))) none (.cp .lss (.s (.l (.l (.r (.l (.r (.l .h))))))) (.s (.r (.r (.l (.l (.r (.l .h))))))))])
 (.seq (.cond (.s (.r (.l (.r (.l (.r (.l .h))))))) .skip (.ex (nat_lit 4)))
 (.seq (.blk (nat_lit 5) (.seq (.reg [.p (.l (.r (.r (.l (.r (.l .h)))))) none (.mv (.s (.l (.l (.r (.l (.r (.l .h)))))))),
  .p (.r (.r (.r (.l (.r (.l .h)))))) none (.ix (nat_lit 10) (.s (.l (.r (.l (.l (.r (.l .h))))))) (.s (.l (.l (.r (.l (.r (.l .h)))))))),
  .r (.l (.l (.l (.r (.r (.l .h)))))) none (.lg (nat_lit 10) (.s (.r (.r (.r (.l (.r (.l .h)))))))),
  .a (.l (.l (.r .h))) none (.al (nat_lit 60) (nat_lit 10) (.n (.n (.n (.n .e .s0 .e) (.i .i64 (.n (nat_lit 0))) .e) .s0 (.n (.n .e .s0 .e) .s0 .e)) (.i .i64 (.n (nat_lit 0))) (.n (.n (.n .e (.i .i64 (.n (nat_lit 0))) .e) (.i .i64 (.n (nat_lit 0))) .e) (.i .i64 (.n (nat_lit 0))) (.n .e (.i .i64 (.n (nat_lit 0))) .e)))),
  .p (.r (.r (.l .h))) none (.mv (.s (.l (.r (.r (.l (.r (.l .h)))))))),
  .c none none (.st (nat_lit 10) (.s (.l (.l (.r .h)))) (.s (.l (.l (.l (.r (.r (.l .h))))))))])
 (.seq (.reg [.p (.r (.l (.l (.r (.r (.l .h)))))) none (.mv (.s (.l (.l .h)))),
  .p (.l (.r (.l (.r (.r (.l .h)))))) none (.mv (.s (.r (.r (.l .h))))),
  .p (.r (.r (.l (.r (.r (.l .h)))))) none (.ix (nat_lit 1) (.s (.r (.l (.l (.r (.r (.l .h))))))) (.s (.l (.r (.l (.r (.r (.l .h)))))))),
  .r (.l (.l (.r (.r (.r (.l .h)))))) none (.ld (.s (.r (.r (.l (.r (.r (.l .h))))))))])
 (.cond (.s (.l (.l (.r (.r (.r (.l .h))))))) (.seq (.reg [.p (.r (.l (.r (.r (.r (.l .h)))))) none (.mv (.s (.r (.l (.l .h))))),
  .p (.l (.r (.r (.r (.r (.l .h)))))) none (.mv (.s (.r (.r (.l .h))))),
  .p (.r (.r (.r (.r (.r (.l .h)))))) none (.fa (nat_lit 1) (.s (.l (.r (.l .h))))),
  .r (.l (.l (.l (.l (.l (.r .h)))))) none (.ld (.s (.r (.r (.r (.r (.r (.l .h)))))))),
  .p (.r (.l (.l (.l (.l (.r .h)))))) none (.ln (.s (.l (.l (.l (.l (.l (.r .h)))))))),
  .p (.l (.r (.l (.l (.l (.r .h)))))) none (.ix (nat_lit 1) (.s (.r (.l (.r (.r (.r (.l .h))))))) (.s (.l (.r (.r (.r (.r (.l .h)))))))),
  .c none none (.st (nat_lit 1) (.s (.l (.r (.l (.l (.l (.r .h))))))) (.s (.r (.l (.l (.l (.l (.r .h))))))))])
 (.reg [.p (.r (.r (.l (.l (.l (.r .h)))))) none (.fa (nat_lit 1) (.s (.l (.r (.l .h))))),
  .r (.l (.l (.r (.l (.l (.r .h)))))) none (.ld (.s (.r (.r (.l (.l (.l (.r .h)))))))),
  .r (.r (.l (.r (.l (.l (.r .h)))))) none (.lg (nat_lit 10) (.s (.l (.l (.r .h))))),
  .a (.l (.r (.r (.l (.l (.r .h)))))) none (.bs (nat_lit 60) (nat_lit 1) [(.i .i64 (.n (nat_lit 0))), .s0, (.i .i64 (.n (nat_lit 0))), (.i .i64 (.n (nat_lit 0))), (.i .i64 (.n (nat_lit 0))), .s0, (.i .i64 (.n (nat_lit 0))), .s0, (.i .i64 (.n (nat_lit 0))), .s0] [((nat_lit 0), (nat_lit 10), (.s (.r (.l (.r (.l (.l (.r .h))))))))]),
  .c (some (.r (.r (.r (.l (.l (.r .h))))))) none (.ap (nat_lit 60) (nat_lit 10) (nat_lit 144) (.s (.l (.l (.r (.l (.l (.r .h))))))) (.s (.l (.r (.r (.l (.l (.r .h)))))))),
  .p (.l (.l (.l (.r (.l (.r .h)))))) none (.fa (nat_lit 1) (.s (.l (.r (.l .h))))),
  .c none none (.st (nat_lit 1) (.s (.l (.l (.l (.r (.l (.r .h))))))) (.s (.r (.r (.r (.l (.l (.r .h))))))))])) .skip))))
 (.reg [.p (.r (.l (.l (.r (.l (.r .h)))))) none (.ar .add (.s (.l (.l (.r (.l (.r (.l .h))))))) (.c (.a (.i .i64 (.n (nat_lit 1)))))),
  .p (.l (.l (.r (.l (.r (.l .h)))))) none (.mv (.s (.r (.l (.l (.r (.l (.r .h))))))))])))))))
 (.seq (.seq (.reg [.p (.l (.r (.l (.r (.l (.r .h)))))) none (.fa (nat_lit 1) (.s (.l (.r (.l .h))))),
  .r (.r (.r (.l (.r (.l (.r .h)))))) none (.ld (.s (.l (.r (.l (.r (.l (.r .h)))))))),
  .p (.l (.l (.r (.r (.l (.r .h)))))) none (.ln (.s (.r (.r (.l (.r (.l (.r .h)))))))),
  .p (.r (.l (.r (.r (.l (.r .h)))))) none (.mv (.c (.a (.i .i64 (.n (nat_lit 0))))))])
 (.blk (nat_lit 6) (.loop (.seq (.reg [.p (.l (.r (.r (.r (.l (.r .h)))))) none (.cp .lss (.s (.r (.l (.r (.r (.l (.r .h))))))) (.s (.l (.l (.r (.r (.l (.r .h))))))))])
 (.seq (.cond (.s (.l (.r (.r (.r (.l (.r .h))))))) .skip (.ex (nat_lit 6)))
 (.seq (.blk (nat_lit 7) (.seq (.reg [.p (.r (.r (.r (.r (.l (.r .h)))))) none (.mv (.s (.r (.l (.r (.r (.l (.r .h)))))))),
  .p (.r (.l (.r .h))) none (.mv (.s (.r (.r (.r (.r (.l (.r .h))))))))])
 (.seq (.reg [.p (.l (.l (.l (.l (.r (.r .h)))))) none (.fa (nat_lit 1) (.s (.l (.r (.l .h))))),
  .r (.r (.l (.l (.l (.r (.r .h)))))) none (.ld (.s (.l (.l (.l (.l (.r (.r .h)))))))),
  .p (.l (.r (.l (.l (.r (.r .h)))))) none (.mv (.s (.r (.l (.r .h))))),
  .p (.r (.r (.l (.l (.r (.r .h)))))) none (.ix (nat_lit 10) (.s (.r (.l (.l (.l (.r (.r .h))))))) (.s (.l (.r (.l (.l (.r (.r .h)))))))),
  .p (.l (.l (.r (.l (.r (.r .h)))))) none (.fa (nat_lit 2) (.s (.r (.r (.l (.l (.r (.r .h)))))))),
  .p (.r (.l (.r (.l (.r (.r .h)))))) none (.fa (nat_lit 4) (.s (.l (.l (.r (.l (.r (.r .h)))))))),
  .p (.l (.r (.r .h))) none (.mv (.s (.r (.l (.r (.l (.r (.r .h))))))))])
 (.seq (.reg [.p (.l (.r (.r (.l (.r (.r .h)))))) none (.mv (.c (.a (.i .i64 (.n (nat_lit 0))))))])
 (.blk (nat_lit 8) (.loop (.seq (.reg [.p (.r (.r (.r (.l (.r (.r .h)))))) none (.cp .lss (.s (.l (.r (.r (.l (.r (.r .h))))))) (.c (.a (.i .i64 (.n (nat_lit 2))))))])
 (.seq (.cond (.s (.r (.r (.r (.l (.r (.r .h))))))) .skip (.ex (nat_lit 8)))
 (.seq (.blk (nat_lit 9) (.seq (.reg [.p (.l (.l (.l (.r (.r (.r .h)))))) none (.mv (.s (.l (.r (.r (.l (.r (.r .h)))))))),
  .p (.r (.r (.r .h))) none (.mv (.s (.l (.l (.l (.r (.r (.r .h))))))))])
 (.seq (.reg [.p (.r (.l (.l (.r (.r (.r .h)))))) none (.mv (.s (.l (.r (.r .h))))),
  .p (.l (.r (.l (.r (.r (.r .h)))))) none (.mv (.s (.r (.r (.r .h))))),
  .p (.r (.r (.l (.r (.r (.r .h)))))) none (.nc (.s (.r (.l (.l (.r (.r (.r .h)))))))),
  .p (.l (.l (.r (.r (.r (.r .h)))))) none (.ia (nat_lit 2) (nat_lit 2) (.s (.r (.r (.l (.r (.r (.r .h))))))) (.s (.l (.r (.l (.r (.r (.r .h)))))))),
  .p (.r (.l (.r (.r (.r (.r .h)))))) none (.fa (nat_lit 0) (.s (.l (.l (.r (.r (.r (.r .h)))))))),
  .r (.l (.r (.r (.r (.r (.r .h)))))) none (.ld (.s (.r (.l (.r (.r (.r (.r .h)))))))),
  .p (.r (.r (.r (.r (.r (.r .h)))))) none (.cp .geq (.s (.l (.r (.r (.r (.r (.r .h))))))) (.c (.a (.i .i64 (.n (nat_lit 0))))))])
 (.cond (.s (.r (.r (.r (.r (.r (.r .h))))))) (.drw [⟨.p (.l (.l (.l (.l (.l (.l (.l .h))))))) none (.mv (.s (.l (.r (.r .h))))), (nat_lit 0), [], []⟩,
  ⟨.p (.r (.l (.l (.l (.l (.l (.l .h))))))) none (.mv (.s (.r (.r (.r .h))))), (nat_lit 1), [], []⟩,
  ⟨.p (.l (.r (.l (.l (.l (.l (.l .h))))))) none (.mv (.s (.r (.l (.l .h))))), (nat_lit 2), [], []⟩,
  ⟨.p (.r (.r (.l (.l (.l (.l (.l .h))))))) none (.mv (.s (.l (.r (.r .h))))), (nat_lit 3), [], []⟩,
  ⟨.p (.l (.l (.r (.l (.l (.l (.l .h))))))) none (.mv (.s (.r (.r (.r .h))))), (nat_lit 4), [], []⟩,
  ⟨.p (.r (.l (.r (.l (.l (.l (.l .h))))))) none (.nc (.s (.r (.r (.l (.l (.l (.l (.l .h))))))))), (nat_lit 5), [(nat_lit 3)], []⟩,
  ⟨.p (.l (.r (.r (.l (.l (.l (.l .h))))))) none (.ia (nat_lit 2) (nat_lit 2) (.s (.r (.l (.r (.l (.l (.l (.l .h)))))))) (.s (.l (.l (.r (.l (.l (.l (.l .h))))))))), (nat_lit 6), [(nat_lit 3), (nat_lit 4), (nat_lit 5)], []⟩,
  ⟨.p (.r (.r (.r (.l (.l (.l (.l .h))))))) none (.fa (nat_lit 0) (.s (.l (.r (.r (.l (.l (.l (.l .h))))))))), (nat_lit 7), [(nat_lit 3), (nat_lit 4), (nat_lit 5), (nat_lit 6)], []⟩,
  ⟨.r (.l (.l (.l (.r (.l (.l (.l .h))))))) none (.ld (.s (.r (.r (.r (.l (.l (.l (.l .h))))))))), (nat_lit 8), [(nat_lit 3), (nat_lit 4), (nat_lit 5), (nat_lit 6), (nat_lit 7)], []⟩,
  ⟨.p (.r (.l (.l (.r (.l (.l (.l .h))))))) none (.ix (nat_lit 1) (.s (.l (.r (.l (.l (.l (.l (.l .h)))))))) (.s (.l (.l (.l (.r (.l (.l (.l .h))))))))), (nat_lit 9), [(nat_lit 2), (nat_lit 3), (nat_lit 4), (nat_lit 5), (nat_lit 6), (nat_lit 7), (nat_lit 8)], []⟩,
  ⟨.r (.l (.r (.l (.r (.l (.l (.l .h))))))) none (.ld (.s (.r (.l (.l (.r (.l (.l (.l .h))))))))), (nat_lit 10), [(nat_lit 2), (nat_lit 3), (nat_lit 4), (nat_lit 5), (nat_lit 6), (nat_lit 7), (nat_lit 8), (nat_lit 9)], []⟩,
  ⟨.p (.r (.r (.l (.r (.l (.l (.l .h))))))) none (.nc (.s (.l (.l (.l (.l (.l (.l (.l .h))))))))), (nat_lit 11), [(nat_lit 0)], []⟩,
  ⟨.p (.l (.l (.r (.r (.l (.l (.l .h))))))) none (.ia (nat_lit 2) (nat_lit 2) (.s (.r (.r (.l (.r (.l (.l (.l .h)))))))) (.s (.r (.l (.l (.l (.l (.l (.l .h))))))))), (nat_lit 12), [(nat_lit 0), (nat_lit 1), (nat_lit 2), (nat_lit 3), (nat_lit 4), (nat_lit 5), (nat_lit 6), (nat_lit 7), (nat_lit 8), (nat_lit 9), (nat_lit 10), (nat_lit 11)], []⟩,
  ⟨.p (.r (.l (.r (.r (.l (.l (.l .h))))))) none (.fa (nat_lit 0) (.s (.l (.l (.r (.r (.l (.l (.l .h))))))))), (nat_lit 13), [(nat_lit 0), (nat_lit 1), (nat_lit 2), (nat_lit 3), (nat_lit 4), (nat_lit 5), (nat_lit 6), (nat_lit 7), (nat_lit 8), (nat_lit 9), (nat_lit 10), (nat_lit 11), (nat_lit 12)], []⟩,
  ⟨.c none none (.st (nat_lit 1) (.s (.r (.l (.r (.r (.l (.l (.l .h)))))))) (.s (.l (.r (.l (.r (.l (.l (.l .h))))))))), (nat_lit 14), [(nat_lit 0), (nat_lit 1), (nat_lit 2), (nat_lit 3), (nat_lit 4), (nat_lit 5), (nat_lit 6), (nat_lit 7), (nat_lit 8), (nat_lit 9), (nat_lit 10), (nat_lit 11), (nat_lit 12), (nat_lit 13)], []⟩]) .skip))))
 (.reg [.p (.l (.r (.r (.r (.l (.l (.l .h))))))) none (.ar .add (.s (.l (.r (.r (.l (.r (.r .h))))))) (.c (.a (.i .i64 (.n (nat_lit 1)))))),
  .p (.l (.r (.r (.l (.r (.r .h)))))) none (.mv (.s (.l (.r (.r (.r (.l (.l (.l .h)))))))))]))))))))))
 (.reg [.p (.r (.r (.r (.r (.l (.l (.l .h))))))) none (.ar .add (.s (.r (.l (.r (.r (.l (.r .h))))))) (.c (.a (.i .i64 (.n (nat_lit 1)))))),
  .p (.r (.l (.r (.r (.l (.r .h)))))) none (.mv (.s (.r (.r (.r (.r (.l (.l (.l .h)))))))))])))))))
 (.seq (.reg [.r (.l (.l (.l (.l (.r (.l (.l .h))))))) none (.lg (nat_lit 4) (.s (.l (.r (.l .h))))),
  .c none none (.st (nat_lit 4) (.s (.r .h)) (.s (.l (.l (.l (.l (.r (.l (.l .h)))))))))])
 .rt))))))))), false, false⟩
noncomputable def rf23 : RF := ⟨[.h], [.s (.r .h)], (.seq (.reg [.a (.l .h) none (.bx (nat_lit 46) (nat_lit 11) (.s .h)),
  .p (.r .h) none (.mv (.c (.a (.b false))))])
 (.seq (.reg [.p (.l (.l .h)) none (.fa (nat_lit 0) (.s (.l .h))),
  .r (.r (.l .h)) none (.ld (.s (.l (.l .h)))),
  .p (.l (.r .h)) none (.cp .geq (.s (.r (.l .h))) (.c (.a (.i .i64 (.n (nat_lit 1)))))),
  .p (.r (.r .h)) none (.mv (.s (.l (.r .h)))),
  .p (.l (.l (.l .h))) (some ((.r (.r .h)), true)) (.fa (nat_lit 0) (.s (.l .h))),
  .r (.r (.l (.l .h))) (some ((.r (.r .h)), true)) (.ld (.s (.l (.l (.l .h))))),
  .p (.l (.r (.l .h))) (some ((.r (.r .h)), true)) (.cp .leq (.s (.r (.l (.l .h)))) (.c (.a (.i .i64 (.n (nat_lit 15)))))),
  .p (.r (.r (.l .h))) none (.pk (.s (.r (.r .h))) (.s (.l (.r (.l .h)))) (.c (.a (.b false)))),
  .p (.r .h) none (.mv (.s (.r (.r (.l .h)))))])
 .rt)), false, false⟩
noncomputable def rf24 : RF := ⟨[.h], [], (.seq (.reg [.a (.l .h) none (.bx (nat_lit 129) (nat_lit 1) (.s .h))])
 (.seq (.seq (.reg [.r (.l (.r (.r .h))) none (.ld (.s (.l .h))),
  .p (.r (.r (.r .h))) none (.nc (.s (.l (.r (.r .h))))),
  .p (.l (.l (.l (.l .h)))) none (.fa (nat_lit 0) (.s (.r (.r (.r .h))))),
  .p (.r (.l (.l (.l .h)))) none (.fa (nat_lit 1) (.s (.l (.l (.l (.l .h)))))),
  .r (.l (.r (.l (.l .h)))) none (.ld (.s (.r (.l (.l (.l .h)))))),
  .p (.r (.r (.l (.l .h)))) none (.ln (.s (.l (.r (.l (.l .h)))))),
  .p (.l (.l (.r (.l .h)))) none (.mv (.c (.a (.i .i64 (.n (nat_lit 0))))))])
 (.blk (nat_lit 0) (.loop (.seq (.reg [.p (.r (.l (.r (.l .h)))) none (.cp .lss (.s (.l (.l (.r (.l .h))))) (.s (.r (.r (.l (.l .h))))))])
 (.seq (.cond (.s (.r (.l (.r (.l .h))))) .skip (.ex (nat_lit 0)))
 (.seq (.blk (nat_lit 1) (.seq (.reg [.p (.l (.r (.r (.l .h)))) none (.mv (.s (.l (.l (.r (.l .h)))))),
  .p (.r (.r (.r (.l .h)))) none (.ix (nat_lit 10) (.s (.l (.r (.l (.l .h))))) (.s (.l (.l (.r (.l .h)))))),
  .r (.l (.l (.l (.r .h)))) none (.lg (nat_lit 10) (.s (.r (.r (.r (.l .h)))))),
  .a (.l (.l .h)) none (.al (nat_lit 60) (nat_lit 10) (.n (.n (.n (.n .e .s0 .e) (.i .i64 (.n (nat_lit 0))) .e) .s0 (.n (.n .e .s0 .e) .s0 .e)) (.i .i64 (.n (nat_lit 0))) (.n (.n (.n .e (.i .i64 (.n (nat_lit 0))) .e) (.i .i64 (.n (nat_lit 0))) .e) (.i .i64 (.n (nat_lit 0))) (.n .e (.i .i64 (.n (nat_lit 0))) .e)))),
  .p (.r .h) none (.mv (.s (.l (.r (.r (.l .h)))))),
  .c none none (.st (nat_lit 10) (.s (.l (.l .h))) (.s (.l (.l (.l (.r .h))))))])
 (.seq (.reg [.p (.r (.l (.l (.r .h)))) none (.fa (nat_lit 0) (.s (.l (.l .h)))),
  .r (.l (.r (.l (.r .h)))) none (.ld (.s (.r (.l (.l (.r .h)))))),
  .a (.r (.r (.l (.r .h)))) none (.ms (nat_lit 3) (nat_lit 8) [(.i .i64 (.n (nat_lit 0)))] (.s (.l (.r (.l (.r .h)))))),
  .p (.r (.l .h)) none (.mv (.s (.r (.r (.l (.r .h))))))])
 (.seq (.seq (.reg [.p (.l (.l (.r (.r .h)))) none (.mv (.s (.r (.l .h)))),
  .p (.r (.l (.r (.r .h)))) none (.ln (.s (.l (.l (.r (.r .h)))))),
  .p (.l (.r (.r (.r .h)))) none (.mv (.c (.a (.i .i64 (.n (nat_lit 0))))))])
 (.blk (nat_lit 2) (.loop (.seq (.reg [.p (.r (.r (.r (.r .h)))) none (.cp .lss (.s (.l (.r (.r (.r .h))))) (.s (.r (.l (.r (.r .h))))))])
 (.seq (.cond (.s (.r (.r (.r (.r .h))))) .skip (.ex (nat_lit 2)))
 (.seq (.blk (nat_lit 3) (.seq (.reg [.p (.l (.l (.l (.l (.l .h))))) none (.mv (.s (.l (.r (.r (.r .h)))))),
  .p (.l (.r .h)) none (.mv (.s (.l (.l (.l (.l (.l .h)))))))])
 (.seq (.reg [.p (.r (.l (.l (.l (.l .h))))) none (.mv (.s (.r (.l .h)))),
  .p (.l (.r (.l (.l (.l .h))))) none (.mv (.s (.l (.r .h)))),
  .p (.r (.r (.l (.l (.l .h))))) none (.ix (nat_lit 1) (.s (.r (.l (.l (.l (.l .h)))))) (.s (.l (.r (.l (.l (.l .h))))))),
  .c none none (.st (nat_lit 1) (.s (.r (.r (.l (.l (.l .h)))))) (.c (.a (.i .i64 (.g (nat_lit 1))))))])
 (.seq (.reg [.p (.l (.l (.r (.l (.l .h))))) none (.mv (.s (.r .h))),
  .p (.r (.l (.r (.l (.l .h))))) none (.cp .eql (.s (.l (.l (.r (.l (.l .h)))))) (.c (.a (.i .i64 (.n (nat_lit 0))))))])
 (.cond (.s (.r (.l (.r (.l (.l .h)))))) (.reg [.p (.l (.r (.r (.l (.l .h))))) none (.mv (.s (.r (.l .h)))),
  .p (.r (.r (.r (.l (.l .h))))) none (.mv (.s (.l (.r .h)))),
  .p (.l (.l (.l (.r (.l .h))))) none (.mv (.s (.l (.r .h)))),
  .p (.r (.l (.l (.r (.l .h))))) none (.ix (nat_lit 1) (.s (.l (.r (.r (.l (.l .h)))))) (.s (.r (.r (.r (.l (.l .h))))))),
  .c none none (.st (nat_lit 1) (.s (.r (.l (.l (.r (.l .h)))))) (.s (.l (.l (.l (.r (.l .h)))))))]) .skip)))))
 (.reg [.p (.l (.r (.l (.r (.l .h))))) none (.ar .add (.s (.l (.r (.r (.r .h))))) (.c (.a (.i .i64 (.n (nat_lit 1)))))),
  .p (.l (.r (.r (.r .h)))) none (.mv (.s (.l (.r (.l (.r (.l .h)))))))])))))))
 (.drw [⟨.r (.r (.r (.l (.r (.l .h))))) none (.ld (.s (.l .h))), (nat_lit 0), [], []⟩,
  ⟨.r (.l (.l (.r (.r (.l .h))))) none (.ld (.s (.l .h))), (nat_lit 1), [], []⟩,
  ⟨.p (.r (.l (.r (.r (.l .h))))) none (.nc (.s (.l (.l (.r (.r (.l .h))))))), (nat_lit 2), [(nat_lit 1)], []⟩,
  ⟨.p (.l (.r (.r (.r (.l .h))))) none (.fa (nat_lit 5) (.s (.r (.l (.r (.r (.l .h))))))), (nat_lit 3), [(nat_lit 1), (nat_lit 2)], []⟩,
  ⟨.r (.r (.r (.r (.r (.l .h))))) none (.ld (.s (.l (.r (.r (.r (.l .h))))))), (nat_lit 4), [(nat_lit 1), (nat_lit 2), (nat_lit 3)], []⟩,
  ⟨.p (.l (.l (.l (.l (.r .h))))) none (.mv (.s (.r (.l .h)))), (nat_lit 5), [], []⟩,
  ⟨.a (.r (.l (.l (.l (.r .h))))) none (.bs (nat_lit 41) (nat_lit 1) [.s0] [((nat_lit 0), (nat_lit 1), (.s (.l (.l (.l (.l (.r .h)))))))]), (nat_lit 6), [(nat_lit 5)], []⟩,
  ⟨.c (some (.l (.r (.l (.l (.r .h)))))) none (.ap (nat_lit 41) (nat_lit 1) (nat_lit 24) (.s (.r (.r (.r (.r (.l .h)))))) (.s (.r (.l (.l (.l (.r .h))))))), (nat_lit 7), [(nat_lit 1), (nat_lit 2), (nat_lit 3), (nat_lit 4), (nat_lit 5), (nat_lit 6)], [false, false, true]⟩,
  ⟨.p (.r (.r (.l (.l (.r .h))))) none (.nc (.s (.r (.r (.l (.r (.l .h))))))), (nat_lit 8), [(nat_lit 0), (nat_lit 1), (nat_lit 2), (nat_lit 3), (nat_lit 4), (nat_lit 5), (nat_lit 6), (nat_lit 7)], []⟩,
  ⟨.p (.l (.l (.r (.l (.r .h))))) none (.fa (nat_lit 5) (.s (.r (.r (.l (.l (.r .h))))))), (nat_lit 9), [(nat_lit 0), (nat_lit 1), (nat_lit 2), (nat_lit 3), (nat_lit 4), (nat_lit 5), (nat_lit 6), (nat_lit 7), (nat_lit 8)], []⟩,
  ⟨.c none none (.st (nat_lit 1) (.s (.l (.l (.r (.l (.r .h)))))) (.s (.l (.r (.l (.l (.r .h))))))), (nat_lit 10), [(nat_lit 0), (nat_lit 1), (nat_lit 2), (nat_lit 3), (nat_lit 4), (nat_lit 5), (nat_lit 6), (nat_lit 7), (nat_lit 8), (nat_lit 9)], []⟩])))))
 (.reg [.p (.r (.l (.r (.l (.r .h))))) none (.ar .add (.s (.l (.l (.r (.l .h))))) (.c (.a (.i .i64 (.n (nat_lit 1)))))),
  .p (.l (.l (.r (.l .h)))) none (.mv (.s (.r (.l (.r (.l (.r .h)))))))])))))))
 (.seq (.seq (.reg [.r (.l (.r (.r (.l (.r .h))))) none (.ld (.s (.l .h))),
  .p (.r (.r (.r (.l (.r .h))))) none (.nc (.s (.l (.r (.r (.l (.r .h))))))),
  .p (.l (.l (.l (.r (.r .h))))) none (.fa (nat_lit 0) (.s (.r (.r (.r (.l (.r .h))))))),
  .r (.r (.l (.l (.r (.r .h))))) none (.lg (nat_lit 4) (.s (.l (.l (.l (.r (.r .h))))))),
  .k (some (.l (.r (.l (.r (.r .h)))))) none (nat_lit 46) (.r (.r (.r (.r (.l .h))))) [(.s (.r (.l (.l (.r (.r .h))))))]])
 (.blk (nat_lit 4) (.rf (.s (.l (.r (.l (.r (.r .h)))))) [(.r (.r (.l (.r (.r .h)))))] (.l .h))))
 (.seq (.reg [.a (.l (.l (.l .h))) none (.al (nat_lit 4) (nat_lit 1) (.n .e (.b false) .e)),
  .c none none (.st (nat_lit 1) (.s (.l (.l (.l .h)))) (.c (.a (.b true))))])
 (.blk (nat_lit 6) (.loop (.seq (.seq (.reg [.r (.r (.l (.l (.r (.l (.l .h)))))) none (.ld (.s (.l (.l (.l .h)))))])
 (.cond (.s (.r (.l (.l (.r (.l (.l .h))))))) .skip (.ex (nat_lit 6))))
 (.seq (.blk (nat_lit 7) (.seq (.reg [.c none none (.st (nat_lit 1) (.s (.l (.l (.l .h)))) (.c (.a (.b false))))])
 (.seq (.reg [.r (.l (.r (.l (.r (.l (.l .h)))))) none (.ld (.s (.l .h))),
  .p (.r (.r (.l (.r (.l (.l .h)))))) none (.nc (.s (.l (.r (.l (.r (.l (.l .h)))))))),
  .p (.l (.l (.r (.r (.l (.l .h)))))) none (.fa (nat_lit 0) (.s (.r (.r (.l (.r (.l (.l .h)))))))),
  .r (.r (.l (.r (.r (.l (.l .h)))))) none (.lg (nat_lit 4) (.s (.l (.l (.r (.r (.l (.l .h)))))))),
  .k (some (.l (.r (.r (.r (.l (.l .h))))))) none (nat_lit 46) (.r (.r (.r (.r (.l .h))))) [(.s (.r (.l (.r (.r (.l (.l .h)))))))]])
 (.blk (nat_lit 8) (.rf (.s (.l (.r (.r (.r (.l (.l .h))))))) [(.r (.r (.r (.r (.l (.l .h))))))] (.r .h))))))
 (.seq (.reg [.r (.l (.l (.r (.l (.l (.l (.l .h))))))) none (.ld (.s (.l (.l (.l .h)))))])
 (.reg [.a (.l (.l (.l .h))) none (.al (nat_lit 4) (nat_lit 1) (.n .e (.b false) .e)),
  .c none none (.st (nat_lit 1) (.s (.l (.l (.l .h)))) (.s (.l (.l (.r (.l (.l (.l (.l .h)))))))))])))))))))), false, false⟩
noncomputable def rf25 : RF := ⟨[.h], [], (.seq (.reg [.a (.l .h) none (.bx (nat_lit 129) (nat_lit 1) (.s .h))])
 (.seq (.reg [.a (.r .h) none (.al (nat_lit 137) (nat_lit 1) (.n .e .s0 .e))])
 (.seq (.reg [.p (.l (.l (.l (.l .h)))) none (.mf (nat_lit 48) [(.s (.l .h)), (.s (.r .h))]),
  .a (.l (.l .h)) none (.al (nat_lit 138) (nat_lit 1) (.n .e .f0 .e)),
  .c none none (.st (nat_lit 1) (.s (.l (.l .h))) (.s (.l (.l (.l (.l .h))))))])
 (.seq (.seq (.reg [.r (.r (.l (.l (.l .h)))) none (.ld (.s (.l .h))),
  .p (.l (.r (.l (.l .h)))) none (.nc (.s (.r (.l (.l (.l .h)))))),
  .p (.r (.r (.l (.l .h)))) none (.fa (nat_lit 0) (.s (.l (.r (.l (.l .h)))))),
  .p (.l (.l (.r (.l .h)))) none (.fa (nat_lit 0) (.s (.r (.r (.l (.l .h)))))),
  .r (.r (.l (.r (.l .h)))) none (.ld (.s (.l (.l (.r (.l .h)))))),
  .p (.l (.r (.r (.l .h)))) none (.mv (.c (.a (.i .i64 (.n (nat_lit 0))))))])
 (.blk (nat_lit 0) (.loop (.seq (.reg [.p (.r (.r (.r (.l .h)))) none (.cp .lss (.s (.l (.r (.r (.l .h))))) (.s (.r (.l (.r (.l .h))))))])
 (.seq (.cond (.s (.r (.r (.r (.l .h))))) .skip (.ex (nat_lit 0)))
 (.seq (.blk (nat_lit 1) (.seq (.reg [.p (.l (.l (.l (.r .h)))) none (.mv (.s (.l (.r (.r (.l .h)))))),
  .p (.r (.l .h)) none (.mv (.s (.l (.l (.l (.r .h))))))])
 (.reg [.r (.r (.l (.l (.r .h)))) none (.ld (.s (.l (.l .h)))),
  .p (.l (.r (.l (.r .h)))) none (.mv (.s (.r (.l .h)))),
  .a (.r (.r (.l (.r .h)))) none (.bs (nat_lit 3) (nat_lit 1) [(.i .i64 (.n (nat_lit 0)))] [((nat_lit 0), (nat_lit 1), (.s (.l (.r (.l (.r .h))))))]),
  .v (some (.l (.l (.r (.r .h))))) none (.s (.r (.l (.l (.r .h))))) [(.c (.a (.i .i64 (.n (nat_lit 0))))), (.s (.r (.r (.l (.r .h)))))]])))
 (.reg [.p (.r (.l (.r (.r .h)))) none (.ar .add (.s (.l (.r (.r (.l .h))))) (.c (.a (.i .i64 (.n (nat_lit 1)))))),
  .p (.l (.r (.r (.l .h)))) none (.mv (.s (.r (.l (.r (.r .h))))))])))))))
 (.seq (.reg [.r (.l (.r (.r (.r .h)))) none (.ld (.s (.l .h))),
  .p (.r (.r (.r (.r .h)))) none (.nc (.s (.l (.r (.r (.r .h)))))),
  .p (.l (.l (.l (.l (.l .h))))) none (.fa (nat_lit 0) (.s (.r (.r (.r (.r .h)))))),
  .p (.r (.l (.l (.l (.l .h))))) none (.fa (nat_lit 1) (.s (.l (.l (.l (.l (.l .h))))))),
  .r (.l (.r (.l (.l (.l .h))))) none (.ld (.s (.r (.l (.l (.l (.l .h))))))),
  .p (.r (.r (.l (.l (.l .h))))) none (.ln (.s (.l (.r (.l (.l (.l .h))))))),
  .a (.l (.l (.r (.l (.l .h))))) none (.ms (nat_lit 140) (nat_lit 24) [.s0] (.s (.r (.r (.l (.l (.l .h))))))),
  .a (.l (.r .h)) none (.al (nat_lit 139) (nat_lit 1) (.n .e .s0 .e)),
  .c none none (.st (nat_lit 1) (.s (.l (.r .h))) (.s (.l (.l (.r (.l (.l .h)))))))])
 (.seq (.seq (.reg [.r (.r (.l (.r (.l (.l .h))))) none (.ld (.s (.l .h))),
  .p (.l (.r (.r (.l (.l .h))))) none (.nc (.s (.r (.l (.r (.l (.l .h))))))),
  .p (.r (.r (.r (.l (.l .h))))) none (.fa (nat_lit 0) (.s (.l (.r (.r (.l (.l .h))))))),
  .r (.l (.l (.l (.r (.l .h))))) none (.lg (nat_lit 4) (.s (.r (.r (.r (.l (.l .h))))))),
  .k (some (.r (.l (.l (.r (.l .h)))))) none (nat_lit 46) (.r (.r (.r (.r (.l .h))))) [(.s (.l (.l (.l (.r (.l .h))))))]])
 (.blk (nat_lit 2) (.rf (.s (.r (.l (.l (.r (.l .h)))))) [(.l (.r (.l (.r (.l .h)))))] .h)))
 (.seq (.seq (.reg [.r (.l (.r (.l (.l (.l (.l .h)))))) none (.ld (.s (.l .h))),
  .p (.r (.r (.l (.l (.l (.l .h)))))) none (.nc (.s (.l (.r (.l (.l (.l (.l .h)))))))),
  .p (.l (.l (.r (.l (.l (.l .h)))))) none (.fa (nat_lit 0) (.s (.r (.r (.l (.l (.l (.l .h)))))))),
  .p (.r (.l (.r (.l (.l (.l .h)))))) none (.fa (nat_lit 1) (.s (.l (.l (.r (.l (.l (.l .h)))))))),
  .r (.l (.r (.r (.l (.l (.l .h)))))) none (.ld (.s (.r (.l (.r (.l (.l (.l .h)))))))),
  .p (.r (.r (.r (.l (.l (.l .h)))))) none (.ln (.s (.l (.r (.r (.l (.l (.l .h)))))))),
  .p (.l (.l (.l (.r (.l (.l .h)))))) none (.mv (.c (.a (.i .i64 (.n (nat_lit 0))))))])
 (.blk (nat_lit 4) (.loop (.seq (.reg [.p (.r (.l (.l (.r (.l (.l .h)))))) none (.cp .lss (.s (.l (.l (.l (.r (.l (.l .h))))))) (.s (.r (.r (.r (.l (.l (.l .h))))))))])
 (.seq (.cond (.s (.r (.l (.l (.r (.l (.l .h))))))) .skip (.ex (nat_lit 4)))
 (.seq (.blk (nat_lit 5) (.seq (.reg [.p (.l (.r (.l (.r (.l (.l .h)))))) none (.mv (.s (.l (.l (.l (.r (.l (.l .h)))))))),
  .p (.r (.r (.l (.r (.l (.l .h)))))) none (.ix (nat_lit 10) (.s (.l (.r (.r (.l (.l (.l .h))))))) (.s (.l (.l (.l (.r (.l (.l .h)))))))),
  .r (.l (.l (.r (.r (.l (.l .h)))))) none (.lg (nat_lit 10) (.s (.r (.r (.l (.r (.l (.l .h)))))))),
  .a (.r (.l (.l .h))) none (.al (nat_lit 60) (nat_lit 10) (.n (.n (.n (.n .e .s0 .e) (.i .i64 (.n (nat_lit 0))) .e) .s0 (.n (.n .e .s0 .e) .s0 .e)) (.i .i64 (.n (nat_lit 0))) (.n (.n (.n .e (.i .i64 (.n (nat_lit 0))) .e) (.i .i64 (.n (nat_lit 0))) .e) (.i .i64 (.n (nat_lit 0))) (.n .e (.i .i64 (.n (nat_lit 0))) .e)))),
  .p (.l (.l (.l .h))) none (.mv (.s (.l (.r (.l (.r (.l (.l .h)))))))),
  .c none none (.st (nat_lit 10) (.s (.r (.l (.l .h)))) (.s (.l (.l (.r (.r (.l (.l .h))))))))])
 (.seq (.seq (.reg [.p (.r (.l (.r (.r (.l (.l .h)))))) none (.fa (nat_lit 1) (.s (.r (.l (.l .h))))),
  .r (.l (.r (.r (.r (.l (.l .h)))))) none (.ld (.s (.r (.l (.r (.r (.l (.l .h)))))))),
  .p (.r (.r (.r (.r (.l (.l .h)))))) none (.ln (.s (.l (.r (.r (.r (.l (.l .h)))))))),
  .p (.l (.l (.l (.l (.r (.l .h)))))) none (.mv (.c (.a (.i .i64 (.n (nat_lit 0))))))])
 (.blk (nat_lit 6) (.loop (.seq (.reg [.p (.r (.l (.l (.l (.r (.l .h)))))) none (.cp .lss (.s (.l (.l (.l (.l (.r (.l .h))))))) (.s (.r (.r (.r (.r (.l (.l .h))))))))])
 (.seq (.cond (.s (.r (.l (.l (.l (.r (.l .h))))))) .skip (.ex (nat_lit 6)))
 (.seq (.blk (nat_lit 7) (.seq (.reg [.p (.l (.r (.l (.l (.r (.l .h)))))) none (.ix (nat_lit 11) (.s (.l (.r (.r (.r (.l (.l .h))))))) (.s (.l (.l (.l (.l (.r (.l .h)))))))),
  .r (.r (.r (.l (.l (.r (.l .h)))))) none (.lg (nat_lit 11) (.s (.l (.r (.l (.l (.r (.l .h)))))))),
  .a (.r (.r (.l .h))) none (.al (nat_lit 46) (nat_lit 11) (.n (.n (.n (.n .e (.i .i64 (.n (nat_lit 0))) .e) (.i .i64 (.n (nat_lit 0))) .e) (.i .i64 (.n (nat_lit 0))) (.n (.n .e (.i .i64 (.n (nat_lit 0))) .e) (.i .i64 (.n (nat_lit 0))) .e)) (.i .i64 (.n (nat_lit 0))) (.n (.n (.n .e (.i .i64 (.n (nat_lit 0))) .e) (.i .i64 (.n (nat_lit 0))) .e) (.i .i64 (.n (nat_lit 0))) (.n (.n .e (.i .i64 (.n (nat_lit 0))) .e) (.i .i64 (.n (nat_lit 0))) .e)))),
  .c none none (.st (nat_lit 11) (.s (.r (.r (.l .h)))) (.s (.r (.r (.l (.l (.r (.l .h))))))))])
 (.seq (.reg [.p (.l (.l (.r (.l (.r (.l .h)))))) none (.fa (nat_lit 0) (.s (.r (.r (.l .h))))),
  .r (.r (.l (.r (.l (.r (.l .h)))))) none (.ld (.s (.l (.l (.r (.l (.r (.l .h)))))))),
  .p (.l (.r (.r (.l (.r (.l .h)))))) none (.cp .eql (.s (.r (.l (.r (.l (.r (.l .h))))))) (.c (.a (.i .i64 (.n (nat_lit 16)))))),
  .p (.r (.r (.r (.l (.r (.l .h)))))) none (.mv (.s (.l (.r (.r (.l (.r (.l .h)))))))),
  .p (.l (.l (.l (.r (.r (.l .h)))))) (some ((.r (.r (.r (.l (.r (.l .h)))))), false)) (.fa (nat_lit 0) (.s (.r (.r (.l .h))))),
  .r (.r (.l (.l (.r (.r (.l .h)))))) (some ((.r (.r (.r (.l (.r (.l .h)))))), false)) (.ld (.s (.l (.l (.l (.r (.r (.l .h)))))))),
  .p (.l (.r (.l (.r (.r (.l .h)))))) (some ((.r (.r (.r (.l (.r (.l .h)))))), false)) (.cp .eql (.s (.r (.l (.l (.r (.r (.l .h))))))) (.c (.a (.i .i64 (.n (nat_lit 18)))))),
  .p (.r (.r (.l (.r (.r (.l .h)))))) none (.pk (.s (.r (.r (.r (.l (.r (.l .h))))))) (.c (.a (.b true))) (.s (.l (.r (.l (.r (.r (.l .h))))))))])
 (.cond (.s (.r (.r (.l (.r (.r (.l .h))))))) (.drw [⟨.r (.l (.l (.r (.r (.r (.l .h)))))) none (.ld (.s (.l (.l .h)))), (nat_lit 0), [], []⟩,
  ⟨.p (.r (.l (.r (.r (.r (.l .h)))))) none (.mv (.s (.l (.l (.l .h))))), (nat_lit 1), [], []⟩,
  ⟨.r (.l (.r (.r (.r (.r (.l .h)))))) none (.lg (nat_lit 11) (.s (.r (.r (.l .h))))), (nat_lit 2), [], []⟩,
  ⟨.k (some (.r (.r (.r (.r (.r (.l .h))))))) none (nat_lit 49) (.l (.r (.l (.l (.r .h))))) [(.s (.l (.r (.r (.r (.r (.l .h)))))))], (nat_lit 3), [(nat_lit 2)], [false, true]⟩,
  ⟨.v (some (.l (.l (.l (.l (.l (.r .h))))))) none (.s (.l (.l (.r (.r (.r (.l .h))))))) [(.s (.r (.l (.r (.r (.r (.l .h))))))), (.s (.r (.r (.r (.r (.r (.l .h)))))))], (nat_lit 4), [(nat_lit 0), (nat_lit 1), (nat_lit 2), (nat_lit 3)], []⟩]) .skip))))
 (.reg [.p (.r (.l (.l (.l (.l (.r .h)))))) none (.ar .add (.s (.l (.l (.l (.l (.r (.l .h))))))) (.c (.a (.i .i64 (.n (nat_lit 1)))))),
  .p (.l (.l (.l (.l (.r (.l .h)))))) none (.mv (.s (.r (.l (.l (.l (.l (.r .h))))))))])))))))
 (.seq (.reg [.r (.l (.r (.l (.l (.l (.r .h)))))) none (.ld (.s (.l (.l .h)))),
  .p (.r (.r (.l (.l (.l (.r .h)))))) none (.mv (.s (.l (.l (.l .h))))),
  .p (.l (.l (.r (.l (.l (.r .h)))))) none (.fa (nat_lit 2) (.s (.r (.l (.l .h))))),
  .p (.r (.l (.r (.l (.l (.r .h)))))) none (.fa (nat_lit 3) (.s (.l (.l (.r (.l (.l (.r .h)))))))),
  .r (.l (.r (.r (.l (.l (.r .h)))))) none (.ld (.s (.r (.l (.r (.l (.l (.r .h)))))))),
  .v (some (.r (.r (.r (.l (.l (.r .h))))))) none (.s (.l (.r (.l (.l (.l (.r .h))))))) [(.s (.r (.r (.l (.l (.l (.r .h))))))), (.s (.l (.r (.r (.l (.l (.r .h)))))))]])
 (.seq (.reg [.p (.l (.l (.l (.r (.l (.r .h)))))) none (.fa (nat_lit 2) (.s (.r (.l (.l .h))))),
  .r (.r (.l (.l (.r (.l (.r .h)))))) none (.lg (nat_lit 8) (.s (.l (.l (.l (.r (.l (.r .h)))))))),
  .k (some (.l (.r (.l (.r (.l (.r .h))))))) none (nat_lit 50) (.r (.r (.l (.l (.r .h))))) [(.s (.r (.l (.l (.r (.l (.r .h)))))))]])
 (.cond (.s (.l (.r (.l (.r (.l (.r .h))))))) (.reg [.r (.r (.r (.l (.r (.l (.r .h)))))) none (.ld (.s (.l (.l .h)))),
  .p (.l (.l (.r (.r (.l (.r .h)))))) none (.mv (.s (.l (.l (.l .h))))),
  .p (.r (.l (.r (.r (.l (.r .h)))))) none (.fa (nat_lit 2) (.s (.r (.l (.l .h))))),
  .p (.l (.r (.r (.r (.l (.r .h)))))) none (.fa (nat_lit 1) (.s (.r (.l (.r (.r (.l (.r .h)))))))),
  .r (.r (.r (.r (.r (.l (.r .h)))))) none (.ld (.s (.l (.r (.r (.r (.l (.r .h)))))))),
  .a (.l (.l (.l (.l (.r (.r .h)))))) none (.bs (nat_lit 3) (nat_lit 1) [(.i .i64 (.n (nat_lit 0)))] [((nat_lit 0), (nat_lit 1), (.s (.r (.r (.r (.r (.l (.r .h))))))))]),
  .v (some (.r (.l (.l (.l (.r (.r .h))))))) none (.s (.r (.r (.l (.r (.l (.r .h))))))) [(.s (.l (.l (.r (.r (.l (.r .h))))))), (.s (.l (.l (.l (.l (.r (.r .h)))))))]]) .skip))))))
 (.reg [.p (.l (.r (.l (.l (.r (.r .h)))))) none (.ar .add (.s (.l (.l (.l (.r (.l (.l .h))))))) (.c (.a (.i .i64 (.n (nat_lit 1)))))),
  .p (.l (.l (.l (.r (.l (.l .h)))))) none (.mv (.s (.l (.r (.l (.l (.r (.r .h))))))))])))))))
 (.blk (nat_lit 8) (.loop (.seq (.seq (.reg [.r (.r (.r (.l (.l (.r (.r .h)))))) none (.ld (.s (.r .h))),
  .p (.l (.l (.r (.l (.r (.r .h)))))) none (.ln (.s (.r (.r (.l (.l (.r (.r .h)))))))),
  .p (.r (.l (.r (.l (.r (.r .h)))))) none (.cp .gtr (.s (.l (.l (.r (.l (.r (.r .h))))))) (.c (.a (.i .i64 (.n (nat_lit 0))))))])
 (.cond (.s (.r (.l (.r (.l (.r (.r .h))))))) .skip (.ex (nat_lit 8))))
 (.blk (nat_lit 9) (.seq (.reg [.r (.l (.r (.r (.l (.r (.r .h)))))) none (.ld (.s (.r .h))),
  .r (.r (.r (.r (.l (.r (.r .h)))))) none (.ld (.s (.r .h))),
  .p (.l (.l (.l (.r (.r (.r .h)))))) none (.ln (.s (.r (.r (.r (.l (.r (.r .h)))))))),
  .p (.r (.l (.l (.r (.r (.r .h)))))) none (.ar .sub (.s (.l (.l (.l (.r (.r (.r .h))))))) (.c (.a (.i .i64 (.n (nat_lit 1)))))),
  .p (.l (.r (.l (.r (.r (.r .h)))))) none (.ix (nat_lit 2) (.s (.l (.r (.r (.l (.r (.r .h))))))) (.s (.r (.l (.l (.r (.r (.r .h)))))))),
  .r (.r (.r (.l (.r (.r (.r .h)))))) none (.lg (nat_lit 2) (.s (.l (.r (.l (.r (.r (.r .h)))))))),
  .a (.l (.l (.r .h))) none (.al (nat_lit 91) (nat_lit 2) (.n (.n .e (.i .i64 (.n (nat_lit 0))) .e) (.i .i64 (.n (nat_lit 0))) .e)),
  .c none none (.st (nat_lit 2) (.s (.l (.l (.r .h)))) (.s (.r (.r (.l (.r (.r (.r .h))))))))])
 (.seq (.reg [.r (.l (.l (.r (.r (.r (.r .h)))))) none (.ld (.s (.r .h))),
  .r (.r (.l (.r (.r (.r (.r .h)))))) none (.ld (.s (.r .h))),
  .p (.l (.r (.r (.r (.r (.r .h)))))) none (.ln (.s (.r (.l (.r (.r (.r (.r .h)))))))),
  .p (.r (.r (.r (.r (.r (.r .h)))))) none (.ar .sub (.s (.l (.r (.r (.r (.r (.r .h))))))) (.c (.a (.i .i64 (.n (nat_lit 1)))))),
  .p (.l (.l (.l (.l (.l (.l (.l .h))))))) none (.sl (.s (.l (.l (.r (.r (.r (.r .h))))))) (.s (.r (.r (.r (.r (.r (.r .h)))))))),
  .c none none (.st (nat_lit 1) (.s (.r .h)) (.s (.l (.l (.l (.l (.l (.l (.l .h)))))))))])
 (.seq (.seq (.drw [⟨.p (.r (.l (.l (.l (.l (.l (.l .h))))))) none (.fa (nat_lit 1) (.s (.l (.l (.r .h))))), (nat_lit 0), [], []⟩,
  ⟨.r (.l (.r (.l (.l (.l (.l (.l .h))))))) none (.ld (.s (.r (.l (.l (.l (.l (.l (.l .h))))))))), (nat_lit 1), [(nat_lit 0)], []⟩,
  ⟨.r (.r (.r (.l (.l (.l (.l (.l .h))))))) none (.ld (.s (.l .h))), (nat_lit 2), [], []⟩,
  ⟨.p (.l (.l (.r (.l (.l (.l (.l .h))))))) none (.nc (.s (.r (.r (.l (.l (.l (.l (.l .h))))))))), (nat_lit 3), [(nat_lit 2)], []⟩,
  ⟨.p (.r (.l (.r (.l (.l (.l (.l .h))))))) none (.fa (nat_lit 0) (.s (.l (.l (.r (.l (.l (.l (.l .h))))))))), (nat_lit 4), [(nat_lit 2), (nat_lit 3)], []⟩,
  ⟨.p (.l (.r (.r (.l (.l (.l (.l .h))))))) none (.fa (nat_lit 1) (.s (.r (.l (.r (.l (.l (.l (.l .h))))))))), (nat_lit 5), [(nat_lit 2), (nat_lit 3), (nat_lit 4)], []⟩,
  ⟨.r (.r (.r (.r (.l (.l (.l (.l .h))))))) none (.ld (.s (.l (.r (.r (.l (.l (.l (.l .h))))))))), (nat_lit 6), [(nat_lit 2), (nat_lit 3), (nat_lit 4), (nat_lit 5)], []⟩,
  ⟨.p (.l (.l (.l (.r (.l (.l (.l .h))))))) none (.fa (nat_lit 0) (.s (.l (.l (.r .h))))), (nat_lit 7), [], []⟩,
  ⟨.r (.r (.l (.l (.r (.l (.l (.l .h))))))) none (.ld (.s (.l (.l (.l (.r (.l (.l (.l .h))))))))), (nat_lit 8), [(nat_lit 7)], []⟩,
  ⟨.p (.l (.r (.l (.r (.l (.l (.l .h))))))) none (.ix (nat_lit 10) (.s (.r (.r (.r (.l (.l (.l (.l .h)))))))) (.s (.r (.l (.l (.r (.l (.l (.l .h))))))))), (nat_lit 9), [(nat_lit 2), (nat_lit 3), (nat_lit 4), (nat_lit 5), (nat_lit 6), (nat_lit 7), (nat_lit 8)], []⟩,
  ⟨.p (.r (.r (.l (.r (.l (.l (.l .h))))))) none (.fa (nat_lit 0) (.s (.l (.r (.l (.r (.l (.l (.l .h))))))))), (nat_lit 10), [(nat_lit 2), (nat_lit 3), (nat_lit 4), (nat_lit 5), (nat_lit 6), (nat_lit 7), (nat_lit 8), (nat_lit 9)], []⟩,
  ⟨.r (.l (.l (.r (.r (.l (.l (.l .h))))))) none (.ld (.s (.r (.r (.l (.r (.l (.l (.l .h))))))))), (nat_lit 11), [(nat_lit 2), (nat_lit 3), (nat_lit 4), (nat_lit 5), (nat_lit 6), (nat_lit 7), (nat_lit 8), (nat_lit 9), (nat_lit 10)], []⟩,
  ⟨.p (.r (.l (.r (.r (.l (.l (.l .h))))))) none (.cp .geq (.s (.l (.r (.l (.l (.l (.l (.l .h)))))))) (.s (.l (.l (.r (.r (.l (.l (.l .h))))))))), (nat_lit 12), [(nat_lit 0), (nat_lit 1), (nat_lit 2), (nat_lit 3), (nat_lit 4), (nat_lit 5), (nat_lit 6), (nat_lit 7), (nat_lit 8), (nat_lit 9), (nat_lit 10), (nat_lit 11)], []⟩])
 (.cond (.s (.r (.l (.r (.r (.l (.l (.l .h)))))))) (.seq (.drw [⟨.r (.l (.r (.r (.r (.l (.l (.l .h))))))) none (.ld (.s (.l (.l .h)))), (nat_lit 0), [], []⟩,
  ⟨.p (.r (.r (.r (.r (.l (.l (.l .h))))))) none (.fa (nat_lit 0) (.s (.l (.l (.r .h))))), (nat_lit 1), [], []⟩,
  ⟨.r (.l (.l (.l (.l (.r (.l (.l .h))))))) none (.ld (.s (.r (.r (.r (.r (.l (.l (.l .h))))))))), (nat_lit 2), [(nat_lit 1)], []⟩,
  ⟨.r (.r (.l (.l (.l (.r (.l (.l .h))))))) none (.ld (.s (.l .h))), (nat_lit 3), [], []⟩,
  ⟨.p (.l (.r (.l (.l (.r (.l (.l .h))))))) none (.nc (.s (.r (.l (.l (.l (.r (.l (.l .h))))))))), (nat_lit 4), [(nat_lit 3)], []⟩,
  ⟨.p (.r (.r (.l (.l (.r (.l (.l .h))))))) none (.fa (nat_lit 4) (.s (.l (.r (.l (.l (.r (.l (.l .h))))))))), (nat_lit 5), [(nat_lit 3), (nat_lit 4)], []⟩,
  ⟨.r (.l (.l (.r (.l (.r (.l (.l .h))))))) none (.ld (.s (.r (.r (.l (.l (.r (.l (.l .h))))))))), (nat_lit 6), [(nat_lit 3), (nat_lit 4), (nat_lit 5)], []⟩,
  ⟨.r (.r (.l (.r (.l (.r (.l (.l .h))))))) none (.lg (nat_lit 2) (.s (.l (.l (.r .h))))), (nat_lit 7), [], []⟩,
  ⟨.r (.l (.r (.r (.l (.r (.l (.l .h))))))) none (.lk false true [(nat_lit 0), (nat_lit 0)] (.g [(.i .i64 (.n (nat_lit 0))), (.i .i64 (.n (nat_lit 0))), (.i .i64 (.n (nat_lit 0))), (.i .i64 (.n (nat_lit 0))), (.i .i64 (.n (nat_lit 0))), (.i .i64 (.n (nat_lit 0))), (.i .i64 (.n (nat_lit 0))), (.i .i64 (.n (nat_lit 0))), (.i .i64 (.n (nat_lit 0))), (.i .i64 (.n (nat_lit 0))), (.i .i64 (.n (nat_lit 0)))]) (.s (.l (.l (.r (.l (.r (.l (.l .h)))))))) (.s (.r (.l (.r (.l (.r (.l (.l .h))))))))), (nat_lit 8), [(nat_lit 3), (nat_lit 4), (nat_lit 5), (nat_lit 6), (nat_lit 7)], []⟩,
  ⟨.k (some (.r (.r (.r (.l (.r (.l (.l .h)))))))) none (nat_lit 49) (.l (.r (.l (.l (.r .h))))) [(.s (.l (.r (.r (.l (.r (.l (.l .h))))))))], (nat_lit 9), [(nat_lit 3), (nat_lit 4), (nat_lit 5), (nat_lit 6), (nat_lit 7), (nat_lit 8)], [false, false, false, false, true, true]⟩,
  ⟨.v (some (.l (.l (.l (.r (.r (.l (.l .h)))))))) none (.s (.l (.r (.r (.r (.l (.l (.l .h)))))))) [(.s (.l (.l (.l (.l (.r (.l (.l .h)))))))), (.s (.r (.r (.r (.l (.r (.l (.l .h))))))))], (nat_lit 10), [(nat_lit 0), (nat_lit 1), (nat_lit 2), (nat_lit 3), (nat_lit 4), (nat_lit 5), (nat_lit 6), (nat_lit 7), (nat_lit 8), (nat_lit 9)], []⟩])
 (.ex (nat_lit 9))) .skip))
 (.seq (.reg [.r (.r (.l (.l (.r (.r (.l (.l .h))))))) none (.ld (.s (.l (.r .h)))),
  .p (.l (.r (.l (.r (.r (.l (.l .h))))))) none (.fa (nat_lit 0) (.s (.l (.l (.r .h))))),
  .r (.r (.r (.l (.r (.r (.l (.l .h))))))) none (.ld (.s (.l (.r (.l (.r (.r (.l (.l .h))))))))),
  .p (.l (.l (.r (.r (.r (.l (.l .h))))))) none (.ix (nat_lit 1) (.s (.r (.l (.l (.r (.r (.l (.l .h)))))))) (.s (.r (.r (.l (.r (.r (.l (.l .h))))))))),
  .r (.r (.l (.r (.r (.r (.l (.l .h))))))) none (.ld (.s (.l (.l (.r (.r (.r (.l (.l .h))))))))),
  .p (.l (.r (.r (.r (.r (.l (.l .h))))))) none (.ln (.s (.r (.l (.r (.r (.r (.l (.l .h))))))))),
  .p (.r (.r (.r (.r (.r (.l (.l .h))))))) none (.mv (.c (.a (.i .i64 (.n (nat_lit 0))))))])
 (.blk (nat_lit 10) (.loop (.seq (.reg [.p (.l (.l (.l (.l (.l (.r (.l .h))))))) none (.cp .lss (.s (.r (.r (.r (.r (.r (.l (.l .h)))))))) (.s (.l (.r (.r (.r (.r (.l (.l .h)))))))))])
 (.seq (.cond (.s (.l (.l (.l (.l (.l (.r (.l .h)))))))) .skip (.ex (nat_lit 10)))
 (.seq (.blk (nat_lit 11) (.seq (.reg [.p (.r (.l (.l (.l (.l (.r (.l .h))))))) none (.ix (nat_lit 4) (.s (.r (.l (.r (.r (.r (.l (.l .h)))))))) (.s (.r (.r (.r (.r (.r (.l (.l .h))))))))),
  .r (.l (.r (.l (.l (.l (.r (.l .h))))))) none (.lg (nat_lit 4) (.s (.r (.l (.l (.l (.l (.r (.l .h))))))))),
  .a (.l (.r (.r .h))) none (.al (nat_lit 134) (nat_lit 4) (.n (.n (.n .e .s0 .e) (.i .i64 (.n (nat_lit 0))) .e) (.i .i64 (.n (nat_lit 0))) (.n .e (.i .i64 (.n (nat_lit 0))) .e))),
  .c none none (.st (nat_lit 4) (.s (.l (.r (.r .h)))) (.s (.l (.r (.l (.l (.l (.r (.l .h)))))))))])
 (.seq (.reg [.p (.r (.r (.l (.l (.l (.r (.l .h))))))) none (.fa (nat_lit 1) (.s (.l (.l (.r .h))))),
  .r (.l (.l (.r (.l (.l (.r (.l .h))))))) none (.ld (.s (.r (.r (.l (.l (.l (.r (.l .h))))))))),
  .p (.r (.l (.r (.l (.l (.r (.l .h))))))) none (.fa (nat_lit 1) (.s (.l (.r (.r .h))))),
  .r (.l (.r (.r (.l (.l (.r (.l .h))))))) none (.ld (.s (.r (.l (.r (.l (.l (.r (.l .h))))))))),
  .p (.r (.r (.r (.l (.l (.r (.l .h))))))) none (.ar .sub (.s (.l (.l (.r (.l (.l (.r (.l .h)))))))) (.s (.l (.r (.r (.l (.l (.r (.l .h))))))))),
  .p (.r (.r (.r .h))) none (.mv (.s (.r (.r (.r (.l (.l (.r (.l .h)))))))))])
 (.seq (.reg [.p (.l (.l (.l (.r (.l (.r (.l .h))))))) none (.mv (.s (.r (.r (.r .h))))),
  .p (.r (.l (.l (.r (.l (.r (.l .h))))))) none (.cp .geq (.s (.l (.l (.l (.r (.l (.r (.l .h)))))))) (.c (.a (.i .i64 (.n (nat_lit 0))))))])
 (.cond (.s (.r (.l (.l (.r (.l (.r (.l .h)))))))) (.drw [⟨.r (.l (.r (.l (.r (.l (.r (.l .h))))))) none (.ld (.s (.l (.l .h)))), (nat_lit 0), [], []⟩,
  ⟨.p (.r (.r (.l (.r (.l (.r (.l .h))))))) none (.fa (nat_lit 0) (.s (.l (.r (.r .h))))), (nat_lit 1), [], []⟩,
  ⟨.r (.l (.l (.r (.r (.l (.r (.l .h))))))) none (.ld (.s (.r (.r (.l (.r (.l (.r (.l .h))))))))), (nat_lit 2), [(nat_lit 1)], []⟩,
  ⟨.p (.r (.l (.r (.r (.l (.r (.l .h))))))) none (.fa (nat_lit 2) (.s (.l (.r (.r .h))))), (nat_lit 3), [], []⟩,
  ⟨.p (.l (.r (.r (.r (.l (.r (.l .h))))))) none (.fa (nat_lit 1) (.s (.r (.l (.r (.r (.l (.r (.l .h))))))))), (nat_lit 4), [(nat_lit 3)], []⟩,
  ⟨.r (.r (.r (.r (.r (.l (.r (.l .h))))))) none (.ld (.s (.l (.r (.r (.r (.l (.r (.l .h))))))))), (nat_lit 5), [(nat_lit 3), (nat_lit 4)], []⟩,
  ⟨.p (.l (.l (.l (.l (.r (.r (.l .h))))))) none (.mv (.s (.r (.r (.r .h))))), (nat_lit 6), [], []⟩,
  ⟨.p (.r (.l (.l (.l (.r (.r (.l .h))))))) none (.ix (nat_lit 1) (.s (.r (.r (.r (.r (.l (.r (.l .h)))))))) (.s (.l (.l (.l (.l (.r (.r (.l .h))))))))), (nat_lit 7), [(nat_lit 3), (nat_lit 4), (nat_lit 5), (nat_lit 6)], []⟩,
  ⟨.r (.l (.r (.l (.l (.r (.r (.l .h))))))) none (.ld (.s (.r (.l (.l (.l (.r (.r (.l .h))))))))), (nat_lit 8), [(nat_lit 3), (nat_lit 4), (nat_lit 5), (nat_lit 6), (nat_lit 7)], []⟩,
  ⟨.a (.r (.r (.l (.l (.r (.r (.l .h))))))) none (.bs (nat_lit 3) (nat_lit 1) [(.i .i64 (.n (nat_lit 0)))] [((nat_lit 0), (nat_lit 1), (.s (.l (.r (.l (.l (.r (.r (.l .h)))))))))]), (nat_lit 9), [(nat_lit 3), (nat_lit 4), (nat_lit 5), (nat_lit 6), (nat_lit 7), (nat_lit 8)], []⟩,
  ⟨.v (some (.l (.l (.r (.l (.r (.r (.l .h)))))))) none (.s (.l (.r (.l (.r (.l (.r (.l .h)))))))) [(.s (.l (.l (.r (.r (.l (.r (.l .h)))))))), (.s (.r (.r (.l (.l (.r (.r (.l .h))))))))], (nat_lit 10), [(nat_lit 0), (nat_lit 1), (nat_lit 2), (nat_lit 3), (nat_lit 4), (nat_lit 5), (nat_lit 6), (nat_lit 7), (nat_lit 8), (nat_lit 9)], []⟩]) .skip)))))
 (.reg [.p (.r (.l (.r (.l (.r (.r (.l .h))))))) none (.ar .add (.s (.r (.r (.r (.r (.r (.l (.l .h)))))))) (.c (.a (.i .i64 (.n (nat_lit 1)))))),
  .p (.r (.r (.r (.r (.r (.l (.l .h))))))) none (.mv (.s (.r (.l (.r (.l (.r (.r (.l .h)))))))))]))))))))))))))))))))), false, false⟩
noncomputable def rf26 : RF := ⟨[.h, (.l .h)], [.g (.r (.l .h)) (nat_lit 10)], (.seq (.reg [.a (.r (.l .h)) none (.al (nat_lit 60) (nat_lit 10) (.n (.n (.n (.n .e .s0 .e) (.i .i64 (.n (nat_lit 0))) .e) .s0 (.n (.n .e .s0 .e) .s0 .e)) (.i .i64 (.n (nat_lit 0))) (.n (.n (.n .e (.i .i64 (.n (nat_lit 0))) .e) (.i .i64 (.n (nat_lit 0))) .e) (.i .i64 (.n (nat_lit 0))) (.n .e (.i .i64 (.n (nat_lit 0))) .e))))])
 (.seq (.reg [.p (.l (.r (.r (.l .h)))) none (.mv (.s .h)),
  .p (.r (.r (.r (.l .h)))) none (.nc (.s (.l (.r (.r (.l .h)))))),
  .p (.l (.l (.l (.r .h)))) none (.fa (nat_lit 0) (.s (.r (.r (.r (.l .h)))))),
  .p (.r (.l (.l (.r .h)))) none (.fa (nat_lit 1) (.s (.l (.l (.l (.r .h)))))),
  .r (.l (.r (.l (.r .h)))) none (.ld (.s (.r (.l (.l (.r .h)))))),
  .p (.r (.r (.l (.r .h)))) none (.mv (.s (.l .h))),
  .p (.l (.l (.r (.r .h)))) none (.ix (nat_lit 10) (.s (.l (.r (.l (.r .h))))) (.s (.r (.r (.l (.r .h)))))),
  .r (.r (.l (.r (.r .h)))) none (.lg (nat_lit 10) (.s (.l (.l (.r (.r .h)))))),
  .a (.l (.r .h)) none (.al (nat_lit 60) (nat_lit 10) (.n (.n (.n (.n .e .s0 .e) (.i .i64 (.n (nat_lit 0))) .e) .s0 (.n (.n .e .s0 .e) .s0 .e)) (.i .i64 (.n (nat_lit 0))) (.n (.n (.n .e (.i .i64 (.n (nat_lit 0))) .e) (.i .i64 (.n (nat_lit 0))) .e) (.i .i64 (.n (nat_lit 0))) (.n .e (.i .i64 (.n (nat_lit 0))) .e)))),
  .c none none (.st (nat_lit 10) (.s (.l (.r .h))) (.s (.r (.l (.r (.r .h))))))])
 (.seq (.reg [.p (.l (.r (.r (.r .h)))) none (.fa (nat_lit 2) (.s (.l (.r .h)))),
  .p (.r (.r (.r (.r .h)))) none (.fa (nat_lit 0) (.s (.l (.r (.r (.r .h)))))),
  .r (.l (.l (.l (.l (.l .h))))) none (.ld (.s (.r (.r (.r (.r .h)))))),
  .p (.r (.l (.l (.l (.l .h))))) none (.fa (nat_lit 2) (.s (.l (.r .h)))),
  .p (.l (.r (.l (.l (.l .h))))) none (.fa (nat_lit 2) (.s (.r (.l (.l (.l (.l .h))))))),
  .r (.r (.r (.l (.l (.l .h))))) none (.ld (.s (.l (.r (.l (.l (.l .h))))))),
  .p (.l (.l (.r (.l (.l .h))))) none (.bd [(.i .i64 (.n (nat_lit 0))), (.i .i64 (.n (nat_lit 0))), (.i .i64 (.n (nat_lit 0))), .s0, (.i .i64 (.n (nat_lit 0))), .s0, (.i .i64 (.n (nat_lit 0))), .s0] [((nat_lit 0), (nat_lit 1), (.s (.l (.l (.l (.l (.l .h))))))), ((nat_lit 2), (nat_lit 1), (.s (.r (.r (.l (.l (.l .h)))))))]),
  .p (.r (.l (.r (.l (.l .h))))) none (.bd [(.i .i64 (.n (nat_lit 0))), .s0, (.i .i64 (.n (nat_lit 0))), (.i .i64 (.n (nat_lit 0))), (.i .i64 (.n (nat_lit 0))), .s0, (.i .i64 (.n (nat_lit 0))), .s0, (.i .i64 (.n (nat_lit 0))), .s0] [((nat_lit 2), (nat_lit 8), (.s (.l (.l (.r (.l (.l .h)))))))]),
  .a (.r (.r .h)) none (.al (nat_lit 60) (nat_lit 10) (.n (.n (.n (.n .e .s0 .e) (.i .i64 (.n (nat_lit 0))) .e) .s0 (.n (.n .e .s0 .e) .s0 .e)) (.i .i64 (.n (nat_lit 0))) (.n (.n (.n .e (.i .i64 (.n (nat_lit 0))) .e) (.i .i64 (.n (nat_lit 0))) .e) (.i .i64 (.n (nat_lit 0))) (.n .e (.i .i64 (.n (nat_lit 0))) .e)))),
  .c none none (.st (nat_lit 10) (.s (.r (.r .h))) (.s (.r (.l (.r (.l (.l .h)))))))])
 (.seq (.reg [.a (.l (.r (.r (.l (.l .h))))) none (.mm),
  .a (.l (.l (.l .h))) none (.al (nat_lit 143) (nat_lit 1) (.n .e .m0 .e)),
  .c none none (.st (nat_lit 1) (.s (.l (.l (.l .h)))) (.s (.l (.r (.r (.l (.l .h)))))))])
 (.seq (.seq (.reg [.p (.r (.r (.r (.l (.l .h))))) none (.fa (nat_lit 0) (.s (.l (.r .h)))),
  .r (.l (.l (.l (.r (.l .h))))) none (.ld (.s (.r (.r (.r (.l (.l .h))))))),
  .p (.r (.l (.l (.r (.l .h))))) none (.mv (.c (.a (.i .i64 (.n (nat_lit 0))))))])
 (.blk (nat_lit 0) (.loop (.seq (.reg [.p (.l (.r (.l (.r (.l .h))))) none (.cp .lss (.s (.r (.l (.l (.r (.l .h)))))) (.s (.l (.l (.l (.r (.l .h)))))))])
 (.seq (.cond (.s (.l (.r (.l (.r (.l .h)))))) .skip (.ex (nat_lit 0)))
 (.seq (.blk (nat_lit 1) (.seq (.reg [.p (.r (.r (.l (.r (.l .h))))) none (.mv (.s (.r (.l (.l (.r (.l .h))))))),
  .p (.r (.l (.l .h))) none (.mv (.s (.r (.r (.l (.r (.l .h)))))))])
 (.seq (.reg [.p (.l (.l (.r (.r (.l .h))))) none (.mv (.s .h)),
  .p (.r (.l (.r (.r (.l .h))))) none (.nc (.s (.l (.l (.r (.r (.l .h))))))),
  .p (.l (.r (.r (.r (.l .h))))) none (.fa (nat_lit 6) (.s (.r (.l (.r (.r (.l .h))))))),
  .r (.r (.r (.r (.r (.l .h))))) none (.ld (.s (.l (.r (.r (.r (.l .h))))))),
  .p (.l (.l (.l (.l (.r .h))))) none (.mv (.s (.l .h))),
  .p (.r (.l (.l (.l (.r .h))))) none (.mv (.s (.r (.l (.l .h))))),
  .p (.l (.r (.l (.l (.r .h))))) none (.bd [(.i .i64 (.n (nat_lit 0))), (.i .i64 (.n (nat_lit 0)))] [((nat_lit 0), (nat_lit 1), (.s (.l (.l (.l (.l (.r .h))))))), ((nat_lit 1), (nat_lit 1), (.s (.r (.l (.l (.l (.r .h)))))))]),
  .r (.r (.r (.l (.l (.r .h))))) none (.lk false true [(nat_lit 0), (nat_lit 0)] (.a (.b false)) (.s (.r (.r (.r (.r (.l .h)))))) (.s (.l (.r (.l (.l (.r .h)))))))])
 (.cond (.s (.r (.r (.l (.l (.r .h)))))) (.seq (.reg [.r (.l (.l (.r (.l (.r .h))))) none (.ld (.s (.l (.l (.l .h))))),
  .p (.r (.l (.r (.l (.r .h))))) none (.mv (.s (.r (.l (.l .h))))),
  .p (.l (.r (.r (.l (.r .h))))) none (.fa (nat_lit 0) (.s (.r (.r .h)))),
  .r (.r (.r (.r (.l (.r .h))))) none (.ld (.s (.l (.r (.r (.l (.r .h))))))),
  .c none none (.mu false [(nat_lit 0)] (.s (.l (.l (.r (.l (.r .h)))))) (.s (.r (.l (.r (.l (.r .h)))))) (.s (.r (.r (.r (.l (.r .h)))))))])
 (.reg [.p (.l (.l (.l (.r (.r .h))))) none (.fa (nat_lit 0) (.s (.r (.r .h)))),
  .r (.r (.l (.l (.r (.r .h))))) none (.ld (.s (.l (.l (.l (.r (.r .h))))))),
  .p (.l (.r (.l (.r (.r .h))))) none (.ar .add (.s (.r (.l (.l (.r (.r .h)))))) (.c (.a (.i .i64 (.n (nat_lit 1)))))),
  .p (.r (.r (.l (.r (.r .h))))) none (.fa (nat_lit 0) (.s (.r (.r .h)))),
  .c none none (.st (nat_lit 1) (.s (.r (.r (.l (.r (.r .h)))))) (.s (.l (.r (.l (.r (.r .h)))))))])) .skip))))
 (.reg [.p (.l (.l (.r (.r (.r .h))))) none (.ar .add (.s (.r (.l (.l (.r (.l .h)))))) (.c (.a (.i .i64 (.n (nat_lit 1)))))),
  .p (.r (.l (.l (.r (.l .h))))) none (.mv (.s (.l (.l (.r (.r (.r .h)))))))])))))))
 (.seq (.reg [.p (.r (.l (.r (.r (.r .h))))) none (.mf (nat_lit 51) [(.s (.l (.r .h))), (.s (.l (.l (.l .h))))]),
  .p (.l (.r (.l .h))) none (.mv (.s (.r (.l (.r (.r (.r .h)))))))])
 (.seq (.seq (.reg [.p (.l (.r (.r (.r (.r .h))))) none (.fa (nat_lit 1) (.s (.l (.r .h)))),
  .r (.r (.r (.r (.r (.r .h))))) none (.ld (.s (.l (.r (.r (.r (.r .h))))))),
  .p (.l (.l (.l (.l (.l (.l .h)))))) none (.ln (.s (.r (.r (.r (.r (.r .h))))))),
  .p (.r (.l (.l (.l (.l (.l .h)))))) none (.mv (.c (.a (.i .i64 (.n (nat_lit 0))))))])
 (.blk (nat_lit 2) (.loop (.seq (.reg [.p (.l (.r (.l (.l (.l (.l .h)))))) none (.cp .lss (.s (.r (.l (.l (.l (.l (.l .h))))))) (.s (.l (.l (.l (.l (.l (.l .h))))))))])
 (.seq (.cond (.s (.l (.r (.l (.l (.l (.l .h))))))) .skip (.ex (nat_lit 2)))
 (.seq (.blk (nat_lit 3) (.seq (.reg [.p (.r (.r (.l (.l (.l (.l .h)))))) none (.ix (nat_lit 11) (.s (.r (.r (.r (.r (.r .h)))))) (.s (.r (.l (.l (.l (.l (.l .h)))))))),
  .r (.l (.l (.r (.l (.l (.l .h)))))) none (.lg (nat_lit 11) (.s (.r (.r (.l (.l (.l (.l .h)))))))),
  .a (.l (.l (.r .h))) none (.al (nat_lit 46) (nat_lit 11) (.n (.n (.n (.n .e (.i .i64 (.n (nat_lit 0))) .e) (.i .i64 (.n (nat_lit 0))) .e) (.i .i64 (.n (nat_lit 0))) (.n (.n .e (.i .i64 (.n (nat_lit 0))) .e) (.i .i64 (.n (nat_lit 0))) .e)) (.i .i64 (.n (nat_lit 0))) (.n (.n (.n .e (.i .i64 (.n (nat_lit 0))) .e) (.i .i64 (.n (nat_lit 0))) .e) (.i .i64 (.n (nat_lit 0))) (.n (.n .e (.i .i64 (.n (nat_lit 0))) .e) (.i .i64 (.n (nat_lit 0))) .e)))),
  .c none none (.st (nat_lit 11) (.s (.l (.l (.r .h)))) (.s (.l (.l (.r (.l (.l (.l .h))))))))])
 (.seq (.seq (.drw [⟨.r (.r (.l (.r (.l (.l (.l .h)))))) none (.lg (nat_lit 11) (.s (.l (.l (.r .h))))), (nat_lit 0), [], []⟩,
  ⟨.k (some (.l (.r (.r (.l (.l (.l .h))))))) none (nat_lit 23) (.l (.l (.l (.r .h)))) [(.s (.r (.l (.r (.l (.l (.l .h)))))))], (nat_lit 1), [(nat_lit 0)], []⟩,
  ⟨.p (.r (.r (.r (.l (.l (.l .h)))))) none (.mv (.s (.l (.r (.r (.l (.l (.l .h)))))))), (nat_lit 2), [(nat_lit 0), (nat_lit 1)], []⟩,
  ⟨.p (.l (.l (.l (.r (.l (.l .h)))))) (some ((.r (.r (.r (.l (.l (.l .h)))))), true)) (.mv (.s .h)), (nat_lit 3), [(nat_lit 0), (nat_lit 1), (nat_lit 2)], []⟩,
  ⟨.p (.r (.l (.l (.r (.l (.l .h)))))) (some ((.r (.r (.r (.l (.l (.l .h)))))), true)) (.nc (.s (.l (.l (.l (.r (.l (.l .h)))))))), (nat_lit 4), [(nat_lit 0), (nat_lit 1), (nat_lit 2), (nat_lit 3)], []⟩,
  ⟨.p (.l (.r (.l (.r (.l (.l .h)))))) (some ((.r (.r (.r (.l (.l (.l .h)))))), true)) (.fa (nat_lit 6) (.s (.r (.l (.l (.r (.l (.l .h)))))))), (nat_lit 5), [(nat_lit 0), (nat_lit 1), (nat_lit 2), (nat_lit 3), (nat_lit 4)], []⟩,
  ⟨.r (.r (.r (.l (.r (.l (.l .h)))))) (some ((.r (.r (.r (.l (.l (.l .h)))))), true)) (.ld (.s (.l (.r (.l (.r (.l (.l .h)))))))), (nat_lit 6), [(nat_lit 0), (nat_lit 1), (nat_lit 2), (nat_lit 3), (nat_lit 4), (nat_lit 5)], []⟩,
  ⟨.p (.l (.l (.r (.r (.l (.l .h)))))) (some ((.r (.r (.r (.l (.l (.l .h)))))), true)) (.mv (.s (.l .h))), (nat_lit 7), [(nat_lit 0), (nat_lit 1), (nat_lit 2)], []⟩,
  ⟨.p (.r (.l (.r (.r (.l (.l .h)))))) (some ((.r (.r (.r (.l (.l (.l .h)))))), true)) (.fa (nat_lit 1) (.s (.l (.l (.r .h))))), (nat_lit 8), [(nat_lit 0), (nat_lit 1), (nat_lit 2)], []⟩,
  ⟨.r (.l (.r (.r (.r (.l (.l .h)))))) (some ((.r (.r (.r (.l (.l (.l .h)))))), true)) (.ld (.s (.r (.l (.r (.r (.l (.l .h)))))))), (nat_lit 9), [(nat_lit 0), (nat_lit 1), (nat_lit 2), (nat_lit 8)], []⟩,
  ⟨.p (.r (.r (.r (.r (.l (.l .h)))))) (some ((.r (.r (.r (.l (.l (.l .h)))))), true)) (.bd [(.i .i64 (.n (nat_lit 0))), (.i .i64 (.n (nat_lit 0)))] [((nat_lit 0), (nat_lit 1), (.s (.l (.l (.r (.r (.l (.l .h)))))))), ((nat_lit 1), (nat_lit 1), (.s (.l (.r (.r (.r (.l (.l .h))))))))]), (nat_lit 10), [(nat_lit 0), (nat_lit 1), (nat_lit 2), (nat_lit 7), (nat_lit 8), (nat_lit 9)], []⟩,
  ⟨.r (.l (.l (.l (.l (.r (.l .h)))))) (some ((.r (.r (.r (.l (.l (.l .h)))))), true)) (.lk false true [(nat_lit 0), (nat_lit 0)] (.a (.b false)) (.s (.r (.r (.l (.r (.l (.l .h))))))) (.s (.r (.r (.r (.r (.l (.l .h)))))))), (nat_lit 11), [(nat_lit 0), (nat_lit 1), (nat_lit 2), (nat_lit 3), (nat_lit 4), (nat_lit 5), (nat_lit 6), (nat_lit 7), (nat_lit 8), (nat_lit 9), (nat_lit 10)], []⟩,
  ⟨.p (.r (.l (.l (.l (.r (.l .h)))))) (some ((.r (.r (.r (.l (.l (.l .h)))))), true)) (.nt (.s (.l (.l (.l (.l (.r (.l .h)))))))), (nat_lit 12), [(nat_lit 0), (nat_lit 1), (nat_lit 2), (nat_lit 3), (nat_lit 4), (nat_lit 5), (nat_lit 6), (nat_lit 7), (nat_lit 8), (nat_lit 9), (nat_lit 10), (nat_lit 11)], []⟩,
  ⟨.p (.l (.r (.l (.l (.r (.l .h)))))) none (.pk (.s (.r (.r (.r (.l (.l (.l .h))))))) (.s (.r (.l (.l (.l (.r (.l .h))))))) (.c (.a (.b false)))), (nat_lit 13), [(nat_lit 0), (nat_lit 1), (nat_lit 2), (nat_lit 3), (nat_lit 4), (nat_lit 5), (nat_lit 6), (nat_lit 7), (nat_lit 8), (nat_lit 9), (nat_lit 10), (nat_lit 11), (nat_lit 12)], []⟩])
 (.cond (.s (.l (.r (.l (.l (.r (.l .h))))))) (.ex (nat_lit 3)) .skip))
 (.seq (.reg [.r (.r (.r (.l (.l (.r (.l .h)))))) none (.lg (nat_lit 11) (.s (.l (.l (.r .h))))),
  .k (some (.l (.l (.r (.l (.r (.l .h))))))) none (nat_lit 49) (.l (.r (.l (.l (.r .h))))) [(.s (.r (.r (.l (.l (.r (.l .h)))))))],
  .p (.r (.l (.r (.l (.r (.l .h)))))) none (.ln (.s (.l (.l (.r (.l (.r (.l .h)))))))),
  .p (.r (.l (.r .h))) none (.mv (.s (.r (.l (.r (.l (.r (.l .h))))))))])
 (.seq (.seq (.reg [.p (.l (.r (.r (.l (.r (.l .h)))))) none (.mv (.s (.r (.l (.r .h))))),
  .p (.r (.r (.r (.l (.r (.l .h)))))) none (.cp .gtr (.s (.l (.r (.r (.l (.r (.l .h))))))) (.c (.a (.i .i64 (.n (nat_lit 0))))))])
 (.cond (.s (.r (.r (.r (.l (.r (.l .h))))))) (.reg [.p (.l (.l (.l (.r (.r (.l .h)))))) none (.mv (.s (.l (.r (.l .h))))),
  .p (.r (.l (.l (.r (.r (.l .h)))))) none (.fa (nat_lit 2) (.s (.l (.l (.r .h))))),
  .r (.l (.r (.l (.r (.r (.l .h)))))) none (.ld (.s (.r (.l (.l (.r (.r (.l .h)))))))),
  .v (some (.r (.r (.l (.r (.r (.l .h))))))) none (.s (.l (.l (.l (.r (.r (.l .h))))))) [(.s (.l (.r (.l (.r (.r (.l .h)))))))],
  .p (.l (.l (.r (.r (.r (.l .h)))))) none (.fa (nat_lit 2) (.s (.l (.l (.r .h))))),
  .c none none (.st (nat_lit 1) (.s (.l (.l (.r (.r (.r (.l .h))))))) (.s (.r (.r (.l (.r (.r (.l .h))))))))]) .skip))
 (.seq (.seq (.reg [.p (.r (.l (.r (.r (.r (.l .h)))))) none (.mv (.s (.r (.l (.r .h))))),
  .p (.l (.r (.r (.r (.r (.l .h)))))) none (.cp .gtr (.s (.r (.l (.r (.r (.r (.l .h))))))) (.c (.a (.i .i64 (.n (nat_lit 1))))))])
 (.cond (.s (.l (.r (.r (.r (.r (.l .h))))))) (.reg [.p (.r (.r (.r (.r (.r (.l .h)))))) none (.mv (.s (.l (.r (.l .h))))),
  .p (.l (.l (.l (.l (.l (.r .h)))))) none (.fa (nat_lit 3) (.s (.l (.l (.r .h))))),
  .r (.r (.l (.l (.l (.l (.r .h)))))) none (.ld (.s (.l (.l (.l (.l (.l (.r .h)))))))),
  .v (some (.l (.r (.l (.l (.l (.r .h))))))) none (.s (.r (.r (.r (.r (.r (.l .h))))))) [(.s (.r (.l (.l (.l (.l (.r .h)))))))],
  .p (.r (.r (.l (.l (.l (.r .h)))))) none (.fa (nat_lit 3) (.s (.l (.l (.r .h))))),
  .c none none (.st (nat_lit 1) (.s (.r (.r (.l (.l (.l (.r .h))))))) (.s (.l (.r (.l (.l (.l (.r .h))))))))]) .skip))
 (.seq (.seq (.reg [.p (.l (.l (.r (.l (.l (.r .h)))))) none (.fa (nat_lit 0) (.s (.l (.l (.r .h))))),
  .r (.r (.l (.r (.l (.l (.r .h)))))) none (.ld (.s (.l (.l (.r (.l (.l (.r .h)))))))),
  .p (.l (.r (.r (.l (.l (.r .h)))))) none (.cp .eql (.s (.r (.l (.r (.l (.l (.r .h))))))) (.c (.a (.i .i64 (.n (nat_lit 21)))))),
  .p (.r (.r (.r (.l (.l (.r .h)))))) none (.mv (.s (.l (.r (.r (.l (.l (.r .h)))))))),
  .p (.l (.l (.l (.r (.l (.r .h)))))) (some ((.r (.r (.r (.l (.l (.r .h)))))), true)) (.fa (nat_lit 8) (.s (.l (.l (.r .h))))),
  .p (.r (.l (.l (.r (.l (.r .h)))))) (some ((.r (.r (.r (.l (.l (.r .h)))))), true)) (.fa (nat_lit 0) (.s (.l (.l (.l (.r (.l (.r .h)))))))),
  .r (.l (.r (.l (.r (.l (.r .h)))))) (some ((.r (.r (.r (.l (.l (.r .h)))))), true)) (.ld (.s (.r (.l (.l (.r (.l (.r .h)))))))),
  .p (.r (.r (.l (.r (.l (.r .h)))))) (some ((.r (.r (.r (.l (.l (.r .h)))))), true)) (.cp .eql (.s (.l (.r (.l (.r (.l (.r .h))))))) (.c (.a (.i .i64 (.n (nat_lit 2)))))),
  .p (.l (.l (.r (.r (.l (.r .h)))))) none (.pk (.s (.r (.r (.r (.l (.l (.r .h))))))) (.s (.r (.r (.l (.r (.l (.r .h))))))) (.c (.a (.b false))))])
 (.cond (.s (.l (.l (.r (.r (.l (.r .h))))))) (.seq (.reg [.p (.r (.l (.r (.r (.l (.r .h)))))) none (.mv (.s .h)),
  .p (.l (.r (.r (.r (.l (.r .h)))))) none (.mv (.s (.l .h))),
  .p (.r (.r (.r (.r (.l (.r .h)))))) none (.fa (nat_lit 8) (.s (.l (.l (.r .h))))),
  .p (.l (.l (.l (.l (.r (.r .h)))))) none (.fa (nat_lit 1) (.s (.r (.r (.r (.r (.l (.r .h)))))))),
  .r (.r (.l (.l (.l (.r (.r .h)))))) none (.ld (.s (.l (.l (.l (.l (.r (.r .h)))))))),
  .p (.l (.r (.l (.l (.r (.r .h)))))) none (.bd [(.i .i64 (.n (nat_lit 0))), (.i .i64 (.n (nat_lit 0)))] [((nat_lit 0), (nat_lit 1), (.s (.l (.r (.r (.r (.l (.r .h)))))))), ((nat_lit 1), (nat_lit 1), (.s (.r (.l (.l (.l (.r (.r .h))))))))]),
  .p (.r (.r (.l (.l (.r (.r .h)))))) none (.fa (nat_lit 8) (.s (.l (.l (.r .h))))),
  .p (.l (.l (.r (.l (.r (.r .h)))))) none (.fa (nat_lit 2) (.s (.r (.r (.l (.l (.r (.r .h)))))))),
  .r (.r (.l (.r (.l (.r (.r .h)))))) none (.ld (.s (.l (.l (.r (.l (.r (.r .h)))))))),
  .k (some (.l (.r (.r (.l (.r (.r .h))))))) none (nat_lit 52) (.r (.l (.r (.l (.r .h))))) [(.s (.r (.l (.r (.r (.l (.r .h))))))), (.s (.l (.r (.l (.l (.r (.r .h))))))), (.s (.r (.l (.r (.l (.r (.r .h)))))))],
  .p (.r (.r (.r (.l (.r (.r .h)))))) none (.fa (nat_lit 8) (.s (.l (.l (.r .h))))),
  .c none none (.st (nat_lit 3) (.s (.r (.r (.r (.l (.r (.r .h))))))) (.s (.l (.r (.r (.l (.r (.r .h))))))))])
 (.seq (.reg [.p (.l (.l (.l (.r (.r (.r .h)))))) none (.fa (nat_lit 8) (.s (.l (.l (.r .h))))),
  .p (.r (.l (.l (.r (.r (.r .h)))))) none (.fa (nat_lit 0) (.s (.l (.l (.l (.r (.r (.r .h)))))))),
  .r (.l (.r (.l (.r (.r (.r .h)))))) none (.ld (.s (.r (.l (.l (.r (.r (.r .h)))))))),
  .p (.r (.r (.l (.r (.r (.r .h)))))) none (.cp .eql (.s (.l (.r (.l (.r (.r (.r .h))))))) (.c (.a (.i .i64 (.n (nat_lit 2))))))])
 (.cond (.s (.r (.r (.l (.r (.r (.r .h))))))) (.reg [.p (.l (.l (.r (.r (.r (.r .h)))))) none (.mv (.s (.l (.r (.l .h))))),
  .p (.r (.l (.r (.r (.r (.r .h)))))) none (.fa (nat_lit 8) (.s (.l (.l (.r .h))))),
  .p (.l (.r (.r (.r (.r (.r .h)))))) none (.fa (nat_lit 1) (.s (.r (.l (.r (.r (.r (.r .h)))))))),
  .r (.r (.r (.r (.r (.r (.r .h)))))) none (.ld (.s (.l (.r (.r (.r (.r (.r .h)))))))),
  .v (some (.l (.l (.l (.l (.l (.l (.l .h)))))))) none (.s (.l (.l (.r (.r (.r (.r .h))))))) [(.s (.r (.r (.r (.r (.r (.r .h)))))))],
  .p (.r (.l (.l (.l (.l (.l (.l .h))))))) none (.fa (nat_lit 8) (.s (.l (.l (.r .h))))),
  .p (.l (.r (.l (.l (.l (.l (.l .h))))))) none (.fa (nat_lit 1) (.s (.r (.l (.l (.l (.l (.l (.l .h))))))))),
  .c none none (.st (nat_lit 1) (.s (.l (.r (.l (.l (.l (.l (.l .h)))))))) (.s (.l (.l (.l (.l (.l (.l (.l .h)))))))))]) .skip))) .skip))
 (.reg [.p (.r (.r (.l (.l (.l (.l (.l .h))))))) none (.fa (nat_lit 1) (.s (.r (.r .h)))),
  .r (.l (.l (.r (.l (.l (.l (.l .h))))))) none (.ld (.s (.r (.r (.l (.l (.l (.l (.l .h))))))))),
  .r (.r (.l (.r (.l (.l (.l (.l .h))))))) none (.lg (nat_lit 11) (.s (.l (.l (.r .h))))),
  .a (.l (.r (.r (.l (.l (.l (.l .h))))))) none (.bs (nat_lit 46) (nat_lit 1) [(.i .i64 (.n (nat_lit 0))), (.i .i64 (.n (nat_lit 0))), (.i .i64 (.n (nat_lit 0))), (.i .i64 (.n (nat_lit 0))), (.i .i64 (.n (nat_lit 0))), (.i .i64 (.n (nat_lit 0))), (.i .i64 (.n (nat_lit 0))), (.i .i64 (.n (nat_lit 0))), (.i .i64 (.n (nat_lit 0))), (.i .i64 (.n (nat_lit 0))), (.i .i64 (.n (nat_lit 0)))] [((nat_lit 0), (nat_lit 11), (.s (.r (.l (.r (.l (.l (.l (.l .h)))))))))]),
  .c (some (.r (.r (.r (.l (.l (.l (.l .h)))))))) none (.ap (nat_lit 46) (nat_lit 11) (nat_lit 88) (.s (.l (.l (.r (.l (.l (.l (.l .h)))))))) (.s (.l (.r (.r (.l (.l (.l (.l .h))))))))),
  .p (.l (.l (.l (.r (.l (.l (.l .h))))))) none (.fa (nat_lit 1) (.s (.r (.r .h)))),
  .c none none (.st (nat_lit 1) (.s (.l (.l (.l (.r (.l (.l (.l .h)))))))) (.s (.r (.r (.r (.l (.l (.l (.l .h)))))))))]))))))))
 (.reg [.p (.r (.l (.l (.r (.l (.l (.l .h))))))) none (.ar .add (.s (.r (.l (.l (.l (.l (.l .h))))))) (.c (.a (.i .i64 (.n (nat_lit 1)))))),
  .p (.r (.l (.l (.l (.l (.l .h)))))) none (.mv (.s (.r (.l (.l (.r (.l (.l (.l .h)))))))))])))))))
 (.seq (.seq (.reg [.p (.l (.r (.l (.r (.l (.l (.l .h))))))) none (.fa (nat_lit 2) (.s (.l (.r .h)))),
  .r (.r (.r (.l (.r (.l (.l (.l .h))))))) none (.lg (nat_lit 8) (.s (.l (.r (.l (.r (.l (.l (.l .h))))))))),
  .k (some (.l (.l (.r (.r (.l (.l (.l .h)))))))) none (nat_lit 50) (.r (.r (.l (.l (.r .h))))) [(.s (.r (.r (.l (.r (.l (.l (.l .h))))))))]])
 (.cond (.s (.l (.l (.r (.r (.l (.l (.l .h)))))))) (.reg [.p (.r (.l (.r (.r (.l (.l (.l .h))))))) none (.mv (.s (.l (.r (.l .h))))),
  .p (.l (.r (.r (.r (.l (.l (.l .h))))))) none (.fa (nat_lit 2) (.s (.l (.r .h)))),
  .p (.r (.r (.r (.r (.l (.l (.l .h))))))) none (.fa (nat_lit 1) (.s (.l (.r (.r (.r (.l (.l (.l .h))))))))),
  .r (.l (.l (.l (.l (.r (.l (.l .h))))))) none (.ld (.s (.r (.r (.r (.r (.l (.l (.l .h))))))))),
  .v (some (.r (.l (.l (.l (.r (.l (.l .h)))))))) none (.s (.r (.l (.r (.r (.l (.l (.l .h)))))))) [(.s (.l (.l (.l (.l (.r (.l (.l .h))))))))],
  .p (.l (.r (.l (.l (.r (.l (.l .h))))))) none (.fa (nat_lit 2) (.s (.r (.r .h)))),
  .p (.r (.r (.l (.l (.r (.l (.l .h))))))) none (.fa (nat_lit 1) (.s (.l (.r (.l (.l (.r (.l (.l .h))))))))),
  .c none none (.st (nat_lit 1) (.s (.r (.r (.l (.l (.r (.l (.l .h)))))))) (.s (.r (.l (.l (.l (.r (.l (.l .h)))))))))]) .skip))
 (.seq (.seq (.reg [.p (.l (.l (.r (.l (.r (.l (.l .h))))))) none (.fa (nat_lit 2) (.s (.l (.r .h)))),
  .p (.r (.l (.r (.l (.r (.l (.l .h))))))) none (.fa (nat_lit 3) (.s (.l (.l (.r (.l (.r (.l (.l .h))))))))),
  .r (.l (.r (.r (.l (.r (.l (.l .h))))))) none (.ld (.s (.r (.l (.r (.l (.r (.l (.l .h))))))))),
  .p (.r (.r (.r (.l (.r (.l (.l .h))))))) none (.ln (.s (.l (.r (.r (.l (.r (.l (.l .h))))))))),
  .p (.l (.l (.l (.r (.r (.l (.l .h))))))) none (.mv (.c (.a (.i .i64 (.n (nat_lit 0))))))])
 (.blk (nat_lit 4) (.loop (.seq (.reg [.p (.r (.l (.l (.r (.r (.l (.l .h))))))) none (.cp .lss (.s (.l (.l (.l (.r (.r (.l (.l .h)))))))) (.s (.r (.r (.r (.l (.r (.l (.l .h)))))))))])
 (.seq (.cond (.s (.r (.l (.l (.r (.r (.l (.l .h)))))))) .skip (.ex (nat_lit 4)))
 (.seq (.blk (nat_lit 5) (.seq (.reg [.p (.l (.r (.l (.r (.r (.l (.l .h))))))) none (.ix (nat_lit 1) (.s (.l (.r (.r (.l (.r (.l (.l .h)))))))) (.s (.l (.l (.l (.r (.r (.l (.l .h))))))))),
  .r (.r (.r (.l (.r (.r (.l (.l .h))))))) none (.ld (.s (.l (.r (.l (.r (.r (.l (.l .h))))))))),
  .p (.r (.r (.r .h))) none (.mv (.s (.r (.r (.l (.r (.r (.l (.l .h)))))))))])
 (.drw [⟨.p (.l (.l (.r (.r (.r (.l (.l .h))))))) none (.fa (nat_lit 2) (.s (.r (.r .h)))), (nat_lit 0), [], []⟩,
  ⟨.p (.r (.l (.r (.r (.r (.l (.l .h))))))) none (.fa (nat_lit 3) (.s (.l (.l (.r (.r (.r (.l (.l .h))))))))), (nat_lit 1), [(nat_lit 0)], []⟩,
  ⟨.r (.l (.r (.r (.r (.r (.l (.l .h))))))) none (.ld (.s (.r (.l (.r (.r (.r (.l (.l .h))))))))), (nat_lit 2), [(nat_lit 0), (nat_lit 1)], []⟩,
  ⟨.p (.r (.r (.r (.r (.r (.l (.l .h))))))) none (.mv (.s (.l (.r (.l .h))))), (nat_lit 3), [], []⟩,
  ⟨.p (.l (.l (.l (.l (.l (.r (.l .h))))))) none (.mv (.s (.r (.r (.r .h))))), (nat_lit 4), [], []⟩,
  ⟨.v (some (.r (.l (.l (.l (.l (.r (.l .h)))))))) none (.s (.r (.r (.r (.r (.r (.l (.l .h)))))))) [(.s (.l (.l (.l (.l (.l (.r (.l .h))))))))], (nat_lit 5), [(nat_lit 3), (nat_lit 4)], [true]⟩,
  ⟨.a (.l (.r (.l (.l (.l (.r (.l .h))))))) none (.bs (nat_lit 3) (nat_lit 1) [(.i .i64 (.n (nat_lit 0)))] [((nat_lit 0), (nat_lit 1), (.s (.r (.l (.l (.l (.l (.r (.l .h)))))))))]), (nat_lit 6), [(nat_lit 3), (nat_lit 4), (nat_lit 5)], []⟩,
  ⟨.c (some (.r (.r (.l (.l (.l (.r (.l .h)))))))) none (.ap (nat_lit 3) (nat_lit 1) (nat_lit 8) (.s (.l (.r (.r (.r (.r (.l (.l .h)))))))) (.s (.l (.r (.l (.l (.l (.r (.l .h))))))))), (nat_lit 7), [(nat_lit 0), (nat_lit 1), (nat_lit 2), (nat_lit 3), (nat_lit 4), (nat_lit 5), (nat_lit 6)], []⟩,
  ⟨.p (.l (.l (.r (.l (.l (.r (.l .h))))))) none (.fa (nat_lit 2) (.s (.r (.r .h)))), (nat_lit 8), [(nat_lit 0), (nat_lit 1), (nat_lit 2), (nat_lit 3), (nat_lit 4), (nat_lit 5), (nat_lit 6), (nat_lit 7)], []⟩,
  ⟨.p (.r (.l (.r (.l (.l (.r (.l .h))))))) none (.fa (nat_lit 3) (.s (.l (.l (.r (.l (.l (.r (.l .h))))))))), (nat_lit 9), [(nat_lit 0), (nat_lit 1), (nat_lit 2), (nat_lit 3), (nat_lit 4), (nat_lit 5), (nat_lit 6), (nat_lit 7), (nat_lit 8)], []⟩,
  ⟨.c none none (.st (nat_lit 1) (.s (.r (.l (.r (.l (.l (.r (.l .h)))))))) (.s (.r (.r (.l (.l (.l (.r (.l .h))))))))), (nat_lit 10), [(nat_lit 0), (nat_lit 1), (nat_lit 2), (nat_lit 3), (nat_lit 4), (nat_lit 5), (nat_lit 6), (nat_lit 7), (nat_lit 8), (nat_lit 9)], []⟩])))
 (.reg [.p (.l (.r (.r (.l (.l (.r (.l .h))))))) none (.ar .add (.s (.l (.l (.l (.r (.r (.l (.l .h)))))))) (.c (.a (.i .i64 (.n (nat_lit 1)))))),
  .p (.l (.l (.l (.r (.r (.l (.l .h))))))) none (.mv (.s (.l (.r (.r (.l (.l (.r (.l .h)))))))))])))))))
 (.seq (.reg [.p (.l (.l (.l (.l .h)))) none (.mv (.c (.a (.i .i64 (.n (nat_lit 0))))))])
 (.seq (.seq (.reg [.p (.r (.r (.r (.l (.l (.r (.l .h))))))) none (.fa (nat_lit 2) (.s (.l (.r .h)))),
  .p (.l (.l (.l (.r (.l (.r (.l .h))))))) none (.fa (nat_lit 0) (.s (.r (.r (.r (.l (.l (.r (.l .h))))))))),
  .r (.r (.l (.l (.r (.l (.r (.l .h))))))) none (.ld (.s (.l (.l (.l (.r (.l (.r (.l .h))))))))),
  .p (.l (.r (.l (.r (.l (.r (.l .h))))))) none (.cp .eql (.s (.r (.l (.l (.r (.l (.r (.l .h)))))))) (.c (.a (.i .i64 (.n (nat_lit 3))))))])
 (.cond (.s (.l (.r (.l (.r (.l (.r (.l .h)))))))) (.reg [.p (.l (.l (.l (.l .h)))) none (.mv (.c (.a (.i .i64 (.n (nat_lit 1))))))]) .skip))
 (.seq (.seq (.reg [.p (.r (.r (.l (.r (.l (.r (.l .h))))))) none (.fa (nat_lit 2) (.s (.l (.r .h)))),
  .p (.l (.l (.r (.r (.l (.r (.l .h))))))) none (.fa (nat_lit 4) (.s (.r (.r (.l (.r (.l (.r (.l .h))))))))),
  .r (.r (.l (.r (.r (.l (.r (.l .h))))))) none (.lg (nat_lit 4) (.s (.l (.l (.r (.r (.l (.r (.l .h))))))))),
  .p (.l (.r (.r (.r (.l (.r (.l .h))))))) none (.mv (.c (.a (.i .i64 (.n (nat_lit 0))))))])
 (.blk (nat_lit 6) (.loop (.seq (.reg [.p (.r (.r (.r (.r (.l (.r (.l .h))))))) none (.cp .lss (.s (.l (.r (.r (.r (.l (.r (.l .h)))))))) (.c (.a (.i .i64 (.n (nat_lit 2))))))])
 (.seq (.cond (.s (.r (.r (.r (.r (.l (.r (.l .h)))))))) .skip (.ex (nat_lit 6)))
 (.seq (.blk (nat_lit 7) (.seq (.reg [.p (.l (.l (.l (.l (.r (.r (.l .h))))))) none (.mv (.s (.l (.r (.r (.r (.l (.r (.l .h))))))))),
  .p (.r (.l (.l (.l (.r (.r (.l .h))))))) none (.ig (nat_lit 2) (nat_lit 2) (.s (.r (.l (.r (.r (.l (.r (.l .h)))))))) (.s (.l (.r (.r (.r (.l (.r (.l .h))))))))),
  .a (.l (.r (.l (.l .h)))) none (.al (nat_lit 55) (nat_lit 2) (.n (.n .e .s0 .e) (.i .i64 (.n (nat_lit 0))) .e)),
  .p (.r (.l (.l (.l .h)))) none (.mv (.s (.l (.l (.l (.l (.r (.r (.l .h))))))))),
  .c none none (.st (nat_lit 2) (.s (.l (.r (.l (.l .h))))) (.s (.r (.l (.l (.l (.r (.r (.l .h)))))))))])
 (.seq (.reg [.p (.l (.r (.l (.l (.r (.r (.l .h))))))) none (.mv (.s (.r (.l (.l (.l .h)))))),
  .p (.r (.r (.l (.l (.r (.r (.l .h))))))) none (.fa (nat_lit 2) (.s (.r (.r .h)))),
  .p (.l (.l (.r (.l (.r (.r (.l .h))))))) none (.fa (nat_lit 4) (.s (.r (.r (.l (.l (.r (.r (.l .h))))))))),
  .p (.r (.l (.r (.l (.r (.r (.l .h))))))) none (.ia (nat_lit 2) (nat_lit 2) (.s (.l (.l (.r (.l (.r (.r (.l .h)))))))) (.s (.l (.r (.l (.l (.r (.r (.l .h))))))))),
  .p (.r (.r (.l (.l .h)))) none (.mv (.s (.r (.l (.r (.l (.r (.r (.l .h)))))))))])
 (.seq (.reg [.p (.l (.r (.r (.l (.r (.r (.l .h))))))) none (.mv (.s (.r (.r (.l (.l .h)))))),
  .p (.r (.r (.r (.l (.r (.r (.l .h))))))) none (.fa (nat_lit 0) (.s (.l (.r (.l (.l .h)))))),
  .r (.l (.l (.l (.r (.r (.r (.l .h))))))) none (.ld (.s (.r (.r (.r (.l (.r (.r (.l .h))))))))),
  .p (.r (.l (.l (.r (.r (.r (.l .h))))))) none (.nc (.s (.l (.r (.r (.l (.r (.r (.l .h))))))))),
  .p (.l (.r (.l (.r (.r (.r (.l .h))))))) none (.fa (nat_lit 0) (.s (.r (.l (.l (.r (.r (.r (.l .h))))))))),
  .c none none (.st (nat_lit 1) (.s (.l (.r (.l (.r (.r (.r (.l .h)))))))) (.s (.l (.l (.l (.r (.r (.r (.l .h)))))))))])
 (.seq (.reg [.p (.r (.r (.l (.r (.r (.r (.l .h))))))) none (.fa (nat_lit 1) (.s (.l (.r (.l (.l .h)))))),
  .r (.l (.l (.r (.r (.r (.r (.l .h))))))) none (.ld (.s (.r (.r (.l (.r (.r (.r (.l .h))))))))),
  .p (.r (.l (.r (.r (.r (.r (.l .h))))))) none (.ln (.s (.l (.l (.r (.r (.r (.r (.l .h))))))))),
  .p (.l (.r (.r (.r (.r (.r (.l .h))))))) none (.mv (.c (.a (.i .i64 (.n (nat_lit 0))))))])
 (.blk (nat_lit 8) (.loop (.seq (.reg [.p (.r (.r (.r (.r (.r (.r (.l .h))))))) none (.cp .lss (.s (.l (.r (.r (.r (.r (.r (.l .h)))))))) (.s (.r (.l (.r (.r (.r (.r (.l .h)))))))))])
 (.seq (.cond (.s (.r (.r (.r (.r (.r (.r (.l .h)))))))) .skip (.ex (nat_lit 8)))
 (.seq (.blk (nat_lit 9) (.seq (.reg [.p (.l (.l (.l (.l (.l (.l (.r .h))))))) none (.mv (.s (.l (.r (.r (.r (.r (.r (.l .h))))))))),
  .p (.r (.l (.l (.l (.l (.l (.r .h))))))) none (.ix (nat_lit 1) (.s (.l (.l (.r (.r (.r (.r (.l .h)))))))) (.s (.l (.r (.r (.r (.r (.r (.l .h))))))))),
  .r (.l (.r (.l (.l (.l (.l (.r .h))))))) none (.ld (.s (.r (.l (.l (.l (.l (.l (.r .h))))))))),
  .p (.l (.l (.r (.l .h)))) none (.mv (.s (.l (.l (.l (.l (.l (.l (.r .h))))))))),
  .p (.r (.l (.r (.l .h)))) none (.mv (.s (.l (.r (.l (.l (.l (.l (.r .h)))))))))])
 (.seq (.drw [⟨.p (.r (.r (.l (.l (.l (.l (.r .h))))))) none (.mv (.s .h)), (nat_lit 0), [], []⟩,
  ⟨.p (.l (.l (.r (.l (.l (.l (.r .h))))))) none (.nc (.s (.r (.r (.l (.l (.l (.l (.r .h))))))))), (nat_lit 1), [(nat_lit 0)], []⟩,
  ⟨.p (.r (.l (.r (.l (.l (.l (.r .h))))))) none (.fa (nat_lit 6) (.s (.l (.l (.r (.l (.l (.l (.r .h))))))))), (nat_lit 2), [(nat_lit 0), (nat_lit 1)], []⟩,
  ⟨.r (.l (.r (.r (.l (.l (.l (.r .h))))))) none (.ld (.s (.r (.l (.r (.l (.l (.l (.r .h))))))))), (nat_lit 3), [(nat_lit 0), (nat_lit 1), (nat_lit 2)], []⟩,
  ⟨.p (.r (.r (.r (.l (.l (.l (.r .h))))))) none (.fa (nat_lit 0) (.s (.l (.r (.l (.l .h)))))), (nat_lit 4), [], []⟩,
  ⟨.r (.l (.l (.l (.r (.l (.l (.r .h))))))) none (.ld (.s (.r (.r (.r (.l (.l (.l (.r .h))))))))), (nat_lit 5), [(nat_lit 4)], []⟩,
  ⟨.p (.r (.l (.l (.r (.l (.l (.r .h))))))) none (.mv (.s (.l (.l (.l (.l .h)))))), (nat_lit 6), [], []⟩,
  ⟨.p (.l (.r (.l (.r (.l (.l (.r .h))))))) none (.mv (.s (.l (.l (.r (.l .h)))))), (nat_lit 7), [], []⟩,
  ⟨.p (.r (.r (.l (.r (.l (.l (.r .h))))))) none (.ar .add (.s (.r (.l (.l (.r (.l (.l (.r .h)))))))) (.s (.l (.r (.l (.r (.l (.l (.r .h))))))))), (nat_lit 8), [(nat_lit 6), (nat_lit 7)], []⟩,
  ⟨.p (.l (.l (.r (.r (.l (.l (.r .h))))))) none (.bd [(.i .i64 (.n (nat_lit 0))), (.i .i64 (.n (nat_lit 0)))] [((nat_lit 0), (nat_lit 1), (.s (.l (.l (.l (.r (.l (.l (.r .h))))))))), ((nat_lit 1), (nat_lit 1), (.s (.r (.r (.l (.r (.l (.l (.r .h)))))))))]), (nat_lit 9), [(nat_lit 4), (nat_lit 5), (nat_lit 6), (nat_lit 7), (nat_lit 8)], []⟩,
  ⟨.r (.r (.l (.r (.r (.l (.l (.r .h))))))) none (.lk false true [(nat_lit 0), (nat_lit 0)] (.a (.b false)) (.s (.l (.r (.r (.l (.l (.l (.r .h)))))))) (.s (.l (.l (.r (.r (.l (.l (.r .h))))))))), (nat_lit 10), [(nat_lit 0), (nat_lit 1), (nat_lit 2), (nat_lit 3), (nat_lit 4), (nat_lit 5), (nat_lit 6), (nat_lit 7), (nat_lit 8), (nat_lit 9)], []⟩])
 (.cond (.s (.r (.l (.r (.r (.l (.l (.r .h)))))))) (.drw [⟨.p (.l (.r (.r (.r (.l (.l (.r .h))))))) none (.mv (.s (.r (.r (.l (.l .h)))))), (nat_lit 0), [], []⟩,
  ⟨.p (.r (.r (.r (.r (.l (.l (.r .h))))))) none (.mv (.s (.r (.r (.l (.l .h)))))), (nat_lit 1), [], []⟩,
  ⟨.p (.l (.l (.l (.l (.r (.l (.r .h))))))) none (.nc (.s (.r (.r (.r (.r (.l (.l (.r .h))))))))), (nat_lit 2), [(nat_lit 1)], []⟩,
  ⟨.p (.r (.l (.l (.l (.r (.l (.r .h))))))) none (.fa (nat_lit 1) (.s (.l (.l (.l (.l (.r (.l (.r .h))))))))), (nat_lit 3), [(nat_lit 1), (nat_lit 2)], []⟩,
  ⟨.r (.l (.r (.l (.l (.r (.l (.r .h))))))) none (.ld (.s (.r (.l (.l (.l (.r (.l (.r .h))))))))), (nat_lit 4), [(nat_lit 1), (nat_lit 2), (nat_lit 3)], []⟩,
  ⟨.p (.r (.r (.l (.l (.r (.l (.r .h))))))) none (.mv (.s (.l (.r (.l .h))))), (nat_lit 5), [], []⟩,
  ⟨.p (.l (.l (.r (.l (.r (.l (.r .h))))))) none (.mv (.s (.r (.l (.r (.l .h)))))), (nat_lit 6), [], []⟩,
  ⟨.v (some (.r (.l (.r (.l (.r (.l (.r .h)))))))) none (.s (.r (.r (.l (.l (.r (.l (.r .h)))))))) [(.s (.l (.l (.r (.l (.r (.l (.r .h))))))))], (nat_lit 7), [(nat_lit 5), (nat_lit 6)], [true]⟩,
  ⟨.a (.l (.r (.r (.l (.r (.l (.r .h))))))) none (.bs (nat_lit 3) (nat_lit 1) [(.i .i64 (.n (nat_lit 0)))] [((nat_lit 0), (nat_lit 1), (.s (.r (.l (.r (.l (.r (.l (.r .h)))))))))]), (nat_lit 8), [(nat_lit 5), (nat_lit 6), (nat_lit 7)], []⟩,
  ⟨.c (some (.r (.r (.r (.l (.r (.l (.r .h)))))))) none (.ap (nat_lit 3) (nat_lit 1) (nat_lit 8) (.s (.l (.r (.l (.l (.r (.l (.r .h)))))))) (.s (.l (.r (.r (.l (.r (.l (.r .h))))))))), (nat_lit 9), [(nat_lit 1), (nat_lit 2), (nat_lit 3), (nat_lit 4), (nat_lit 5), (nat_lit 6), (nat_lit 7), (nat_lit 8)], []⟩,
  ⟨.p (.l (.l (.l (.r (.r (.l (.r .h))))))) none (.nc (.s (.l (.r (.r (.r (.l (.l (.r .h))))))))), (nat_lit 10), [(nat_lit 0), (nat_lit 1), (nat_lit 2), (nat_lit 3), (nat_lit 4), (nat_lit 5), (nat_lit 6), (nat_lit 7), (nat_lit 8), (nat_lit 9)], []⟩,
  ⟨.p (.r (.l (.l (.r (.r (.l (.r .h))))))) none (.fa (nat_lit 1) (.s (.l (.l (.l (.r (.r (.l (.r .h))))))))), (nat_lit 11), [(nat_lit 0), (nat_lit 1), (nat_lit 2), (nat_lit 3), (nat_lit 4), (nat_lit 5), (nat_lit 6), (nat_lit 7), (nat_lit 8), (nat_lit 9), (nat_lit 10)], []⟩,
  ⟨.c none none (.st (nat_lit 1) (.s (.r (.l (.l (.r (.r (.l (.r .h)))))))) (.s (.r (.r (.r (.l (.r (.l (.r .h))))))))), (nat_lit 12), [(nat_lit 0), (nat_lit 1), (nat_lit 2), (nat_lit 3), (nat_lit 4), (nat_lit 5), (nat_lit 6), (nat_lit 7), (nat_lit 8), (nat_lit 9), (nat_lit 10), (nat_lit 11)], []⟩]) .skip))))
 (.reg [.p (.l (.r (.l (.r (.r (.l (.r .h))))))) none (.ar .add (.s (.l (.r (.r (.r (.r (.r (.l .h)))))))) (.c (.a (.i .i64 (.n (nat_lit 1)))))),
  .p (.l (.r (.r (.r (.r (.r (.l .h))))))) none (.mv (.s (.l (.r (.l (.r (.r (.l (.r .h)))))))))])))))))))))
 (.reg [.p (.r (.r (.l (.r (.r (.l (.r .h))))))) none (.ar .add (.s (.l (.r (.r (.r (.l (.r (.l .h)))))))) (.c (.a (.i .i64 (.n (nat_lit 1)))))),
  .p (.l (.r (.r (.r (.l (.r (.l .h))))))) none (.mv (.s (.r (.r (.l (.r (.r (.l (.r .h)))))))))])))))))
 (.seq (.reg [.r (.l (.l (.r (.r (.r (.l (.r .h))))))) none (.lg (nat_lit 10) (.s (.r (.r .h)))),
  .c none none (.st (nat_lit 10) (.s (.r (.l .h))) (.s (.l (.l (.r (.r (.r (.l (.r .h)))))))))])
 .rt))))))))))))), false, false⟩
noncomputable def rf39 : RF := ⟨[.h], [.s (.r .h)], (.seq (.reg [.a (.l .h) none (.bx (nat_lit 51) (nat_lit 4) (.s .h)),
  .p (.r .h) none (.mv (.c (.a (.b false))))])
 (.seq (.drw [⟨.p (.l (.l .h)) none (.fa (nat_lit 0) (.s (.l .h))), (nat_lit 0), [], []⟩,
  ⟨.r (.r (.l .h)) none (.ld (.s (.l (.l .h)))), (nat_lit 1), [(nat_lit 0)], []⟩,
  ⟨.k (some (.l (.r .h))) none (nat_lit 42) (.r (.r (.l (.r (.l .h))))) [(.s (.r (.l .h))), (.c (.a (.i .i64 (.n (nat_lit 4)))))], (nat_lit 2), [(nat_lit 0), (nat_lit 1)], []⟩,
  ⟨.p (.r (.r .h)) none (.mv (.s (.l (.r .h)))), (nat_lit 3), [(nat_lit 0), (nat_lit 1), (nat_lit 2)], []⟩,
  ⟨.p (.l (.l (.l .h))) (some ((.r (.r .h)), true)) (.fa (nat_lit 1) (.s (.l .h))), (nat_lit 4), [(nat_lit 0), (nat_lit 1), (nat_lit 2), (nat_lit 3)], []⟩,
  ⟨.r (.r (.l (.l .h))) (some ((.r (.r .h)), true)) (.ld (.s (.l (.l (.l .h))))), (nat_lit 5), [(nat_lit 0), (nat_lit 1), (nat_lit 2), (nat_lit 3), (nat_lit 4)], []⟩,
  ⟨.p (.l (.r (.l .h))) (some ((.r (.r .h)), true)) (.ln (.s (.r (.l (.l .h))))), (nat_lit 6), [(nat_lit 0), (nat_lit 1), (nat_lit 2), (nat_lit 3), (nat_lit 4), (nat_lit 5)], []⟩,
  ⟨.p (.r (.r (.l .h))) (some ((.r (.r .h)), true)) (.cp .gtr (.s (.l (.r (.l .h)))) (.c (.a (.i .i64 (.n (nat_lit 0)))))), (nat_lit 7), [(nat_lit 0), (nat_lit 1), (nat_lit 2), (nat_lit 3), (nat_lit 4), (nat_lit 5), (nat_lit 6)], []⟩,
  ⟨.p (.l (.l (.r .h))) none (.pk (.s (.r (.r .h))) (.s (.r (.r (.l .h)))) (.c (.a (.b false)))), (nat_lit 8), [(nat_lit 0), (nat_lit 1), (nat_lit 2), (nat_lit 3), (nat_lit 4), (nat_lit 5), (nat_lit 6), (nat_lit 7)], []⟩,
  ⟨.p (.r (.l (.r .h))) none (.mv (.s (.l (.l (.r .h))))), (nat_lit 9), [(nat_lit 0), (nat_lit 1), (nat_lit 2), (nat_lit 3), (nat_lit 4), (nat_lit 5), (nat_lit 6), (nat_lit 7), (nat_lit 8)], []⟩,
  ⟨.p (.l (.r (.r .h))) (some ((.r (.l (.r .h))), true)) (.fa (nat_lit 1) (.s (.l .h))), (nat_lit 10), [(nat_lit 0), (nat_lit 1), (nat_lit 2), (nat_lit 3), (nat_lit 4), (nat_lit 5), (nat_lit 6), (nat_lit 7), (nat_lit 8), (nat_lit 9)], []⟩,
  ⟨.r (.r (.r (.r .h))) (some ((.r (.l (.r .h))), true)) (.ld (.s (.l (.r (.r .h))))), (nat_lit 11), [(nat_lit 0), (nat_lit 1), (nat_lit 2), (nat_lit 3), (nat_lit 4), (nat_lit 5), (nat_lit 6), (nat_lit 7), (nat_lit 8), (nat_lit 9), (nat_lit 10)], []⟩,
  ⟨.p (.l (.l (.l (.l .h)))) (some ((.r (.l (.r .h))), true)) (.ix (nat_lit 10) (.s (.r (.r (.r .h)))) (.c (.a (.i .i64 (.n (nat_lit 0)))))), (nat_lit 12), [(nat_lit 0), (nat_lit 1), (nat_lit 2), (nat_lit 3), (nat_lit 4), (nat_lit 5), (nat_lit 6), (nat_lit 7), (nat_lit 8), (nat_lit 9), (nat_lit 10), (nat_lit 11)], []⟩,
  ⟨.p (.r (.l (.l (.l .h)))) (some ((.r (.l (.r .h))), true)) (.fa (nat_lit 0) (.s (.l (.l (.l (.l .h)))))), (nat_lit 13), [(nat_lit 0), (nat_lit 1), (nat_lit 2), (nat_lit 3), (nat_lit 4), (nat_lit 5), (nat_lit 6), (nat_lit 7), (nat_lit 8), (nat_lit 9), (nat_lit 10), (nat_lit 11), (nat_lit 12)], []⟩,
  ⟨.r (.l (.r (.l (.l .h)))) (some ((.r (.l (.r .h))), true)) (.ld (.s (.r (.l (.l (.l .h)))))), (nat_lit 14), [(nat_lit 0), (nat_lit 1), (nat_lit 2), (nat_lit 3), (nat_lit 4), (nat_lit 5), (nat_lit 6), (nat_lit 7), (nat_lit 8), (nat_lit 9), (nat_lit 10), (nat_lit 11), (nat_lit 12), (nat_lit 13)], []⟩,
  ⟨.p (.r (.r (.l (.l .h)))) (some ((.r (.l (.r .h))), true)) (.fa (nat_lit 0) (.s (.l .h))), (nat_lit 15), [(nat_lit 0), (nat_lit 1), (nat_lit 2), (nat_lit 3), (nat_lit 4), (nat_lit 5), (nat_lit 6), (nat_lit 7), (nat_lit 8), (nat_lit 9)], []⟩,
  ⟨.r (.l (.l (.r (.l .h)))) (some ((.r (.l (.r .h))), true)) (.ld (.s (.r (.r (.l (.l .h)))))), (nat_lit 16), [(nat_lit 0), (nat_lit 1), (nat_lit 2), (nat_lit 3), (nat_lit 4), (nat_lit 5), (nat_lit 6), (nat_lit 7), (nat_lit 8), (nat_lit 9), (nat_lit 15)], []⟩,
  ⟨.p (.r (.l (.r (.l .h)))) (some ((.r (.l (.r .h))), true)) (.cp .eql (.s (.l (.r (.l (.l .h))))) (.s (.l (.l (.r (.l .h)))))), (nat_lit 17), [(nat_lit 0), (nat_lit 1), (nat_lit 2), (nat_lit 3), (nat_lit 4), (nat_lit 5), (nat_lit 6), (nat_lit 7), (nat_lit 8), (nat_lit 9), (nat_lit 10), (nat_lit 11), (nat_lit 12), (nat_lit 13), (nat_lit 14), (nat_lit 15), (nat_lit 16)], []⟩,
  ⟨.p (.l (.r (.r (.l .h)))) none (.pk (.s (.r (.l (.r .h)))) (.s (.r (.l (.r (.l .h))))) (.c (.a (.b false)))), (nat_lit 18), [(nat_lit 0), (nat_lit 1), (nat_lit 2), (nat_lit 3), (nat_lit 4), (nat_lit 5), (nat_lit 6), (nat_lit 7), (nat_lit 8), (nat_lit 9), (nat_lit 10), (nat_lit 11), (nat_lit 12), (nat_lit 13), (nat_lit 14), (nat_lit 15), (nat_lit 16), (nat_lit 17)], []⟩,
  ⟨.p (.r .h) none (.mv (.s (.l (.r (.r (.l .h)))))), (nat_lit 19), [(nat_lit 0), (nat_lit 1), (nat_lit 2), (nat_lit 3), (nat_lit 4), (nat_lit 5), (nat_lit 6), (nat_lit 7), (nat_lit 8), (nat_lit 9), (nat_lit 10), (nat_lit 11), (nat_lit 12), (nat_lit 13), (nat_lit 14), (nat_lit 15), (nat_lit 16), (nat_lit 17), (nat_lit 18)], []⟩])
 .rt)), false, false⟩
noncomputable def rf40 : RF := ⟨[.h], [.s (.r .h)], (.seq (.reg [.p (.r .h) none (.mv (.c (.a (.b false))))])
 (.seq (.seq (.reg [.p (.l (.r .h)) none (.mv (.s .h)),
  .p (.r (.r .h)) none (.ln (.s (.l (.r .h)))),
  .p (.l (.l (.l .h))) none (.cp .eql (.s (.r (.r .h))) (.c (.a (.i .i64 (.n (nat_lit 0)))))),
  .p (.r (.l (.l .h))) none (.mv (.s (.l (.l (.l .h))))),
  .p (.l (.r (.l .h))) (some ((.r (.l (.l .h))), false)) (.mv (.s .h)),
  .p (.r (.r (.l .h))) (some ((.r (.l (.l .h))), false)) (.ix (nat_lit 3) (.s (.l (.r (.l .h)))) (.c (.a (.i .i64 (.n (nat_lit 0)))))),
  .p (.l (.l (.r .h))) (some ((.r (.l (.l .h))), false)) (.fa (nat_lit 0) (.s (.r (.r (.l .h))))),
  .r (.r (.l (.r .h))) (some ((.r (.l (.l .h))), false)) (.ld (.s (.l (.l (.r .h))))),
  .p (.l (.r (.r .h))) (some ((.r (.l (.l .h))), false)) (.cp .neq (.s (.r (.l (.r .h)))) (.c (.a (.i .i64 (.g (nat_lit 0)))))),
  .p (.r (.r (.r .h))) none (.pk (.s (.r (.l (.l .h)))) (.c (.a (.b true))) (.s (.l (.r (.r .h))))),
  .p (.l (.l (.l (.l .h)))) none (.mv (.s (.r (.r (.r .h))))),
  .p (.r (.l (.l (.l .h)))) (some ((.l (.l (.l (.l .h)))), false)) (.mv (.s .h)),
  .p (.l (.r (.l (.l .h)))) (some ((.l (.l (.l (.l .h)))), false)) (.ix (nat_lit 3) (.s (.r (.l (.l (.l .h))))) (.c (.a (.i .i64 (.n (nat_lit 0)))))),
  .p (.r (.r (.l (.l .h)))) (some ((.l (.l (.l (.l .h)))), false)) (.fa (nat_lit 1) (.s (.l (.r (.l (.l .h)))))),
  .r (.l (.l (.r (.l .h)))) (some ((.l (.l (.l (.l .h)))), false)) (.ld (.s (.r (.r (.l (.l .h)))))),
  .p (.r (.l (.r (.l .h)))) (some ((.l (.l (.l (.l .h)))), false)) (.cp .neq (.s (.l (.l (.r (.l .h))))) (.c (.a (.i .i64 (.g (nat_lit 0)))))),
  .p (.l (.r (.r (.l .h)))) none (.pk (.s (.l (.l (.l (.l .h))))) (.c (.a (.b true))) (.s (.r (.l (.r (.l .h))))))])
 (.cond (.s (.l (.r (.r (.l .h))))) (.seq (.reg [.p (.r .h) none (.mv (.c (.a (.b false))))])
 .rt) .skip))
 (.seq (.seq (.reg [.p (.r (.r (.r (.l .h)))) none (.mv (.s .h)),
  .p (.l (.l (.l (.r .h)))) none (.ln (.s (.r (.r (.r (.l .h)))))),
  .p (.r (.l (.l (.r .h)))) none (.mv (.c (.a (.i .i64 (.n (nat_lit 0))))))])
 (.blk (nat_lit 0) (.loop (.seq (.reg [.p (.l (.r (.l (.r .h)))) none (.cp .lss (.s (.r (.l (.l (.r .h))))) (.s (.l (.l (.l (.r .h))))))])
 (.seq (.cond (.s (.l (.r (.l (.r .h))))) .skip (.ex (nat_lit 0)))
 (.seq (.blk (nat_lit 1) (.seq (.reg [.p (.r (.r (.l (.r .h)))) none (.mv (.s (.r (.l (.l (.r .h)))))),
  .p (.l (.l (.r (.r .h)))) none (.ix (nat_lit 3) (.s (.r (.r (.r (.l .h))))) (.s (.r (.l (.l (.r .h)))))),
  .r (.r (.l (.r (.r .h)))) none (.lg (nat_lit 3) (.s (.l (.l (.r (.r .h)))))),
  .a (.r (.l .h)) none (.al (nat_lit 94) (nat_lit 3) (.n (.n .e (.i .i64 (.n (nat_lit 0))) .e) (.i .i64 (.n (nat_lit 0))) (.n .e (.i .i64 (.n (nat_lit 0))) .e))),
  .p (.l (.l .h)) none (.mv (.s (.r (.r (.l (.r .h)))))),
  .c none none (.st (nat_lit 3) (.s (.r (.l .h))) (.s (.r (.l (.r (.r .h))))))])
 (.seq (.seq (.reg [.p (.l (.r (.r (.r .h)))) none (.fa (nat_lit 2) (.s (.r (.l .h)))),
  .r (.r (.r (.r (.r .h)))) none (.ld (.s (.l (.r (.r (.r .h)))))),
  .k (some (.l (.l (.l (.l (.l .h)))))) none (nat_lit 42) (.r (.r (.l (.r (.l .h))))) [(.s (.r (.r (.r (.r .h))))), (.c (.a (.i .i64 (.n (nat_lit 7)))))],
  .p (.r (.l (.l (.l (.l .h))))) none (.nt (.s (.l (.l (.l (.l (.l .h)))))))])
 (.cond (.s (.r (.l (.l (.l (.l .h)))))) (.seq (.reg [.p (.r .h) none (.mv (.c (.a (.b false))))])
 .rt) .skip))
 (.seq (.reg [.p (.l (.r (.l (.l (.l .h))))) none (.mv (.s (.l (.l .h)))),
  .p (.r (.r (.l (.l (.l .h))))) none (.cp .gtr (.s (.l (.r (.l (.l (.l .h)))))) (.c (.a (.i .i64 (.n (nat_lit 0)))))),
  .p (.l (.l (.r (.l (.l .h))))) none (.mv (.s (.r (.r (.l (.l (.l .h))))))),
  .p (.r (.l (.r (.l (.l .h))))) (some ((.l (.l (.r (.l (.l .h))))), true)) (.fa (nat_lit 0) (.s (.r (.l .h)))),
  .r (.l (.r (.r (.l (.l .h))))) (some ((.l (.l (.r (.l (.l .h))))), true)) (.ld (.s (.r (.l (.r (.l (.l .h))))))),
  .p (.r (.r (.r (.l (.l .h))))) (some ((.l (.l (.r (.l (.l .h))))), true)) (.mv (.s (.l (.l .h)))),
  .p (.l (.l (.l (.r (.l .h))))) (some ((.l (.l (.r (.l (.l .h))))), true)) (.ar .sub (.s (.r (.r (.r (.l (.l .h)))))) (.c (.a (.i .i64 (.n (nat_lit 1)))))),
  .k (some (.r (.l (.l (.r (.l .h)))))) (some ((.l (.l (.r (.l (.l .h))))), true)) (nat_lit 42) (.r (.r (.l (.r (.l .h))))) [(.s (.l (.r (.r (.l (.l .h)))))), (.s (.l (.l (.l (.r (.l .h))))))],
  .p (.l (.r (.l (.r (.l .h))))) (some ((.l (.l (.r (.l (.l .h))))), true)) (.nt (.s (.r (.l (.l (.r (.l .h))))))),
  .p (.r (.r (.l (.r (.l .h))))) (some ((.l (.l (.r (.l (.l .h))))), true)) (.mv (.s (.l (.r (.l (.r (.l .h))))))),
  .p (.l (.l (.r (.r (.l .h))))) (some ((.r (.r (.l (.r (.l .h))))), false)) (.fa (nat_lit 1) (.s (.r (.l .h)))),
  .r (.r (.l (.r (.r (.l .h))))) (some ((.r (.r (.l (.r (.l .h))))), false)) (.ld (.s (.l (.l (.r (.r (.l .h))))))),
  .k (some (.l (.r (.r (.r (.l .h)))))) (some ((.r (.r (.l (.r (.l .h))))), false)) (nat_lit 42) (.r (.r (.l (.r (.l .h))))) [(.s (.r (.l (.r (.r (.l .h)))))), (.c (.a (.i .i64 (.n (nat_lit 9999)))))],
  .p (.r (.r (.r (.r (.l .h))))) (some ((.r (.r (.l (.r (.l .h))))), false)) (.nt (.s (.l (.r (.r (.r (.l .h))))))),
  .p (.l (.l (.l (.l (.r .h))))) (some ((.l (.l (.r (.l (.l .h))))), true)) (.pk (.s (.r (.r (.l (.r (.l .h)))))) (.c (.a (.b true))) (.s (.r (.r (.r (.r (.l .h))))))),
  .p (.r (.l (.l (.l (.r .h))))) none (.pk (.s (.l (.l (.r (.l (.l .h)))))) (.s (.l (.l (.l (.l (.r .h)))))) (.c (.a (.b false))))])
 (.cond (.s (.r (.l (.l (.l (.r .h)))))) (.seq (.reg [.p (.r .h) none (.mv (.c (.a (.b false))))])
 .rt) .skip)))))
 (.reg [.p (.l (.r (.l (.l (.r .h))))) none (.ar .add (.s (.r (.l (.l (.r .h))))) (.c (.a (.i .i64 (.n (nat_lit 1)))))),
  .p (.r (.l (.l (.r .h)))) none (.mv (.s (.l (.r (.l (.l (.r .h)))))))])))))))
 (.seq (.reg [.p (.r .h) none (.mv (.c (.a (.b true))))])
 .rt)))), false, false⟩
noncomputable def rf41 : RF := ⟨[.h], [.s (.r .h)], (.seq (.reg [.a (.l .h) none (.bx (nat_lit 51) (nat_lit 4) (.s .h)),
  .p (.r .h) none (.mv (.c (.a (.b false))))])
 (.seq (.reg [.a (.l (.l (.l .h))) none (.mm),
  .p (.l (.l .h)) none (.mv (.s (.l (.l (.l .h)))))])
 (.seq (.seq (.reg [.p (.r (.l (.l .h))) none (.fa (nat_lit 3) (.s (.l .h))),
  .r (.l (.r (.l .h))) none (.ld (.s (.r (.l (.l .h))))),
  .p (.r (.r (.l .h))) none (.ln (.s (.l (.r (.l .h))))),
  .p (.l (.l (.r .h))) none (.mv (.c (.a (.i .i64 (.n (nat_lit 0))))))])
 (.blk (nat_lit 0) (.loop (.seq (.reg [.p (.r (.l (.r .h))) none (.cp .lss (.s (.l (.l (.r .h)))) (.s (.r (.r (.l .h)))))])
 (.seq (.cond (.s (.r (.l (.r .h)))) .skip (.ex (nat_lit 0)))
 (.seq (.blk (nat_lit 1) (.seq (.reg [.p (.l (.r (.r .h))) none (.ix (nat_lit 3) (.s (.l (.r (.l .h)))) (.s (.l (.l (.r .h))))),
  .r (.r (.r (.r .h))) none (.lg (nat_lit 3) (.s (.l (.r (.r .h))))),
  .a (.l (.r .h)) none (.al (nat_lit 127) (nat_lit 3) (.n (.n .e (.i .i64 (.n (nat_lit 0))) .e) (.i .i64 (.n (nat_lit 0))) (.n .e (.i .i64 (.n (nat_lit 0))) .e))),
  .c none none (.st (nat_lit 3) (.s (.l (.r .h))) (.s (.r (.r (.r .h)))))])
 (.seq (.reg [.p (.l (.l (.l (.l .h)))) none (.fa (nat_lit 0) (.s (.l (.r .h)))),
  .r (.r (.l (.l (.l .h)))) none (.ld (.s (.l (.l (.l (.l .h)))))),
  .p (.l (.r (.l (.l .h)))) none (.fa (nat_lit 1) (.s (.l (.r .h)))),
  .r (.r (.r (.l (.l .h)))) none (.ld (.s (.l (.r (.l (.l .h)))))),
  .p (.l (.l (.r (.l .h)))) none (.bd [(.i .i64 (.n (nat_lit 0))), (.i .i64 (.n (nat_lit 0))), (.i .i64 (.n (nat_lit 0)))] [((nat_lit 0), (nat_lit 1), (.s (.r (.l (.l (.l .h)))))), ((nat_lit 1), (nat_lit 1), (.s (.r (.r (.l (.l .h))))))]),
  .a (.r (.r .h)) none (.al (nat_lit 157) (nat_lit 3) (.n (.n .e (.i .i64 (.n (nat_lit 0))) .e) (.i .i64 (.n (nat_lit 0))) (.n .e (.i .i64 (.n (nat_lit 0))) .e))),
  .c none none (.st (nat_lit 3) (.s (.r (.r .h))) (.s (.l (.l (.r (.l .h))))))])
 (.seq (.seq (.reg [.p (.r (.l (.r (.l .h)))) none (.fa (nat_lit 0) (.s (.l (.r .h)))),
  .r (.l (.r (.r (.l .h)))) none (.ld (.s (.r (.l (.r (.l .h)))))),
  .p (.r (.r (.r (.l .h)))) none (.fa (nat_lit 2) (.s (.l .h))),
  .r (.l (.l (.l (.r .h)))) none (.ld (.s (.r (.r (.r (.l .h)))))),
  .p (.r (.l (.l (.r .h)))) none (.ln (.s (.l (.l (.l (.r .h)))))),
  .p (.l (.r (.l (.r .h)))) none (.ar .sub (.s (.r (.l (.l (.r .h))))) (.c (.a (.i .i64 (.n (nat_lit 1)))))),
  .k (some (.r (.r (.l (.r .h))))) none (nat_lit 42) (.r (.r (.l (.r (.l .h))))) [(.s (.l (.r (.r (.l .h))))), (.s (.l (.r (.l (.r .h)))))],
  .p (.l (.l (.r (.r .h)))) none (.nt (.s (.r (.r (.l (.r .h)))))),
  .p (.r (.l (.r (.r .h)))) none (.mv (.s (.l (.l (.r (.r .h)))))),
  .p (.l (.r (.r (.r .h)))) (some ((.r (.l (.r (.r .h)))), false)) (.fa (nat_lit 1) (.s (.l (.r .h)))),
  .r (.r (.r (.r (.r .h)))) (some ((.r (.l (.r (.r .h)))), false)) (.ld (.s (.l (.r (.r (.r .h)))))),
  .k (some (.l (.l (.l (.l (.l .h)))))) (some ((.r (.l (.r (.r .h)))), false)) (nat_lit 42) (.r (.r (.l (.r (.l .h))))) [(.s (.r (.r (.r (.r .h))))), (.c (.a (.i .i64 (.n (nat_lit 23)))))],
  .p (.r (.l (.l (.l (.l .h))))) (some ((.r (.l (.r (.r .h)))), false)) (.nt (.s (.l (.l (.l (.l (.l .h))))))),
  .p (.l (.r (.l (.l (.l .h))))) none (.pk (.s (.r (.l (.r (.r .h))))) (.c (.a (.b true))) (.s (.r (.l (.l (.l (.l .h))))))),
  .p (.r (.r (.l (.l (.l .h))))) none (.mv (.s (.l (.r (.l (.l (.l .h))))))),
  .p (.l (.l (.r (.l (.l .h))))) (some ((.r (.r (.l (.l (.l .h))))), false)) (.fa (nat_lit 2) (.s (.l (.r .h)))),
  .r (.r (.l (.r (.l (.l .h))))) (some ((.r (.r (.l (.l (.l .h))))), false)) (.ld (.s (.l (.l (.r (.l (.l .h))))))),
  .p (.l (.r (.r (.l (.l .h))))) (some ((.r (.r (.l (.l (.l .h))))), false)) (.cp .lss (.s (.r (.l (.r (.l (.l .h)))))) (.c (.a (.i .i64 (.n (nat_lit 1)))))),
  .p (.r (.r (.r (.l (.l .h))))) none (.pk (.s (.r (.r (.l (.l (.l .h)))))) (.c (.a (.b true))) (.s (.l (.r (.r (.l (.l .h))))))),
  .p (.l (.l (.l (.r (.l .h))))) none (.mv (.s (.r (.r (.r (.l (.l .h))))))),
  .p (.r (.l (.l (.r (.l .h))))) (some ((.l (.l (.l (.r (.l .h))))), false)) (.fa (nat_lit 2) (.s (.l (.r .h)))),
  .r (.l (.r (.l (.r (.l .h))))) (some ((.l (.l (.l (.r (.l .h))))), false)) (.ld (.s (.r (.l (.l (.r (.l .h))))))),
  .p (.r (.r (.l (.r (.l .h))))) (some ((.l (.l (.l (.r (.l .h))))), false)) (.cp .gtr (.s (.l (.r (.l (.r (.l .h)))))) (.c (.a (.i .i64 (.n (nat_lit 8)))))),
  .p (.l (.l (.r (.r (.l .h))))) none (.pk (.s (.l (.l (.l (.r (.l .h)))))) (.c (.a (.b true))) (.s (.r (.r (.l (.r (.l .h))))))),
  .p (.r (.l (.r (.r (.l .h))))) none (.mv (.s (.l (.l (.r (.r (.l .h))))))),
  .p (.l (.r (.r (.r (.l .h))))) (some ((.r (.l (.r (.r (.l .h))))), false)) (.mv (.s (.l (.l .h)))),
  .r (.r (.r (.r (.r (.l .h))))) (some ((.r (.l (.r (.r (.l .h))))), false)) (.lg (nat_lit 3) (.s (.r (.r .h)))),
  .r (.l (.l (.l (.l (.r .h))))) (some ((.r (.l (.r (.r (.l .h))))), false)) (.lk false true [(nat_lit 0), (nat_lit 0), (nat_lit 0)] (.a (.b false)) (.s (.l (.r (.r (.r (.l .h)))))) (.s (.r (.r (.r (.r (.l .h))))))),
  .p (.r (.l (.l (.l (.r .h))))) none (.pk (.s (.r (.l (.r (.r (.l .h)))))) (.c (.a (.b true))) (.s (.l (.l (.l (.l (.r .h)))))))])
 (.cond (.s (.r (.l (.l (.l (.r .h)))))) (.seq (.reg [.p (.r .h) none (.mv (.c (.a (.b false))))])
 .rt) .skip))
 (.reg [.p (.l (.r (.l (.l (.r .h))))) none (.mv (.s (.l (.l .h)))),
  .r (.r (.r (.l (.l (.r .h))))) none (.lg (nat_lit 3) (.s (.r (.r .h)))),
  .c none none (.mu true [(nat_lit 0), (nat_lit 0), (nat_lit 0)] (.s (.l (.r (.l (.l (.r .h)))))) (.s (.r (.r (.l (.l (.r .h)))))) (.c (.a (.b true))))])))))
 (.reg [.p (.l (.l (.r (.l (.r .h))))) none (.ar .add (.s (.l (.l (.r .h)))) (.c (.a (.i .i64 (.n (nat_lit 1)))))),
  .p (.l (.l (.r .h))) none (.mv (.s (.l (.l (.r (.l (.r .h)))))))])))))))
 (.seq (.reg [.p (.r .h) none (.mv (.c (.a (.b true))))])
 .rt)))), false, false⟩
noncomputable def rf42 : RF := ⟨[.h, (.l .h)], [.s (.r (.l .h))], (.seq (.reg [.p (.r (.l .h)) none (.mv (.c (.a (.b false))))])
 (.seq (.reg [.p (.l (.r .h)) none (.mv (.s .h)),
  .p (.r (.r .h)) none (.cp .geq (.s (.l (.r .h))) (.c (.a (.i .i64 (.n (nat_lit 0)))))),
  .p (.l (.l (.l .h))) none (.mv (.s (.r (.r .h)))),
  .p (.r (.l (.l .h))) (some ((.l (.l (.l .h))), true)) (.mv (.s .h)),
  .p (.l (.r (.l .h))) (some ((.l (.l (.l .h))), true)) (.mv (.s (.l .h))),
  .p (.r (.r (.l .h))) (some ((.l (.l (.l .h))), true)) (.cp .leq (.s (.r (.l (.l .h)))) (.s (.l (.r (.l .h))))),
  .p (.l (.l (.r .h))) none (.pk (.s (.l (.l (.l .h)))) (.s (.r (.r (.l .h)))) (.c (.a (.b false)))),
  .p (.r (.l .h)) none (.mv (.s (.l (.l (.r .h)))))])
 .rt)), false, false⟩
noncomputable def rf43 : RF := ⟨[.h, (.l .h)], [.s (.r (.l .h))], (.seq (.reg [.a (.r .h) none (.bx (nat_lit 51) (nat_lit 4) (.s .h)),
  .a (.l (.l .h)) none (.bx (nat_lit 60) (nat_lit 10) (.s (.l .h))),
  .p (.r (.l .h)) none (.mv (.c (.a (.b false))))])
 (.seq (.reg [.p (.r (.l (.r .h))) none (.fa (nat_lit 0) (.s (.l (.l .h)))),
  .r (.l (.r (.r .h))) none (.ld (.s (.r (.l (.r .h))))),
  .a (.r (.r (.r .h))) none (.mm),
  .p (.l (.l (.l (.l .h)))) none (.bd [(.i .i64 (.n (nat_lit 0))), .m0] [((nat_lit 0), (nat_lit 1), (.s (.l (.r (.r .h))))), ((nat_lit 1), (nat_lit 1), (.s (.r (.r (.r .h)))))]),
  .a (.l (.r .h)) none (.al (nat_lit 159) (nat_lit 2) (.n (.n .e .m0 .e) (.i .i64 (.n (nat_lit 0))) .e)),
  .c none none (.st (nat_lit 2) (.s (.l (.r .h))) (.s (.l (.l (.l (.l .h))))))])
 (.seq (.seq (.reg [.p (.r (.l (.l (.l .h)))) none (.fa (nat_lit 1) (.s (.l (.l .h)))),
  .r (.l (.r (.l (.l .h)))) none (.ld (.s (.r (.l (.l (.l .h)))))),
  .p (.r (.r (.l (.l .h)))) none (.ln (.s (.l (.r (.l (.l .h)))))),
  .p (.l (.l (.r (.l .h)))) none (.mv (.c (.a (.i .i64 (.n (nat_lit 0))))))])
 (.blk (nat_lit 0) (.loop (.seq (.reg [.p (.r (.l (.r (.l .h)))) none (.cp .lss (.s (.l (.l (.r (.l .h))))) (.s (.r (.r (.l (.l .h))))))])
 (.seq (.cond (.s (.r (.l (.r (.l .h))))) .skip (.ex (nat_lit 0)))
 (.seq (.blk (nat_lit 1) (.seq (.reg [.p (.l (.r (.r (.l .h)))) none (.mv (.s (.l (.l (.r (.l .h)))))),
  .p (.r (.r (.r (.l .h)))) none (.ix (nat_lit 11) (.s (.l (.r (.l (.l .h))))) (.s (.l (.l (.r (.l .h)))))),
  .r (.l (.l (.l (.r .h)))) none (.lg (nat_lit 11) (.s (.r (.r (.r (.l .h)))))),
  .a (.l (.l (.l .h))) none (.al (nat_lit 46) (nat_lit 11) (.n (.n (.n (.n .e (.i .i64 (.n (nat_lit 0))) .e) (.i .i64 (.n (nat_lit 0))) .e) (.i .i64 (.n (nat_lit 0))) (.n (.n .e (.i .i64 (.n (nat_lit 0))) .e) (.i .i64 (.n (nat_lit 0))) .e)) (.i .i64 (.n (nat_lit 0))) (.n (.n (.n .e (.i .i64 (.n (nat_lit 0))) .e) (.i .i64 (.n (nat_lit 0))) .e) (.i .i64 (.n (nat_lit 0))) (.n (.n .e (.i .i64 (.n (nat_lit 0))) .e) (.i .i64 (.n (nat_lit 0))) .e)))),
  .p (.r (.r .h)) none (.mv (.s (.l (.r (.r (.l .h)))))),
  .c none none (.st (nat_lit 11) (.s (.l (.l (.l .h)))) (.s (.l (.l (.l (.r .h))))))])
 (.seq (.seq (.reg [.p (.r (.l (.l (.r .h)))) none (.fa (nat_lit 0) (.s (.l (.l (.l .h))))),
  .r (.l (.r (.l (.r .h)))) none (.ld (.s (.r (.l (.l (.r .h)))))),
  .k (some (.r (.r (.l (.r .h))))) none (nat_lit 62) (.r (.r (.r (.r (.r .h))))) [(.s (.l (.r (.l (.r .h)))))],
  .p (.l (.l (.r (.r .h)))) none (.ar .and (.s (.r (.r (.l (.r .h))))) (.c (.a (.i .i64 (.n (nat_lit 1)))))),
  .p (.r (.l (.r (.r .h)))) none (.cp .eql (.s (.l (.l (.r (.r .h))))) (.c (.a (.i .i64 (.n (nat_lit 0))))))])
 (.cond (.s (.r (.l (.r (.r .h))))) (.ex (nat_lit 1)) .skip))
 (.seq (.seq (.reg [.p (.r (.r (.r (.r .h)))) none (.fa (nat_lit 1) (.s (.l (.r .h)))),
  .r (.l (.l (.l (.l (.l .h))))) none (.ld (.s (.r (.r (.r (.r .h)))))),
  .p (.r (.l (.l (.l (.l .h))))) none (.fa (nat_lit 1) (.s (.l (.l (.l .h))))),
  .r (.l (.r (.l (.l (.l .h))))) none (.ld (.s (.r (.l (.l (.l (.l .h))))))),
  .r (.r (.r (.l (.l (.l .h))))) none (.lk true false [(nat_lit 0)] (.a (.i .i64 (.n (nat_lit 0)))) (.s (.l (.l (.l (.l (.l .h)))))) (.s (.l (.r (.l (.l (.l .h))))))),
  .p (.l (.r (.r (.r .h)))) none (.mv (.s (.r (.r (.l (.l (.l .h))))))),
  .p (.l (.l (.r (.l (.l .h))))) none (.ex (nat_lit 0) (.s (.l (.r (.r (.r .h)))))),
  .p (.r (.l (.r (.l (.l .h))))) none (.ex (nat_lit 1) (.s (.l (.r (.r (.r .h)))))),
  .p (.r (.l (.l .h))) none (.mv (.s (.l (.l (.r (.l (.l .h))))))),
  .p (.l (.r (.l .h))) none (.mv (.s (.r (.l (.r (.l (.l .h)))))))])
 (.seq (.reg [.p (.l (.r (.r (.l (.l .h))))) none (.mv (.s (.l (.r (.l .h))))),
  .p (.r (.r (.r (.l (.l .h))))) none (.mv (.s (.l (.r (.r (.l (.l .h))))))),
  .p (.l (.l (.l (.r (.l .h))))) (some ((.r (.r (.r (.l (.l .h))))), false)) (.fa (nat_lit 1) (.s (.l (.l (.l .h))))),
  .r (.r (.l (.l (.r (.l .h))))) (some ((.r (.r (.r (.l (.l .h))))), false)) (.ld (.s (.l (.l (.l (.r (.l .h))))))),
  .p (.l (.r (.l (.r (.l .h))))) (some ((.r (.r (.r (.l (.l .h))))), false)) (.fa (nat_lit 0) (.s (.l (.l .h)))),
  .r (.r (.r (.l (.r (.l .h))))) (some ((.r (.r (.r (.l (.l .h))))), false)) (.ld (.s (.l (.r (.l (.r (.l .h))))))),
  .p (.l (.l (.r (.r (.l .h))))) (some ((.r (.r (.r (.l (.l .h))))), false)) (.cp .lss (.s (.r (.l (.l (.r (.l .h)))))) (.s (.r (.r (.l (.r (.l .h))))))),
  .p (.r (.l (.r (.r (.l .h))))) none (.pk (.s (.r (.r (.r (.l (.l .h)))))) (.c (.a (.b true))) (.s (.l (.l (.r (.r (.l .h))))))),
  .p (.l (.r (.r (.r (.l .h))))) none (.mv (.s (.r (.l (.r (.r (.l .h))))))),
  .p (.r (.r (.r (.r (.l .h))))) (some ((.l (.r (.r (.r (.l .h))))), false)) (.fa (nat_lit 1) (.s (.l (.l (.l .h))))),
  .r (.l (.l (.l (.l (.r .h))))) (some ((.l (.r (.r (.r (.l .h))))), false)) (.ld (.s (.r (.r (.r (.r (.l .h))))))),
  .p (.r (.l (.l (.l (.r .h))))) (some ((.l (.r (.r (.r (.l .h))))), false)) (.cp .gtr (.s (.l (.l (.l (.l (.r .h)))))) (.c (.a (.i .i64 (.n (nat_lit 9999)))))),
  .p (.l (.r (.l (.l (.r .h))))) none (.pk (.s (.l (.r (.r (.r (.l .h)))))) (.c (.a (.b true))) (.s (.r (.l (.l (.l (.r .h)))))))])
 (.cond (.s (.l (.r (.l (.l (.r .h)))))) (.seq (.reg [.p (.r (.l .h)) none (.mv (.c (.a (.b false))))])
 .rt) .skip)))
 (.reg [.p (.r (.r (.l (.l (.r .h))))) none (.fa (nat_lit 1) (.s (.l (.r .h)))),
  .r (.l (.l (.r (.l (.r .h))))) none (.ld (.s (.r (.r (.l (.l (.r .h))))))),
  .p (.r (.l (.r (.l (.r .h))))) none (.fa (nat_lit 1) (.s (.l (.l (.l .h))))),
  .r (.l (.r (.r (.l (.r .h))))) none (.ld (.s (.r (.l (.r (.l (.r .h))))))),
  .p (.r (.r (.r (.l (.r .h))))) none (.mv (.s (.r (.r .h)))),
  .c none none (.mu false [(nat_lit 0)] (.s (.l (.l (.r (.l (.r .h)))))) (.s (.l (.r (.r (.l (.r .h)))))) (.s (.r (.r (.r (.l (.r .h)))))))])))))
 (.reg [.p (.l (.l (.l (.r (.r .h))))) none (.ar .add (.s (.l (.l (.r (.l .h))))) (.c (.a (.i .i64 (.n (nat_lit 1)))))),
  .p (.l (.l (.r (.l .h)))) none (.mv (.s (.l (.l (.l (.r (.r .h)))))))])))))))
 (.seq (.seq (.reg [.p (.r (.l (.l (.r (.r .h))))) none (.fa (nat_lit 1) (.s (.l (.l .h)))),
  .r (.l (.r (.l (.r (.r .h))))) none (.ld (.s (.r (.l (.l (.r (.r .h))))))),
  .p (.r (.r (.l (.r (.r .h))))) none (.ln (.s (.l (.r (.l (.r (.r .h))))))),
  .p (.l (.l (.r (.r (.r .h))))) none (.mv (.c (.a (.i .i64 (.n (nat_lit 0))))))])
 (.blk (nat_lit 2) (.loop (.seq (.reg [.p (.r (.l (.r (.r (.r .h))))) none (.cp .lss (.s (.l (.l (.r (.r (.r .h)))))) (.s (.r (.r (.l (.r (.r .h)))))))])
 (.seq (.cond (.s (.r (.l (.r (.r (.r .h)))))) .skip (.ex (nat_lit 2)))
 (.seq (.blk (nat_lit 3) (.seq (.reg [.p (.l (.r (.r (.r (.r .h))))) none (.mv (.s (.l (.l (.r (.r (.r .h))))))),
  .p (.r (.r (.r (.r (.r .h))))) none (.ix (nat_lit 11) (.s (.l (.r (.l (.r (.r .h)))))) (.s (.l (.l (.r (.r (.r .h))))))),
  .r (.l (.l (.l (.l (.l (.l .h)))))) none (.lg (nat_lit 11) (.s (.r (.r (.r (.r (.r .h))))))),
  .a (.l (.l (.r .h))) none (.al (nat_lit 46) (nat_lit 11) (.n (.n (.n (.n .e (.i .i64 (.n (nat_lit 0))) .e) (.i .i64 (.n (nat_lit 0))) .e) (.i .i64 (.n (nat_lit 0))) (.n (.n .e (.i .i64 (.n (nat_lit 0))) .e) (.i .i64 (.n (nat_lit 0))) .e)) (.i .i64 (.n (nat_lit 0))) (.n (.n (.n .e (.i .i64 (.n (nat_lit 0))) .e) (.i .i64 (.n (nat_lit 0))) .e) (.i .i64 (.n (nat_lit 0))) (.n (.n .e (.i .i64 (.n (nat_lit 0))) .e) (.i .i64 (.n (nat_lit 0))) .e)))),
  .p (.r (.r (.l .h))) none (.mv (.s (.l (.r (.r (.r (.r .h))))))),
  .c none none (.st (nat_lit 11) (.s (.l (.l (.r .h)))) (.s (.l (.l (.l (.l (.l (.l .h))))))))])
 (.seq (.reg [.r (.r (.l (.l (.l (.l (.l .h)))))) none (.lg (nat_lit 11) (.s (.l (.l (.r .h))))),
  .k (some (.l (.r (.l (.l (.l (.l .h))))))) none (nat_lit 63) (.l (.l (.l (.l (.l (.l .h)))))) [(.s (.r (.l (.l (.l (.l (.l .h)))))))],
  .p (.r (.r (.l (.l (.l (.l .h)))))) none (.nt (.s (.l (.r (.l (.l (.l (.l .h)))))))),
  .p (.l (.l (.r (.l (.l (.l .h)))))) none (.mv (.s (.r (.r (.l (.l (.l (.l .h)))))))),
  .r (.r (.l (.r (.l (.l (.l .h)))))) (some ((.l (.l (.r (.l (.l (.l .h)))))), false)) (.lg (nat_lit 4) (.s (.r .h))),
  .r (.l (.r (.r (.l (.l (.l .h)))))) (some ((.l (.l (.r (.l (.l (.l .h)))))), false)) (.lg (nat_lit 2) (.s (.l (.r .h)))),
  .r (.r (.r (.r (.l (.l (.l .h)))))) (some ((.l (.l (.r (.l (.l (.l .h)))))), false)) (.lg (nat_lit 11) (.s (.l (.l (.r .h))))),
  .p (.l (.l (.l (.r (.l (.l .h)))))) (some ((.l (.l (.r (.l (.l (.l .h)))))), false)) (.mv (.s (.r (.r (.l .h))))),
  .k (some (.r (.l (.l (.r (.l (.l .h))))))) (some ((.l (.l (.r (.l (.l (.l .h)))))), false)) (nat_lit 64) (.r (.l (.l (.l (.l (.l .h)))))) [(.s (.r (.l (.r (.l (.l (.l .h))))))), (.s (.l (.r (.r (.l (.l (.l .h))))))), (.s (.r (.r (.r (.l (.l (.l .h))))))), (.s (.l (.l (.l (.r (.l (.l .h)))))))],
  .p (.l (.r (.l (.r (.l (.l .h)))))) (some ((.l (.l (.r (.l (.l (.l .h)))))), false)) (.nt (.s (.r (.l (.l (.r (.l (.l .h)))))))),
  .p (.r (.r (.l (.r (.l (.l .h)))))) none (.pk (.s (.l (.l (.r (.l (.l (.l .h))))))) (.c (.a (.b true))) (.s (.l (.r (.l (.r (.l (.l .h)))))))),
  .p (.l (.l (.r (.r (.l (.l .h)))))) none (.mv (.s (.r (.r (.l (.r (.l (.l .h)))))))),
  .p (.r (.l (.r (.r (.l (.l .h)))))) (some ((.l (.l (.r (.r (.l (.l .h)))))), false)) (.fa (nat_lit 0) (.s (.l (.l (.r .h))))),
  .r (.l (.r (.r (.r (.l (.l .h)))))) (some ((.l (.l (.r (.r (.l (.l .h)))))), false)) (.ld (.s (.r (.l (.r (.r (.l (.l .h)))))))),
  .p (.r (.r (.r (.r (.l (.l .h)))))) (some ((.l (.l (.r (.r (.l (.l .h)))))), false)) (.cp .eql (.s (.l (.r (.r (.r (.l (.l .h))))))) (.c (.a (.i .i64 (.n (nat_lit 21)))))),
  .p (.l (.l (.l (.l (.r (.l .h)))))) (some ((.l (.l (.r (.r (.l (.l .h)))))), false)) (.mv (.s (.r (.r (.r (.r (.l (.l .h)))))))),
  .r (.r (.l (.l (.l (.r (.l .h)))))) (some ((.l (.l (.l (.l (.r (.l .h)))))), true)) (.lg (nat_lit 4) (.s (.r .h))),
  .r (.l (.r (.l (.l (.r (.l .h)))))) (some ((.l (.l (.l (.l (.r (.l .h)))))), true)) (.lg (nat_lit 2) (.s (.l (.r .h)))),
  .r (.r (.r (.l (.l (.r (.l .h)))))) (some ((.l (.l (.l (.l (.r (.l .h)))))), true)) (.lg (nat_lit 11) (.s (.l (.l (.r .h))))),
  .p (.l (.l (.r (.l (.r (.l .h)))))) (some ((.l (.l (.l (.l (.r (.l .h)))))), true)) (.fa (nat_lit 1) (.s (.l (.l .h)))),
  .r (.r (.l (.r (.l (.r (.l .h)))))) (some ((.l (.l (.l (.l (.r (.l .h)))))), true)) (.ld (.s (.l (.l (.r (.l (.r (.l .h)))))))),
  .p (.l (.r (.r (.l (.r (.l .h)))))) (some ((.l (.l (.l (.l (.r (.l .h)))))), true)) (.ln (.s (.r (.l (.r (.l (.r (.l .h)))))))),
  .k (some (.r (.r (.r (.l (.r (.l .h))))))) (some ((.l (.l (.l (.l (.r (.l .h)))))), true)) (nat_lit 65) (.l (.r (.l (.l (.l (.l .h)))))) [(.s (.r (.l (.l (.l (.r (.l .h))))))), (.s (.l (.r (.l (.l (.r (.l .h))))))), (.s (.r (.r (.l (.l (.r (.l .h))))))), (.s (.l (.r (.r (.l (.r (.l .h)))))))],
  .p (.l (.l (.l (.r (.r (.l .h)))))) (some ((.l (.l (.l (.l (.r (.l .h)))))), true)) (.nt (.s (.r (.r (.r (.l (.r (.l .h)))))))),
  .p (.r (.l (.l (.r (.r (.l .h)))))) (some ((.l (.l (.r (.r (.l (.l .h)))))), false)) (.pk (.s (.l (.l (.l (.l (.r (.l .h))))))) (.s (.l (.l (.l (.r (.r (.l .h))))))) (.c (.a (.b false)))),
  .p (.l (.r (.l (.r (.r (.l .h)))))) none (.pk (.s (.l (.l (.r (.r (.l (.l .h))))))) (.c (.a (.b true))) (.s (.r (.l (.l (.r (.r (.l .h))))))))])
 (.cond (.s (.l (.r (.l (.r (.r (.l .h))))))) (.seq (.reg [.p (.r (.l .h)) none (.mv (.c (.a (.b false))))])
 .rt) .skip))))
 (.reg [.p (.r (.r (.l (.r (.r (.l .h)))))) none (.ar .add (.s (.l (.l (.r (.r (.r .h)))))) (.c (.a (.i .i64 (.n (nat_lit 1)))))),
  .p (.l (.l (.r (.r (.r .h))))) none (.mv (.s (.r (.r (.l (.r (.r (.l .h))))))))])))))))
 (.seq (.reg [.r (.l (.l (.r (.r (.r (.l .h)))))) none (.lg (nat_lit 4) (.s (.r .h))),
  .r (.r (.l (.r (.r (.r (.l .h)))))) none (.lg (nat_lit 2) (.s (.l (.r .h)))),
  .p (.l (.r (.r (.r (.r (.l .h)))))) none (.fa (nat_lit 2) (.s (.l (.l .h)))),
  .r (.r (.r (.r (.r (.r (.l .h)))))) none (.lg (nat_lit 8) (.s (.l (.r (.r (.r (.r (.l .h)))))))),
  .p (.l (.l (.l (.l (.l (.r .h)))))) none (.fa (nat_lit 1) (.s (.l (.l .h)))),
  .r (.r (.l (.l (.l (.l (.r .h)))))) none (.ld (.s (.l (.l (.l (.l (.l (.r .h)))))))),
  .p (.l (.r (.l (.l (.l (.r .h)))))) none (.ln (.s (.r (.l (.l (.l (.l (.r .h)))))))),
  .k (some (.r (.r (.l (.l (.l (.r .h))))))) none (nat_lit 66) (.r (.r (.l (.l (.l (.l .h)))))) [(.s (.l (.l (.r (.r (.r (.l .h))))))), (.s (.r (.l (.r (.r (.r (.l .h))))))), (.s (.r (.r (.r (.r (.r (.l .h))))))), (.s (.l (.r (.l (.l (.l (.r .h)))))))],
  .p (.r (.l .h)) none (.mv (.s (.r (.r (.l (.l (.l (.r .h))))))))])
 .rt))))), false, false⟩
noncomputable def rf44 : RF := ⟨[.h], [.s (.r .h)], (.seq (.reg [.p (.r .h) none (.mv (.c (.a .s0)))])
 (.seq (.seq (.reg [.p (.l (.l .h)) none (.mv (.s .h)),
  .p (.r (.l .h)) none (.ne false (.s (.l (.l .h))))])
 (.cond (.s (.r (.l .h))) (.seq (.reg [.p (.r .h) none (.mv (.c (.a .s0)))])
 .rt) .skip))
 (.seq (.reg [.a (.l (.r .h)) none (.bs (nat_lit 94) (nat_lit 0) [] []),
  .p (.r (.r .h)) none (.mv (.s .h)),
  .c (some (.l (.l (.l .h)))) none (.ap (nat_lit 94) (nat_lit 3) (nat_lit 24) (.s (.l (.r .h))) (.s (.r (.r .h)))),
  .p (.r .h) none (.mv (.s (.l (.l (.l .h)))))])
 .rt))), false, false⟩
noncomputable def rf45 : RF := ⟨[.h], [.s (.r .h)], (.seq (.reg [.p (.r .h) none (.mv (.c (.a .s0)))])
 (.seq (.seq (.reg [.p (.l (.l .h)) none (.mv (.s .h)),
  .p (.r (.l .h)) none (.ne false (.s (.l (.l .h))))])
 (.cond (.s (.r (.l .h))) (.seq (.reg [.p (.r .h) none (.mv (.c (.a .s0)))])
 .rt) .skip))
 (.seq (.reg [.a (.l (.r .h)) none (.bs (nat_lit 127) (nat_lit 0) [] []),
  .p (.r (.r .h)) none (.mv (.s .h)),
  .c (some (.l (.l (.l .h)))) none (.ap (nat_lit 127) (nat_lit 3) (nat_lit 24) (.s (.l (.r .h))) (.s (.r (.r .h)))),
  .p (.r .h) none (.mv (.s (.l (.l (.l .h)))))])
 .rt))), false, false⟩
noncomputable def rf46 : RF := ⟨[.h], [.s (.r .h)], (.seq (.reg [.a (.l .h) none (.bx (nat_lit 51) (nat_lit 4) (.s .h)),
  .p (.r .h) none (.mv (.c (.a .f0)))])
 (.seq (.reg [.p (.l (.l .h)) none (.mf (nat_lit 67) [(.s (.l .h))]),
  .p (.r .h) none (.mv (.s (.l (.l .h))))])
 .rt)), false, false⟩
noncomputable def rf47 : RF := ⟨[.h, (.l .h)], [.s (.r (.l .h))], (.seq (.reg [.a (.l (.l .h)) none (.bx (nat_lit 91) (nat_lit 2) (.s (.l .h))),
  .p (.r (.l .h)) none (.mv (.c (.a (.i .i64 (.n (nat_lit 0))))))])
 (.seq (.blk (nat_lit 0) (.loop (.seq (.seq (.drw [⟨.p (.r (.r .h)) none (.fa (nat_lit 1) (.s (.l (.l .h)))), (nat_lit 0), [], []⟩,
  ⟨.r (.l (.l (.l .h))) none (.ld (.s (.r (.r .h)))), (nat_lit 1), [(nat_lit 0)], []⟩,
  ⟨.p (.r (.l (.l .h))) none (.mv (.s .h)), (nat_lit 2), [], []⟩,
  ⟨.p (.l (.r (.l .h))) none (.nc (.s (.r (.l (.l .h))))), (nat_lit 3), [(nat_lit 2)], []⟩,
  ⟨.p (.r (.r (.l .h))) none (.fa (nat_lit 0) (.s (.l (.r (.l .h))))), (nat_lit 4), [(nat_lit 2), (nat_lit 3)], []⟩,
  ⟨.p (.l (.l (.r .h))) none (.fa (nat_lit 1) (.s (.r (.r (.l .h))))), (nat_lit 5), [(nat_lit 2), (nat_lit 3), (nat_lit 4)], []⟩,
  ⟨.r (.r (.l (.r .h))) none (.ld (.s (.l (.l (.r .h))))), (nat_lit 6), [(nat_lit 2), (nat_lit 3), (nat_lit 4), (nat_lit 5)], []⟩,
  ⟨.p (.l (.r (.r .h))) none (.fa (nat_lit 0) (.s (.l (.l .h)))), (nat_lit 7), [], []⟩,
  ⟨.r (.r (.r (.r .h))) none (.ld (.s (.l (.r (.r .h))))), (nat_lit 8), [(nat_lit 7)], []⟩,
  ⟨.p (.l (.l (.l (.l .h)))) none (.ix (nat_lit 10) (.s (.r (.l (.r .h)))) (.s (.r (.r (.r .h))))), (nat_lit 9), [(nat_lit 2), (nat_lit 3), (nat_lit 4), (nat_lit 5), (nat_lit 6), (nat_lit 7), (nat_lit 8)], []⟩,
  ⟨.p (.r (.l (.l (.l .h)))) none (.fa (nat_lit 0) (.s (.l (.l (.l (.l .h)))))), (nat_lit 10), [(nat_lit 2), (nat_lit 3), (nat_lit 4), (nat_lit 5), (nat_lit 6), (nat_lit 7), (nat_lit 8), (nat_lit 9)], []⟩,
  ⟨.r (.l (.r (.l (.l .h)))) none (.ld (.s (.r (.l (.l (.l .h)))))), (nat_lit 11), [(nat_lit 2), (nat_lit 3), (nat_lit 4), (nat_lit 5), (nat_lit 6), (nat_lit 7), (nat_lit 8), (nat_lit 9), (nat_lit 10)], []⟩,
  ⟨.p (.r (.r (.l (.l .h)))) none (.cp .geq (.s (.l (.l (.l .h)))) (.s (.l (.r (.l (.l .h)))))), (nat_lit 12), [(nat_lit 0), (nat_lit 1), (nat_lit 2), (nat_lit 3), (nat_lit 4), (nat_lit 5), (nat_lit 6), (nat_lit 7), (nat_lit 8), (nat_lit 9), (nat_lit 10), (nat_lit 11)], []⟩])
 (.cond (.s (.r (.r (.l (.l .h))))) .skip (.ex (nat_lit 0))))
 (.blk (nat_lit 1) (.seq (.drw [⟨.p (.l (.l (.r (.l .h)))) none (.mv (.s .h)), (nat_lit 0), [], []⟩,
  ⟨.p (.r (.l (.r (.l .h)))) none (.nc (.s (.l (.l (.r (.l .h)))))), (nat_lit 1), [(nat_lit 0)], []⟩,
  ⟨.p (.l (.r (.r (.l .h)))) none (.fa (nat_lit 4) (.s (.r (.l (.r (.l .h)))))), (nat_lit 2), [(nat_lit 0), (nat_lit 1)], []⟩,
  ⟨.r (.r (.r (.r (.l .h)))) none (.ld (.s (.l (.r (.r (.l .h)))))), (nat_lit 3), [(nat_lit 0), (nat_lit 1), (nat_lit 2)], []⟩,
  ⟨.r (.l (.l (.l (.r .h)))) none (.lg (nat_lit 2) (.s (.l (.l .h)))), (nat_lit 4), [], []⟩,
  ⟨.r (.r (.l (.l (.r .h)))) none (.lk false true [(nat_lit 0), (nat_lit 0)] (.g [(.i .i64 (.n (nat_lit 0))), (.i .i64 (.n (nat_lit 0))), (.i .i64 (.n (nat_lit 0))), (.i .i64 (.n (nat_lit 0))), (.i .i64 (.n (nat_lit 0))), (.i .i64 (.n (nat_lit 0))), (.i .i64 (.n (nat_lit 0))), (.i .i64 (.n (nat_lit 0))), (.i .i64 (.n (nat_lit 0))), (.i .i64 (.n (nat_lit 0))), (.i .i64 (.n (nat_lit 0)))]) (.s (.r (.r (.r (.l .h))))) (.s (.l (.l (.l (.r .h)))))), (nat_lit 5), [(nat_lit 0), (nat_lit 1), (nat_lit 2), (nat_lit 3), (nat_lit 4)], []⟩,
  ⟨.a (.l (.r .h)) none (.al (nat_lit 46) (nat_lit 11) (.n (.n (.n (.n .e (.i .i64 (.n (nat_lit 0))) .e) (.i .i64 (.n (nat_lit 0))) .e) (.i .i64 (.n (nat_lit 0))) (.n (.n .e (.i .i64 (.n (nat_lit 0))) .e) (.i .i64 (.n (nat_lit 0))) .e)) (.i .i64 (.n (nat_lit 0))) (.n (.n (.n .e (.i .i64 (.n (nat_lit 0))) .e) (.i .i64 (.n (nat_lit 0))) .e) (.i .i64 (.n (nat_lit 0))) (.n (.n .e (.i .i64 (.n (nat_lit 0))) .e) (.i .i64 (.n (nat_lit 0))) .e)))), (nat_lit 6), [], []⟩,
  ⟨.c none none (.st (nat_lit 11) (.s (.l (.r .h))) (.s (.r (.l (.l (.r .h)))))), (nat_lit 7), [(nat_lit 0), (nat_lit 1), (nat_lit 2), (nat_lit 3), (nat_lit 4), (nat_lit 5), (nat_lit 6)], []⟩])
 (.seq (.seq (.reg [.p (.l (.r (.l (.r .h)))) none (.fa (nat_lit 0) (.s (.l (.r .h)))),
  .r (.r (.r (.l (.r .h)))) none (.ld (.s (.l (.r (.l (.r .h)))))),
  .p (.l (.l (.r (.r .h)))) none (.cp .neq (.s (.r (.r (.l (.r .h))))) (.c (.a (.i .i64 (.n (nat_lit 2))))))])
 (.cond (.s (.l (.l (.r (.r .h))))) (.seq (.reg [.p (.r (.l .h)) none (.mv (.c (.a (.i .i64 (.g (nat_lit 0))))))])
 .rt) .skip))
 (.reg [.p (.r (.l (.r (.r .h)))) none (.fa (nat_lit 2) (.s (.l (.r .h)))),
  .r (.l (.r (.r (.r .h)))) none (.ld (.s (.r (.l (.r (.r .h)))))),
  .p (.r (.r (.r (.r .h)))) none (.fa (nat_lit 1) (.s (.l (.l .h)))),
  .c none none (.st (nat_lit 1) (.s (.r (.r (.r (.r .h))))) (.s (.l (.r (.r (.r .h))))))])))))))
 (.seq (.drw [⟨.p (.l (.l (.l (.l (.l .h))))) none (.mv (.s .h)), (nat_lit 0), [], []⟩,
  ⟨.p (.r (.l (.l (.l (.l .h))))) none (.nc (.s (.l (.l (.l (.l (.l .h))))))), (nat_lit 1), [(nat_lit 0)], []⟩,
  ⟨.p (.l (.r (.l (.l (.l .h))))) none (.fa (nat_lit 5) (.s (.r (.l (.l (.l (.l .h))))))), (nat_lit 2), [(nat_lit 0), (nat_lit 1)], []⟩,
  ⟨.r (.r (.r (.l (.l (.l .h))))) none (.ld (.s (.l (.r (.l (.l (.l .h))))))), (nat_lit 3), [(nat_lit 0), (nat_lit 1), (nat_lit 2)], []⟩,
  ⟨.p (.l (.l (.r (.l (.l .h))))) none (.fa (nat_lit 0) (.s (.l (.l .h)))), (nat_lit 4), [], []⟩,
  ⟨.r (.r (.l (.r (.l (.l .h))))) none (.ld (.s (.l (.l (.r (.l (.l .h))))))), (nat_lit 5), [(nat_lit 4)], []⟩,
  ⟨.p (.l (.r (.r (.l (.l .h))))) none (.ix (nat_lit 1) (.s (.r (.r (.l (.l (.l .h)))))) (.s (.r (.l (.r (.l (.l .h))))))), (nat_lit 6), [(nat_lit 0), (nat_lit 1), (nat_lit 2), (nat_lit 3), (nat_lit 4), (nat_lit 5)], []⟩,
  ⟨.r (.r (.r (.r (.l (.l .h))))) none (.ld (.s (.l (.r (.r (.l (.l .h))))))), (nat_lit 7), [(nat_lit 0), (nat_lit 1), (nat_lit 2), (nat_lit 3), (nat_lit 4), (nat_lit 5), (nat_lit 6)], []⟩,
  ⟨.p (.l (.l (.l (.r (.l .h))))) none (.fa (nat_lit 1) (.s (.l (.l .h)))), (nat_lit 8), [], []⟩,
  ⟨.r (.r (.l (.l (.r (.l .h))))) none (.ld (.s (.l (.l (.l (.r (.l .h))))))), (nat_lit 9), [(nat_lit 8)], []⟩,
  ⟨.p (.l (.r (.l (.r (.l .h))))) none (.ix (nat_lit 1) (.s (.r (.r (.r (.l (.l .h)))))) (.s (.r (.l (.l (.r (.l .h))))))), (nat_lit 10), [(nat_lit 0), (nat_lit 1), (nat_lit 2), (nat_lit 3), (nat_lit 4), (nat_lit 5), (nat_lit 6), (nat_lit 7), (nat_lit 8), (nat_lit 9)], []⟩,
  ⟨.r (.r (.r (.l (.r (.l .h))))) none (.ld (.s (.l (.r (.l (.r (.l .h))))))), (nat_lit 11), [(nat_lit 0), (nat_lit 1), (nat_lit 2), (nat_lit 3), (nat_lit 4), (nat_lit 5), (nat_lit 6), (nat_lit 7), (nat_lit 8), (nat_lit 9), (nat_lit 10)], []⟩,
  ⟨.p (.r (.l .h)) none (.mv (.s (.r (.r (.l (.r (.l .h))))))), (nat_lit 12), [(nat_lit 0), (nat_lit 1), (nat_lit 2), (nat_lit 3), (nat_lit 4), (nat_lit 5), (nat_lit 6), (nat_lit 7), (nat_lit 8), (nat_lit 9), (nat_lit 10), (nat_lit 11)], []⟩])
 .rt))), false, false⟩
noncomputable def rf48 : RF := ⟨[.h, (.l .h), (.r .h), (.l (.l .h))], [], (.seq (.reg [.p (.l (.r (.l .h))) none (.mv (.s (.l .h))),
  .p (.r (.r (.l .h))) none (.ln (.s (.l (.r (.l .h))))),
  .p (.l (.l (.r .h))) none (.mv (.c (.a (.i .i64 (.n (nat_lit 0))))))])
 (.blk (nat_lit 0) (.loop (.seq (.reg [.p (.r (.l (.r .h))) none (.cp .lss (.s (.l (.l (.r .h)))) (.s (.r (.r (.l .h)))))])
 (.seq (.cond (.s (.r (.l (.r .h)))) .skip (.ex (nat_lit 0)))
 (.seq (.blk (nat_lit 1) (.seq (.reg [.p (.l (.r (.r .h))) none (.ix (nat_lit 1) (.s (.l (.r (.l .h)))) (.s (.l (.l (.r .h))))),
  .r (.r (.r (.r .h))) none (.ld (.s (.l (.r (.r .h))))),
  .p (.l (.l (.l .h))) none (.mv (.s (.r (.r (.r .h)))))])
 (.seq (.reg [.p (.l (.l (.l (.l .h)))) none (.mv (.s .h)),
  .p (.r (.l (.l (.l .h)))) none (.mv (.s (.l (.l (.l .h))))),
  .p (.l (.r (.l (.l .h)))) none (.bd [(.i .i64 (.n (nat_lit 0))), (.i .i64 (.n (nat_lit 0)))] [((nat_lit 0), (nat_lit 1), (.s (.l (.l (.l (.l .h)))))), ((nat_lit 1), (nat_lit 1), (.s (.r (.l (.l (.l .h))))))]),
  .a (.r (.l (.l .h))) none (.al (nat_lit 91) (nat_lit 2) (.n (.n .e (.i .i64 (.n (nat_lit 0))) .e) (.i .i64 (.n (nat_lit 0))) .e)),
  .c none none (.st (nat_lit 2) (.s (.r (.l (.l .h)))) (.s (.l (.r (.l (.l .h))))))])
 (.seq (.drw [⟨.r (.r (.r (.l (.l .h)))) none (.ld (.s (.r .h))), (nat_lit 0), [], []⟩,
  ⟨.p (.l (.l (.r (.l .h)))) none (.nc (.s (.r (.r (.l (.l .h)))))), (nat_lit 1), [(nat_lit 0)], []⟩,
  ⟨.p (.r (.l (.r (.l .h)))) none (.fa (nat_lit 6) (.s (.l (.l (.r (.l .h)))))), (nat_lit 2), [(nat_lit 0), (nat_lit 1)], []⟩,
  ⟨.r (.l (.r (.r (.l .h)))) none (.ld (.s (.r (.l (.r (.l .h)))))), (nat_lit 3), [(nat_lit 0), (nat_lit 1), (nat_lit 2)], []⟩,
  ⟨.r (.r (.r (.r (.l .h)))) none (.lg (nat_lit 2) (.s (.r (.l (.l .h))))), (nat_lit 4), [], []⟩,
  ⟨.r (.l (.l (.l (.r .h)))) none (.lk false true [(nat_lit 0), (nat_lit 0)] (.a (.b false)) (.s (.l (.r (.r (.l .h))))) (.s (.r (.r (.r (.l .h)))))), (nat_lit 5), [(nat_lit 0), (nat_lit 1), (nat_lit 2), (nat_lit 3), (nat_lit 4)], []⟩,
  ⟨.p (.r (.l (.l (.r .h)))) none (.nt (.s (.l (.l (.l (.r .h)))))), (nat_lit 6), [(nat_lit 0), (nat_lit 1), (nat_lit 2), (nat_lit 3), (nat_lit 4), (nat_lit 5)], []⟩])
 (.cond (.s (.r (.l (.l (.r .h))))) (.seq (.drw [⟨.r (.l (.r (.l (.r .h)))) none (.ld (.s (.r .h))), (nat_lit 0), [], []⟩,
  ⟨.p (.r (.r (.l (.r .h)))) none (.nc (.s (.l (.r (.l (.r .h)))))), (nat_lit 1), [(nat_lit 0)], []⟩,
  ⟨.p (.l (.l (.r (.r .h)))) none (.fa (nat_lit 6) (.s (.r (.r (.l (.r .h)))))), (nat_lit 2), [(nat_lit 0), (nat_lit 1)], []⟩,
  ⟨.r (.r (.l (.r (.r .h)))) none (.ld (.s (.l (.l (.r (.r .h)))))), (nat_lit 3), [(nat_lit 0), (nat_lit 1), (nat_lit 2)], []⟩,
  ⟨.r (.l (.r (.r (.r .h)))) none (.lg (nat_lit 2) (.s (.r (.l (.l .h))))), (nat_lit 4), [], []⟩,
  ⟨.c none none (.mu true [(nat_lit 0), (nat_lit 0)] (.s (.r (.l (.r (.r .h))))) (.s (.l (.r (.r (.r .h))))) (.c (.a (.b true)))), (nat_lit 5), [(nat_lit 0), (nat_lit 1), (nat_lit 2), (nat_lit 3), (nat_lit 4)], []⟩])
 (.reg [.r (.r (.r (.r (.r .h)))) none (.ld (.s (.l (.l .h)))),
  .r (.l (.l (.l (.l (.l .h))))) none (.lg (nat_lit 2) (.s (.r (.l (.l .h))))),
  .a (.r (.l (.l (.l (.l .h))))) none (.bs (nat_lit 91) (nat_lit 1) [(.i .i64 (.n (nat_lit 0))), (.i .i64 (.n (nat_lit 0)))] [((nat_lit 0), (nat_lit 2), (.s (.l (.l (.l (.l (.l .h)))))))]),
  .c (some (.l (.r (.l (.l (.l .h)))))) none (.ap (nat_lit 91) (nat_lit 2) (nat_lit 16) (.s (.r (.r (.r (.r .h))))) (.s (.r (.l (.l (.l (.l .h))))))),
  .c none none (.st (nat_lit 1) (.s (.l (.l .h))) (.s (.l (.r (.l (.l (.l .h)))))))])) .skip)))))
 (.reg [.p (.r (.r (.l (.l (.l .h))))) none (.ar .add (.s (.l (.l (.r .h)))) (.c (.a (.i .i64 (.n (nat_lit 1)))))),
  .p (.l (.l (.r .h))) none (.mv (.s (.r (.r (.l (.l (.l .h)))))))]))))))), false, false⟩
noncomputable def rf49 : RF := ⟨[.h], [.s (.r .h)], (.seq (.reg [.a (.l .h) none (.bx (nat_lit 46) (nat_lit 11) (.s .h)),
  .p (.r .h) none (.mv (.c (.a .s0)))])
 (.seq (.blk (nat_lit 0) (.seq (.reg [.p (.r (.l .h)) none (.fa (nat_lit 0) (.s (.l .h))),
  .r (.l (.r .h)) none (.ld (.s (.r (.l .h)))),
  .p (.r (.r .h)) none (.cp .geq (.s (.l (.r .h))) (.c (.a (.i .i64 (.n (nat_lit 3)))))),
  .p (.l (.l (.l .h))) none (.mv (.s (.r (.r .h)))),
  .p (.r (.l (.l .h))) (some ((.l (.l (.l .h))), true)) (.fa (nat_lit 0) (.s (.l .h))),
  .r (.l (.r (.l .h))) (some ((.l (.l (.l .h))), true)) (.ld (.s (.r (.l (.l .h))))),
  .p (.r (.r (.l .h))) (some ((.l (.l (.l .h))), true)) (.cp .leq (.s (.l (.r (.l .h)))) (.c (.a (.i .i64 (.n (nat_lit 14)))))),
  .p (.l (.l (.r .h))) none (.pk (.s (.l (.l (.l .h)))) (.s (.r (.r (.l .h)))) (.c (.a (.b false)))),
  .p (.r (.l (.r .h))) none (.mv (.s (.l (.l (.r .h))))),
  .p (.l (.r (.r .h))) (some ((.r (.l (.r .h))), false)) (.fa (nat_lit 0) (.s (.l .h))),
  .r (.r (.r (.r .h))) (some ((.r (.l (.r .h))), false)) (.ld (.s (.l (.r (.r .h))))),
  .p (.l (.l (.l (.l .h)))) (some ((.r (.l (.r .h))), false)) (.cp .eql (.s (.r (.r (.r .h)))) (.c (.a (.i .i64 (.n (nat_lit 16)))))),
  .p (.r (.l (.l (.l .h)))) none (.pk (.s (.r (.l (.r .h)))) (.c (.a (.b true))) (.s (.l (.l (.l (.l .h)))))),
  .p (.l (.l .h)) none (.mv (.s (.r (.l (.l (.l .h))))))])
 (.cond (.s (.l (.l .h))) (.seq (.reg [.p (.l (.r (.l (.l .h)))) none (.fa (nat_lit 2) (.s (.l .h))),
  .r (.r (.r (.l (.l .h)))) none (.ld (.s (.l (.r (.l (.l .h)))))),
  .p (.l (.l (.r (.l .h)))) none (.fa (nat_lit 3) (.s (.l .h))),
  .r (.r (.l (.r (.l .h)))) none (.ld (.s (.l (.l (.r (.l .h)))))),
  .a (.l (.r (.r (.l .h)))) none (.bs (nat_lit 3) (nat_lit 2) [(.i .i64 (.n (nat_lit 0))), (.i .i64 (.n (nat_lit 0)))] [((nat_lit 0), (nat_lit 1), (.s (.r (.r (.l (.l .h)))))), ((nat_lit 1), (nat_lit 1), (.s (.r (.l (.r (.l .h))))))]),
  .p (.r .h) none (.mv (.s (.l (.r (.r (.l .h))))))])
 .rt) (.seq (.reg [.p (.l (.l (.l (.r .h)))) none (.fa (nat_lit 0) (.s (.l .h))),
  .r (.r (.l (.l (.r .h)))) none (.ld (.s (.l (.l (.l (.r .h)))))),
  .p (.l (.r (.l (.r .h)))) none (.cp .eql (.s (.r (.l (.l (.r .h))))) (.c (.a (.i .i64 (.n (nat_lit 2)))))),
  .p (.r (.r (.l (.r .h)))) none (.mv (.s (.l (.r (.l (.r .h)))))),
  .p (.l (.l (.r (.r .h)))) (some ((.r (.r (.l (.r .h)))), false)) (.fa (nat_lit 0) (.s (.l .h))),
  .r (.r (.l (.r (.r .h)))) (some ((.r (.r (.l (.r .h)))), false)) (.ld (.s (.l (.l (.r (.r .h)))))),
  .p (.l (.r (.r (.r .h)))) (some ((.r (.r (.l (.r .h)))), false)) (.cp .eql (.s (.r (.l (.r (.r .h))))) (.c (.a (.i .i64 (.n (nat_lit 15)))))),
  .p (.r (.r (.r (.r .h)))) none (.pk (.s (.r (.r (.l (.r .h))))) (.c (.a (.b true))) (.s (.l (.r (.r (.r .h)))))),
  .p (.l (.l (.l (.l (.l .h))))) none (.mv (.s (.r (.r (.r (.r .h)))))),
  .p (.r (.l (.l (.l (.l .h))))) (some ((.l (.l (.l (.l (.l .h))))), false)) (.fa (nat_lit 0) (.s (.l .h))),
  .r (.l (.r (.l (.l (.l .h))))) (some ((.l (.l (.l (.l (.l .h))))), false)) (.ld (.s (.r (.l (.l (.l (.l .h))))))),
  .p (.r (.r (.l (.l (.l .h))))) (some ((.l (.l (.l (.l (.l .h))))), false)) (.cp .eql (.s (.l (.r (.l (.l (.l .h)))))) (.c (.a (.i .i64 (.n (nat_lit 18)))))),
  .p (.l (.l (.r (.l (.l .h))))) none (.pk (.s (.l (.l (.l (.l (.l .h)))))) (.c (.a (.b true))) (.s (.r (.r (.l (.l (.l .h))))))),
  .p (.r (.r (.r (.l .h)))) none (.mv (.s (.l (.l (.r (.l (.l .h)))))))])
 (.cond (.s (.r (.r (.r (.l .h))))) (.seq (.reg [.p (.r (.l (.r (.l (.l .h))))) none (.fa (nat_lit 2) (.s (.l .h))),
  .r (.l (.r (.r (.l (.l .h))))) none (.ld (.s (.r (.l (.r (.l (.l .h))))))),
  .a (.r (.r (.r (.l (.l .h))))) none (.bs (nat_lit 3) (nat_lit 1) [(.i .i64 (.n (nat_lit 0)))] [((nat_lit 0), (nat_lit 1), (.s (.l (.r (.r (.l (.l .h)))))))]),
  .p (.r .h) none (.mv (.s (.r (.r (.r (.l (.l .h)))))))])
 .rt) .skip)))))
 (.seq (.reg [.p (.r .h) none (.mv (.c (.a .s0)))])
 .rt))), false, false⟩
noncomputable def rf50 : RF := ⟨[.h], [.s (.r .h)], (.seq (.reg [.a (.l .h) none (.bx (nat_lit 58) (nat_lit 8) (.s .h)),
  .p (.r .h) none (.mv (.c (.a (.b false))))])
 (.seq (.reg [.p (.l (.l .h)) none (.fa (nat_lit 0) (.s (.l .h))),
  .r (.r (.l .h)) none (.ld (.s (.l (.l .h)))),
  .p (.l (.r .h)) none (.cp .eql (.s (.r (.l .h))) (.c (.a (.i .i64 (.n (nat_lit 2)))))),
  .p (.r (.r .h)) none (.mv (.s (.l (.r .h)))),
  .p (.l (.l (.l .h))) (some ((.r (.r .h)), false)) (.fa (nat_lit 0) (.s (.l .h))),
  .r (.r (.l (.l .h))) (some ((.r (.r .h)), false)) (.ld (.s (.l (.l (.l .h))))),
  .p (.l (.r (.l .h))) (some ((.r (.r .h)), false)) (.cp .eql (.s (.r (.l (.l .h)))) (.c (.a (.i .i64 (.n (nat_lit 4)))))),
  .p (.r (.r (.l .h))) none (.pk (.s (.r (.r .h))) (.c (.a (.b true))) (.s (.l (.r (.l .h))))),
  .p (.l (.l (.r .h))) none (.mv (.s (.r (.r (.l .h))))),
  .p (.r (.l (.r .h))) (some ((.l (.l (.r .h))), false)) (.fa (nat_lit 0) (.s (.l .h))),
  .r (.l (.r (.r .h))) (some ((.l (.l (.r .h))), false)) (.ld (.s (.r (.l (.r .h))))),
  .p (.r (.r (.r .h))) (some ((.l (.l (.r .h))), false)) (.cp .eql (.s (.l (.r (.r .h)))) (.c (.a (.i .i64 (.n (nat_lit 5)))))),
  .p (.l (.l (.l (.l .h)))) none (.pk (.s (.l (.l (.r .h)))) (.c (.a (.b true))) (.s (.r (.r (.r .h))))),
  .p (.r .h) none (.mv (.s (.l (.l (.l (.l .h))))))])
 .rt)), false, false⟩
noncomputable def rf51 : RF := ⟨[.h, (.l .h), (.r .h)], [.s (.r (.l .h))], (.seq (.reg [.p (.r (.l .h)) none (.mv (.c (.a (.i .i64 (.n (nat_lit 0))))))])
 (.seq (.seq (.reg [.p (.l (.r .h)) none (.mv (.s .h)),
  .p (.r (.r .h)) none (.fa (nat_lit 0) (.s (.l .h))),
  .r (.l (.l (.l .h))) none (.ld (.s (.r (.r .h)))),
  .p (.r (.l (.l .h))) none (.cp .lss (.s (.l (.r .h))) (.s (.l (.l (.l .h)))))])
 (.cond (.s (.r (.l (.l .h)))) (.seq (.reg [.r (.l (.r (.l .h))) none (.ld (.s (.r .h))),
  .p (.r (.r (.l .h))) none (.mv (.s .h)),
  .r (.l (.l (.r .h))) none (.lk false false [(nat_lit 0)] (.a (.i .i64 (.n (nat_lit 0)))) (.s (.l (.r (.l .h)))) (.s (.r (.r (.l .h))))),
  .p (.r (.l .h)) none (.mv (.s (.l (.l (.r .h)))))])
 .rt) .skip))
 (.seq (.reg [.p (.r (.l (.r .h))) none (.mv (.s .h)),
  .p (.r (.l .h)) none (.mv (.s (.r (.l (.r .h)))))])
 .rt))), false, false⟩
noncomputable def rf52 : RF := ⟨[.h, (.l .h), (.r .h)], [.g (.r (.r .h)) (nat_lit 3)], (.seq (.reg [.a (.r (.l .h)) none (.bx (nat_lit 91) (nat_lit 2) (.s (.l .h))),
  .a (.r (.r .h)) none (.al (nat_lit 44) (nat_lit 3) (.n (.n .e (.i .i64 (.n (nat_lit 0))) .e) (.i .i64 (.n (nat_lit 0))) (.n .e (.i .i64 (.n (nat_lit 0))) .e)))])
 (.seq (.blk (nat_lit 0) (.loop (.seq (.seq (.drw [⟨.p (.r (.r (.r .h))) none (.mv (.s .h)), (nat_lit 0), [], []⟩,
  ⟨.p (.l (.l (.l (.l .h)))) none (.nc (.s (.r (.r (.r .h))))), (nat_lit 1), [(nat_lit 0)], []⟩,
  ⟨.p (.r (.l (.l (.l .h)))) none (.fa (nat_lit 6) (.s (.l (.l (.l (.l .h)))))), (nat_lit 2), [(nat_lit 0), (nat_lit 1)], []⟩,
  ⟨.r (.l (.r (.l (.l .h)))) none (.ld (.s (.r (.l (.l (.l .h)))))), (nat_lit 3), [(nat_lit 0), (nat_lit 1), (nat_lit 2)], []⟩,
  ⟨.r (.r (.r (.l (.l .h)))) none (.lg (nat_lit 2) (.s (.r (.l .h)))), (nat_lit 4), [], []⟩,
  ⟨.r (.l (.l (.r (.l .h)))) none (.lk false true [(nat_lit 0), (nat_lit 0)] (.a (.b false)) (.s (.l (.r (.l (.l .h))))) (.s (.r (.r (.l (.l .h)))))), (nat_lit 5), [(nat_lit 0), (nat_lit 1), (nat_lit 2), (nat_lit 3), (nat_lit 4)], []⟩,
  ⟨.p (.r (.l (.r (.l .h)))) none (.nt (.s (.l (.l (.r (.l .h)))))), (nat_lit 6), [(nat_lit 0), (nat_lit 1), (nat_lit 2), (nat_lit 3), (nat_lit 4), (nat_lit 5)], []⟩])
 (.cond (.s (.r (.l (.r (.l .h))))) .skip (.ex (nat_lit 0))))
 (.blk (nat_lit 1) (.seq (.drw [⟨.p (.r (.r (.r (.l .h)))) none (.mv (.s .h)), (nat_lit 0), [], []⟩,
  ⟨.p (.l (.l (.l (.r .h)))) none (.nc (.s (.r (.r (.r (.l .h)))))), (nat_lit 1), [(nat_lit 0)], []⟩,
  ⟨.p (.r (.l (.l (.r .h)))) none (.fa (nat_lit 4) (.s (.l (.l (.l (.r .h)))))), (nat_lit 2), [(nat_lit 0), (nat_lit 1)], []⟩,
  ⟨.r (.l (.r (.l (.r .h)))) none (.ld (.s (.r (.l (.l (.r .h)))))), (nat_lit 3), [(nat_lit 0), (nat_lit 1), (nat_lit 2)], []⟩,
  ⟨.r (.r (.r (.l (.r .h)))) none (.lg (nat_lit 2) (.s (.r (.l .h)))), (nat_lit 4), [], []⟩,
  ⟨.r (.l (.l (.r (.r .h)))) none (.lk true true [(nat_lit 0), (nat_lit 0)] (.g [(.i .i64 (.n (nat_lit 0))), (.i .i64 (.n (nat_lit 0))), (.i .i64 (.n (nat_lit 0))), (.i .i64 (.n (nat_lit 0))), (.i .i64 (.n (nat_lit 0))), (.i .i64 (.n (nat_lit 0))), (.i .i64 (.n (nat_lit 0))), (.i .i64 (.n (nat_lit 0))), (.i .i64 (.n (nat_lit 0))), (.i .i64 (.n (nat_lit 0))), (.i .i64 (.n (nat_lit 0)))]) (.s (.l (.r (.l (.r .h))))) (.s (.r (.r (.l (.r .h)))))), (nat_lit 5), [(nat_lit 0), (nat_lit 1), (nat_lit 2), (nat_lit 3), (nat_lit 4)], []⟩,
  ⟨.p (.l (.r (.r (.l .h)))) none (.mv (.s (.l (.l (.r (.r .h)))))), (nat_lit 6), [(nat_lit 0), (nat_lit 1), (nat_lit 2), (nat_lit 3), (nat_lit 4), (nat_lit 5)], []⟩,
  ⟨.p (.r (.l (.r (.r .h)))) none (.ex (nat_lit 0) (.s (.l (.r (.r (.l .h)))))), (nat_lit 7), [(nat_lit 0), (nat_lit 1), (nat_lit 2), (nat_lit 3), (nat_lit 4), (nat_lit 5), (nat_lit 6)], []⟩,
  ⟨.p (.l (.r (.r (.r .h)))) none (.ex (nat_lit 1) (.s (.l (.r (.r (.l .h)))))), (nat_lit 8), [(nat_lit 0), (nat_lit 1), (nat_lit 2), (nat_lit 3), (nat_lit 4), (nat_lit 5), (nat_lit 6)], []⟩,
  ⟨.a (.l (.l (.l .h))) none (.al (nat_lit 46) (nat_lit 11) (.n (.n (.n (.n .e (.i .i64 (.n (nat_lit 0))) .e) (.i .i64 (.n (nat_lit 0))) .e) (.i .i64 (.n (nat_lit 0))) (.n (.n .e (.i .i64 (.n (nat_lit 0))) .e) (.i .i64 (.n (nat_lit 0))) .e)) (.i .i64 (.n (nat_lit 0))) (.n (.n (.n .e (.i .i64 (.n (nat_lit 0))) .e) (.i .i64 (.n (nat_lit 0))) .e) (.i .i64 (.n (nat_lit 0))) (.n (.n .e (.i .i64 (.n (nat_lit 0))) .e) (.i .i64 (.n (nat_lit 0))) .e)))), (nat_lit 9), [], []⟩,
  ⟨.c none none (.st (nat_lit 11) (.s (.l (.l (.l .h)))) (.s (.r (.l (.r (.r .h)))))), (nat_lit 10), [(nat_lit 0), (nat_lit 1), (nat_lit 2), (nat_lit 3), (nat_lit 4), (nat_lit 5), (nat_lit 6), (nat_lit 7), (nat_lit 9)], []⟩,
  ⟨.p (.r (.l (.l .h))) none (.mv (.s (.l (.r (.r (.r .h)))))), (nat_lit 11), [(nat_lit 0), (nat_lit 1), (nat_lit 2), (nat_lit 3), (nat_lit 4), (nat_lit 5), (nat_lit 6), (nat_lit 7), (nat_lit 8), (nat_lit 9), (nat_lit 10)], []⟩])
 (.seq (.seq (.reg [.p (.r (.r (.r (.r .h)))) none (.mv (.s (.r (.l (.l .h))))),
  .p (.l (.l (.l (.l (.l .h))))) none (.nt (.s (.r (.r (.r (.r .h))))))])
 (.cond (.s (.l (.l (.l (.l (.l .h)))))) (.seq (.seq (.drw [⟨.p (.r (.l (.l (.l (.l .h))))) none (.mv (.s .h)), (nat_lit 0), [], []⟩,
  ⟨.p (.l (.r (.l (.l (.l .h))))) none (.nc (.s (.r (.l (.l (.l (.l .h))))))), (nat_lit 1), [(nat_lit 0)], []⟩,
  ⟨.p (.r (.r (.l (.l (.l .h))))) none (.fa (nat_lit 5) (.s (.l (.r (.l (.l (.l .h))))))), (nat_lit 2), [(nat_lit 0), (nat_lit 1)], []⟩,
  ⟨.r (.l (.l (.r (.l (.l .h))))) none (.ld (.s (.r (.r (.l (.l (.l .h))))))), (nat_lit 3), [(nat_lit 0), (nat_lit 1), (nat_lit 2)], []⟩,
  ⟨.p (.r (.l (.r (.l (.l .h))))) none (.fa (nat_lit 0) (.s (.r (.l .h)))), (nat_lit 4), [], []⟩,
  ⟨.r (.l (.r (.r (.l (.l .h))))) none (.ld (.s (.r (.l (.r (.l (.l .h))))))), (nat_lit 5), [(nat_lit 4)], []⟩,
  ⟨.p (.r (.r (.r (.l (.l .h))))) none (.ix (nat_lit 1) (.s (.l (.l (.r (.l (.l .h)))))) (.s (.l (.r (.r (.l (.l .h))))))), (nat_lit 6), [(nat_lit 0), (nat_lit 1), (nat_lit 2), (nat_lit 3), (nat_lit 4), (nat_lit 5)], []⟩,
  ⟨.r (.l (.l (.l (.r (.l .h))))) none (.ld (.s (.r (.r (.r (.l (.l .h))))))), (nat_lit 7), [(nat_lit 0), (nat_lit 1), (nat_lit 2), (nat_lit 3), (nat_lit 4), (nat_lit 5), (nat_lit 6)], []⟩,
  ⟨.p (.r (.l (.l (.r (.l .h))))) none (.fa (nat_lit 1) (.s (.r (.l .h)))), (nat_lit 8), [], []⟩,
  ⟨.r (.l (.r (.l (.r (.l .h))))) none (.ld (.s (.r (.l (.l (.r (.l .h))))))), (nat_lit 9), [(nat_lit 8)], []⟩,
  ⟨.p (.r (.r (.l (.r (.l .h))))) none (.ix (nat_lit 1) (.s (.l (.l (.l (.r (.l .h)))))) (.s (.l (.r (.l (.r (.l .h))))))), (nat_lit 10), [(nat_lit 0), (nat_lit 1), (nat_lit 2), (nat_lit 3), (nat_lit 4), (nat_lit 5), (nat_lit 6), (nat_lit 7), (nat_lit 8), (nat_lit 9)], []⟩,
  ⟨.r (.l (.l (.r (.r (.l .h))))) none (.ld (.s (.r (.r (.l (.r (.l .h))))))), (nat_lit 11), [(nat_lit 0), (nat_lit 1), (nat_lit 2), (nat_lit 3), (nat_lit 4), (nat_lit 5), (nat_lit 6), (nat_lit 7), (nat_lit 8), (nat_lit 9), (nat_lit 10)], []⟩,
  ⟨.p (.l (.r (.l .h))) none (.mv (.s (.l (.l (.r (.r (.l .h))))))), (nat_lit 12), [(nat_lit 0), (nat_lit 1), (nat_lit 2), (nat_lit 3), (nat_lit 4), (nat_lit 5), (nat_lit 6), (nat_lit 7), (nat_lit 8), (nat_lit 9), (nat_lit 10), (nat_lit 11)], []⟩])
 (.seq (.reg [.p (.r (.l (.r (.r (.l .h))))) none (.mv (.s (.l (.r (.l .h))))),
  .p (.l (.r (.r (.r (.l .h))))) none (.cp .geq (.s (.r (.l (.r (.r (.l .h)))))) (.c (.a (.i .i64 (.n (nat_lit 0))))))])
 (.cond (.s (.l (.r (.r (.r (.l .h)))))) (.seq (.reg [.p (.r (.r (.r (.r (.l .h))))) none (.mv (.s (.l (.r (.l .h))))),
  .p (.l (.l (.l (.l (.r .h))))) none (.mv (.s (.r .h))),
  .p (.r (.l (.l (.l (.r .h))))) none (.bd [(.i .i64 (.n (nat_lit 0))), (.i .i64 (.n (nat_lit 0))), (.i .i64 (.n (nat_lit 0)))] [((nat_lit 0), (nat_lit 1), (.c (.a (.i .i64 (.n (nat_lit 3)))))), ((nat_lit 1), (nat_lit 1), (.s (.r (.r (.r (.r (.l .h))))))), ((nat_lit 2), (nat_lit 1), (.s (.l (.l (.l (.l (.r .h)))))))]),
  .c none none (.st (nat_lit 3) (.s (.r (.r .h))) (.s (.r (.l (.l (.l (.r .h)))))))])
 .rt) .skip)))
 (.seq (.reg [.p (.l (.r (.l (.l (.r .h))))) none (.bd [(.i .i64 (.n (nat_lit 0))), (.i .i64 (.n (nat_lit 0))), (.i .i64 (.n (nat_lit 0)))] []),
  .c none none (.st (nat_lit 3) (.s (.r (.r .h))) (.s (.l (.r (.l (.l (.r .h)))))))])
 .rt)) .skip))
 (.seq (.reg [.p (.l (.l (.r (.l (.r .h))))) none (.mv (.s .h)),
  .p (.r (.l (.r (.l (.r .h))))) none (.fa (nat_lit 0) (.s (.r (.l .h)))),
  .r (.l (.r (.r (.l (.r .h))))) none (.ld (.s (.r (.l (.r (.l (.r .h))))))),
  .p (.r (.r (.r (.l (.r .h))))) none (.fa (nat_lit 2) (.s (.l (.l (.l .h))))),
  .r (.l (.l (.l (.r (.r .h))))) none (.ld (.s (.r (.r (.r (.l (.r .h))))))),
  .p (.r (.l (.l (.r (.r .h))))) none (.bd [(.i .i64 (.n (nat_lit 0))), (.i .i64 (.n (nat_lit 0)))] [((nat_lit 0), (nat_lit 1), (.s (.l (.r (.r (.l (.r .h))))))), ((nat_lit 1), (nat_lit 1), (.s (.l (.l (.l (.r (.r .h)))))))]),
  .k (some (.l (.r (.l (.r (.r .h)))))) none (nat_lit 68) (.r (.l (.r (.l (.l (.l .h)))))) [(.s (.l (.l (.r (.l (.r .h)))))), (.s (.r (.l (.l (.r (.r .h))))))],
  .p (.r (.r (.l (.l (.r .h))))) none (.mv (.s (.l (.r (.l (.r (.r .h))))))),
  .p (.r (.r (.l (.r (.r .h))))) none (.ex (nat_lit 0) (.s (.r (.r (.l (.l (.r .h))))))),
  .p (.l (.l (.r (.r (.r .h))))) none (.ex (nat_lit 1) (.s (.r (.r (.l (.l (.r .h))))))),
  .p (.r (.r (.l .h))) none (.mv (.s (.r (.r (.l (.r (.r .h))))))),
  .p (.l (.l (.r .h))) none (.mv (.s (.l (.l (.r (.r (.r .h)))))))])
 (.seq (.reg [.p (.l (.r (.r (.r (.r .h))))) none (.mv (.s .h)),
  .p (.r (.r (.r (.r (.r .h))))) none (.fa (nat_lit 0) (.s (.r (.l .h)))),
  .r (.l (.l (.l (.l (.l (.l .h)))))) none (.ld (.s (.r (.r (.r (.r (.r .h))))))),
  .p (.r (.l (.l (.l (.l (.l .h)))))) none (.fa (nat_lit 3) (.s (.l (.l (.l .h))))),
  .r (.l (.r (.l (.l (.l (.l .h)))))) none (.ld (.s (.r (.l (.l (.l (.l (.l .h)))))))),
  .p (.r (.r (.l (.l (.l (.l .h)))))) none (.bd [(.i .i64 (.n (nat_lit 0))), (.i .i64 (.n (nat_lit 0)))] [((nat_lit 0), (nat_lit 1), (.s (.l (.l (.l (.l (.l (.l .h)))))))), ((nat_lit 1), (nat_lit 1), (.s (.l (.r (.l (.l (.l (.l .h))))))))]),
  .k (some (.l (.l (.r (.l (.l (.l .h))))))) none (nat_lit 68) (.r (.l (.r (.l (.l (.l .h)))))) [(.s (.l (.r (.r (.r (.r .h)))))), (.s (.r (.r (.l (.l (.l (.l .h)))))))],
  .p (.r (.l (.r (.r (.r .h))))) none (.mv (.s (.l (.l (.r (.l (.l (.l .h)))))))),
  .p (.r (.l (.r (.l (.l (.l .h)))))) none (.ex (nat_lit 0) (.s (.r (.l (.r (.r (.r .h))))))),
  .p (.l (.r (.r (.l (.l (.l .h)))))) none (.ex (nat_lit 1) (.s (.r (.l (.r (.r (.r .h))))))),
  .p (.r (.l (.r .h))) none (.mv (.s (.r (.l (.r (.l (.l (.l .h)))))))),
  .p (.l (.r (.r .h))) none (.mv (.s (.l (.r (.r (.l (.l (.l .h))))))))])
 (.blk (nat_lit 2) (.seq (.reg [.p (.r (.l (.l (.r (.l (.l .h)))))) none (.fa (nat_lit 0) (.s (.l (.l (.l .h))))),
  .r (.l (.r (.l (.r (.l (.l .h)))))) none (.ld (.s (.r (.l (.l (.r (.l (.l .h)))))))),
  .p (.r (.r (.l (.r (.l (.l .h)))))) none (.cp .eql (.s (.l (.r (.l (.r (.l (.l .h))))))) (.c (.a (.i .i64 (.n (nat_lit 1)))))),
  .p (.l (.l (.l (.r (.l (.l .h)))))) none (.mv (.s (.r (.r (.l (.r (.l (.l .h))))))))])
 (.cond (.s (.l (.l (.l (.r (.l (.l .h))))))) (.seq (.reg [.p (.l (.l (.r (.r (.l (.l .h)))))) none (.fa (nat_lit 4) (.s (.l (.l (.l .h))))),
  .r (.r (.l (.r (.r (.l (.l .h)))))) none (.ld (.s (.l (.l (.r (.r (.l (.l .h)))))))),
  .p (.l (.r (.r (.r (.l (.l .h)))))) none (.mv (.s (.r .h))),
  .p (.r (.r (.r (.r (.l (.l .h)))))) none (.ar .add (.s (.r (.l (.r (.r (.l (.l .h))))))) (.s (.l (.r (.r (.r (.l (.l .h)))))))),
  .p (.l (.l (.l (.l (.r (.l .h)))))) none (.bd [(.i .i64 (.n (nat_lit 0))), (.i .i64 (.n (nat_lit 0))), (.i .i64 (.n (nat_lit 0)))] [((nat_lit 0), (nat_lit 1), (.c (.a (.i .i64 (.n (nat_lit 1)))))), ((nat_lit 2), (nat_lit 1), (.s (.r (.r (.r (.r (.l (.l .h))))))))]),
  .c none none (.st (nat_lit 3) (.s (.r (.r .h))) (.s (.l (.l (.l (.l (.r (.l .h))))))))])
 .rt) (.seq (.reg [.p (.l (.r (.l (.l (.r (.l .h)))))) none (.fa (nat_lit 0) (.s (.l (.l (.l .h))))),
  .r (.r (.r (.l (.l (.r (.l .h)))))) none (.ld (.s (.l (.r (.l (.l (.r (.l .h)))))))),
  .p (.l (.l (.r (.l (.r (.l .h)))))) none (.cp .eql (.s (.r (.r (.l (.l (.r (.l .h))))))) (.c (.a (.i .i64 (.n (nat_lit 2)))))),
  .p (.r (.l (.l (.l (.r (.l .h)))))) none (.mv (.s (.l (.l (.r (.l (.r (.l .h))))))))])
 (.cond (.s (.r (.l (.l (.l (.r (.l .h))))))) (.reg [.p (.r (.l (.r (.l (.r (.l .h)))))) none (.fa (nat_lit 2) (.s (.l (.l (.l .h))))),
  .r (.l (.r (.r (.l (.r (.l .h)))))) none (.ld (.s (.r (.l (.r (.l (.r (.l .h)))))))),
  .p (.r (.r (.r (.l (.r (.l .h)))))) none (.fa (nat_lit 1) (.s (.r (.l .h)))),
  .c none none (.st (nat_lit 1) (.s (.r (.r (.r (.l (.r (.l .h))))))) (.s (.l (.r (.r (.l (.r (.l .h))))))))]) (.seq (.reg [.p (.r (.l (.l (.r (.r (.l .h)))))) none (.fa (nat_lit 0) (.s (.l (.l (.l .h))))),
  .r (.l (.r (.l (.r (.r (.l .h)))))) none (.ld (.s (.r (.l (.l (.r (.r (.l .h)))))))),
  .p (.r (.r (.l (.r (.r (.l .h)))))) none (.cp .eql (.s (.l (.r (.l (.r (.r (.l .h))))))) (.c (.a (.i .i64 (.n (nat_lit 3)))))),
  .p (.l (.l (.r (.r (.r (.l .h)))))) none (.mv (.s (.r (.r (.l (.r (.r (.l .h)))))))),
  .p (.r (.l (.r (.r (.r (.l .h)))))) (some ((.l (.l (.r (.r (.r (.l .h)))))), true)) (.mv (.s (.l (.r (.r .h))))),
  .p (.l (.r (.r (.r (.r (.l .h)))))) none (.pk (.s (.l (.l (.r (.r (.r (.l .h))))))) (.s (.r (.l (.r (.r (.r (.l .h))))))) (.c (.a (.b false)))),
  .p (.l (.l (.l (.r (.r (.l .h)))))) none (.mv (.s (.l (.r (.r (.r (.r (.l .h))))))))])
 (.cond (.s (.l (.l (.l (.r (.r (.l .h))))))) (.reg [.p (.r (.r (.r (.r (.r (.l .h)))))) none (.fa (nat_lit 2) (.s (.l (.l (.l .h))))),
  .r (.l (.l (.l (.l (.l (.r .h)))))) none (.ld (.s (.r (.r (.r (.r (.r (.l .h)))))))),
  .p (.r (.l (.l (.l (.l (.r .h)))))) none (.mv (.s (.r .h))),
  .p (.l (.r (.l (.l (.l (.r .h)))))) none (.mv (.s (.r (.l (.r .h))))),
  .p (.r (.r (.l (.l (.l (.r .h)))))) none (.ar .add (.s (.r (.l (.l (.l (.l (.r .h))))))) (.s (.l (.r (.l (.l (.l (.r .h)))))))),
  .p (.l (.l (.r (.l (.l (.r .h)))))) none (.fa (nat_lit 1) (.s (.r (.l .h)))),
  .c none none (.st (nat_lit 1) (.s (.l (.l (.r (.l (.l (.r .h))))))) (.s (.l (.l (.l (.l (.l (.r .h)))))))),
  .p (.r .h) none (.mv (.s (.r (.r (.l (.l (.l (.r .h))))))))]) (.seq (.reg [.p (.l (.r (.r (.l (.l (.r .h)))))) none (.fa (nat_lit 0) (.s (.l (.l (.l .h))))),
  .r (.r (.r (.r (.l (.l (.r .h)))))) none (.ld (.s (.l (.r (.r (.l (.l (.r .h)))))))),
  .p (.l (.l (.l (.r (.l (.r .h)))))) none (.cp .eql (.s (.r (.r (.r (.l (.l (.r .h))))))) (.c (.a (.i .i64 (.n (nat_lit 3)))))),
  .p (.r (.l (.l (.r (.l (.r .h)))))) none (.mv (.s (.l (.l (.l (.r (.l (.r .h)))))))),
  .p (.l (.r (.l (.r (.l (.r .h)))))) (some ((.r (.l (.l (.r (.l (.r .h)))))), true)) (.mv (.s (.l (.l (.r .h))))),
  .p (.r (.r (.l (.r (.l (.r .h)))))) none (.pk (.s (.r (.l (.l (.r (.l (.r .h))))))) (.s (.l (.r (.l (.r (.l (.r .h))))))) (.c (.a (.b false)))),
  .p (.r (.l (.r (.l (.l (.r .h)))))) none (.mv (.s (.r (.r (.l (.r (.l (.r .h))))))))])
 (.cond (.s (.r (.l (.r (.l (.l (.r .h))))))) (.reg [.p (.l (.l (.r (.r (.l (.r .h)))))) none (.fa (nat_lit 3) (.s (.l (.l (.l .h))))),
  .r (.r (.l (.r (.r (.l (.r .h)))))) none (.ld (.s (.l (.l (.r (.r (.l (.r .h)))))))),
  .p (.l (.r (.r (.r (.l (.r .h)))))) none (.mv (.s (.r .h))),
  .p (.r (.r (.r (.r (.l (.r .h)))))) none (.mv (.s (.r (.r (.l .h))))),
  .p (.l (.l (.l (.l (.r (.r .h)))))) none (.ar .add (.s (.l (.r (.r (.r (.l (.r .h))))))) (.s (.r (.r (.r (.r (.l (.r .h)))))))),
  .p (.r (.l (.l (.l (.r (.r .h)))))) none (.fa (nat_lit 1) (.s (.r (.l .h)))),
  .c none none (.st (nat_lit 1) (.s (.r (.l (.l (.l (.r (.r .h))))))) (.s (.r (.l (.r (.r (.l (.r .h)))))))),
  .p (.r .h) none (.mv (.s (.l (.l (.l (.l (.r (.r .h))))))))]) (.seq (.reg [.p (.r (.r (.l (.l (.r (.r .h)))))) none (.fa (nat_lit 0) (.s (.l (.l (.l .h))))),
  .r (.l (.l (.r (.l (.r (.r .h)))))) none (.ld (.s (.r (.r (.l (.l (.r (.r .h)))))))),
  .p (.r (.l (.r (.l (.r (.r .h)))))) none (.cp .eql (.s (.l (.l (.r (.l (.r (.r .h))))))) (.c (.a (.i .i64 (.n (nat_lit 4)))))),
  .p (.l (.r (.r (.l (.r (.r .h)))))) none (.mv (.s (.r (.l (.r (.l (.r (.r .h)))))))),
  .p (.r (.r (.r (.l (.r (.r .h)))))) (some ((.l (.r (.r (.l (.r (.r .h)))))), true)) (.mv (.s (.l (.r (.r .h))))),
  .p (.l (.l (.l (.r (.r (.r .h)))))) none (.pk (.s (.l (.r (.r (.l (.r (.r .h))))))) (.s (.r (.r (.r (.l (.r (.r .h))))))) (.c (.a (.b false)))),
  .p (.l (.r (.l (.l (.r (.r .h)))))) none (.mv (.s (.l (.l (.l (.r (.r (.r .h))))))))])
 (.cond (.s (.l (.r (.l (.l (.r (.r .h))))))) (.reg [.p (.r (.l (.l (.r (.r (.r .h)))))) none (.fa (nat_lit 2) (.s (.l (.l (.l .h))))),
  .r (.l (.r (.l (.r (.r (.r .h)))))) none (.ld (.s (.r (.l (.l (.r (.r (.r .h)))))))),
  .p (.r (.r (.l (.r (.r (.r .h)))))) none (.mv (.s (.r .h))),
  .p (.l (.l (.r (.r (.r (.r .h)))))) none (.mv (.s (.r (.l (.r .h))))),
  .p (.r (.l (.r (.r (.r (.r .h)))))) none (.ar .sub (.s (.r (.r (.l (.r (.r (.r .h))))))) (.s (.l (.l (.r (.r (.r (.r .h)))))))),
  .p (.l (.r (.r (.r (.r (.r .h)))))) none (.fa (nat_lit 1) (.s (.r (.l .h)))),
  .c none none (.st (nat_lit 1) (.s (.l (.r (.r (.r (.r (.r .h))))))) (.s (.l (.r (.l (.r (.r (.r .h)))))))),
  .p (.r .h) none (.mv (.s (.r (.l (.r (.r (.r (.r .h))))))))]) (.seq (.reg [.p (.r (.r (.r (.l (.l (.l .h)))))) none (.bd [(.i .i64 (.n (nat_lit 0))), (.i .i64 (.n (nat_lit 0))), (.i .i64 (.n (nat_lit 0)))] []),
  .c none none (.st (nat_lit 3) (.s (.r (.r .h))) (.s (.r (.r (.r (.l (.l (.l .h))))))))])
 .rt))))))))))))))))))))
 (.seq (.reg [.p (.r (.r (.r (.r (.r (.r .h)))))) none (.fa (nat_lit 1) (.s (.r (.l .h)))),
  .r (.l (.l (.l (.l (.l (.l (.l .h))))))) none (.ld (.s (.r (.r (.r (.r (.r (.r .h)))))))),
  .p (.r (.l (.l (.l (.l (.l (.l .h))))))) none (.mv (.s (.r .h))),
  .p (.l (.r (.l (.l (.l (.l (.l .h))))))) none (.bd [(.i .i64 (.n (nat_lit 0))), (.i .i64 (.n (nat_lit 0))), (.i .i64 (.n (nat_lit 0)))] [((nat_lit 0), (nat_lit 1), (.c (.a (.i .i64 (.n (nat_lit 2)))))), ((nat_lit 1), (nat_lit 1), (.s (.l (.l (.l (.l (.l (.l (.l .h))))))))), ((nat_lit 2), (nat_lit 1), (.s (.r (.l (.l (.l (.l (.l (.l .h)))))))))]),
  .c none none (.st (nat_lit 3) (.s (.r (.r .h))) (.s (.l (.r (.l (.l (.l (.l (.l .h)))))))))])
 .rt))), false, false⟩
noncomputable def rf62 : RF := ⟨[.h], [.s (.r .h)], (.seq (.reg [.p (.r .h) none (.mv (.c (.a (.i .i64 (.n (nat_lit 0))))))])
 (.seq (.blk (nat_lit 0) (.seq (.reg [.p (.r (.l .h)) none (.mv (.s .h)),
  .p (.l (.r .h)) none (.cp .eql (.s (.r (.l .h))) (.c (.a (.i .i64 (.n (nat_lit 1)))))),
  .p (.l (.l .h)) none (.mv (.s (.l (.r .h))))])
 (.cond (.s (.l (.l .h))) (.seq (.reg [.p (.r .h) none (.mv (.c (.a (.i .i64 (.n (nat_lit 9))))))])
 .rt) (.seq (.reg [.p (.l (.l (.l .h))) none (.mv (.s .h)),
  .p (.r (.l (.l .h))) none (.cp .eql (.s (.l (.l (.l .h)))) (.c (.a (.i .i64 (.n (nat_lit 2)))))),
  .p (.r (.r .h)) none (.mv (.s (.r (.l (.l .h)))))])
 (.cond (.s (.r (.r .h))) (.seq (.reg [.p (.r .h) none (.mv (.c (.a (.i .i64 (.n (nat_lit 3))))))])
 .rt) (.seq (.reg [.p (.r (.r (.l .h))) none (.mv (.s .h)),
  .p (.l (.l (.r .h))) none (.cp .geq (.s (.r (.r (.l .h)))) (.c (.a (.i .i64 (.n (nat_lit 3)))))),
  .p (.r (.l (.r .h))) none (.mv (.s (.l (.l (.r .h))))),
  .p (.l (.r (.r .h))) (some ((.r (.l (.r .h))), true)) (.mv (.s .h)),
  .p (.r (.r (.r .h))) (some ((.r (.l (.r .h))), true)) (.cp .leq (.s (.l (.r (.r .h)))) (.c (.a (.i .i64 (.n (nat_lit 14)))))),
  .p (.l (.l (.l (.l .h)))) none (.pk (.s (.r (.l (.r .h)))) (.s (.r (.r (.r .h)))) (.c (.a (.b false)))),
  .p (.l (.r (.l .h))) none (.mv (.s (.l (.l (.l (.l .h))))))])
 (.cond (.s (.l (.r (.l .h)))) (.seq (.reg [.p (.r .h) none (.mv (.c (.a (.i .i64 (.n (nat_lit 7))))))])
 .rt) (.seq (.reg [.p (.l (.r (.l (.l .h)))) none (.mv (.s .h)),
  .p (.r (.r (.l (.l .h)))) none (.cp .eql (.s (.l (.r (.l (.l .h))))) (.c (.a (.i .i64 (.n (nat_lit 15)))))),
  .p (.r (.l (.l (.l .h)))) none (.mv (.s (.r (.r (.l (.l .h))))))])
 (.cond (.s (.r (.l (.l (.l .h))))) (.seq (.reg [.p (.r .h) none (.mv (.c (.a (.i .i64 (.n (nat_lit 11))))))])
 .rt) (.seq (.reg [.p (.r (.l (.r (.l .h)))) none (.mv (.s .h)),
  .p (.l (.r (.r (.l .h)))) none (.cp .eql (.s (.r (.l (.r (.l .h))))) (.c (.a (.i .i64 (.n (nat_lit 16)))))),
  .p (.l (.l (.r (.l .h)))) none (.mv (.s (.l (.r (.r (.l .h))))))])
 (.cond (.s (.l (.l (.r (.l .h))))) (.seq (.reg [.p (.r .h) none (.mv (.c (.a (.i .i64 (.n (nat_lit 14))))))])
 .rt) (.seq (.reg [.p (.l (.l (.l (.r .h)))) none (.mv (.s .h)),
  .p (.r (.l (.l (.r .h)))) none (.cp .eql (.s (.l (.l (.l (.r .h))))) (.c (.a (.i .i64 (.n (nat_lit 17)))))),
  .p (.r (.r (.r (.l .h)))) none (.mv (.s (.r (.l (.l (.r .h))))))])
 (.cond (.s (.r (.r (.r (.l .h))))) (.seq (.reg [.p (.r .h) none (.mv (.c (.a (.i .i64 (.n (nat_lit 8))))))])
 .rt) (.seq (.reg [.p (.r (.r (.l (.r .h)))) none (.mv (.s .h)),
  .p (.l (.l (.r (.r .h)))) none (.cp .eql (.s (.r (.r (.l (.r .h))))) (.c (.a (.i .i64 (.n (nat_lit 18)))))),
  .p (.l (.r (.l (.r .h)))) none (.mv (.s (.l (.l (.r (.r .h))))))])
 (.cond (.s (.l (.r (.l (.r .h))))) (.seq (.reg [.p (.r .h) none (.mv (.c (.a (.i .i64 (.n (nat_lit 2))))))])
 .rt) (.seq (.reg [.p (.l (.r (.r (.r .h)))) none (.mv (.s .h)),
  .p (.r (.r (.r (.r .h)))) none (.cp .eql (.s (.l (.r (.r (.r .h))))) (.c (.a (.i .i64 (.n (nat_lit 19)))))),
  .p (.l (.l (.l (.l (.l .h))))) none (.mv (.s (.r (.r (.r (.r .h)))))),
  .p (.r (.l (.l (.l (.l .h))))) (some ((.l (.l (.l (.l (.l .h))))), false)) (.mv (.s .h)),
  .p (.l (.r (.l (.l (.l .h))))) (some ((.l (.l (.l (.l (.l .h))))), false)) (.cp .eql (.s (.r (.l (.l (.l (.l .h)))))) (.c (.a (.i .i64 (.n (nat_lit 20)))))),
  .p (.r (.r (.l (.l (.l .h))))) none (.pk (.s (.l (.l (.l (.l (.l .h)))))) (.c (.a (.b true))) (.s (.l (.r (.l (.l (.l .h))))))),
  .p (.r (.l (.r (.r .h)))) none (.mv (.s (.r (.r (.l (.l (.l .h)))))))])
 (.cond (.s (.r (.l (.r (.r .h))))) (.seq (.reg [.p (.r .h) none (.mv (.c (.a (.i .i64 (.n (nat_lit 24))))))])
 .rt) (.seq (.reg [.p (.r (.l (.r (.l (.l .h))))) none (.mv (.s .h)),
  .p (.l (.r (.r (.l (.l .h))))) none (.cp .eql (.s (.r (.l (.r (.l (.l .h)))))) (.c (.a (.i .i64 (.n (nat_lit 21)))))),
  .p (.l (.l (.r (.l (.l .h))))) none (.mv (.s (.l (.r (.r (.l (.l .h)))))))])
 (.cond (.s (.l (.l (.r (.l (.l .h)))))) (.seq (.reg [.p (.r .h) none (.mv (.c (.a (.i .i64 (.n (nat_lit 48))))))])
 .rt) .skip)))))))))))))))))))
 (.seq (.reg [.p (.r .h) none (.mv (.c (.a (.i .i64 (.n (nat_lit 0))))))])
 .rt))), false, false⟩
end
end Go.Proofs.Ytikafojlhinonaa
