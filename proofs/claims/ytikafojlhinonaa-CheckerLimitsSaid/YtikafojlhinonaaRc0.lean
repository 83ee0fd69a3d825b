/- The program's functions in the evaluator's form, part 0. -/
import Derived.Test.YtikafojlhinonaaRows
import Derived.Test.YtikafojlhinonaaE27
set_option linter.unusedVariables false
set_option maxRecDepth 100000
namespace Go.Proofs.Ytikafojlhinonaa
open Go.Ev
noncomputable section
noncomputable def rf3 : RF := ⟨[.h], [.s (.r .h)], (.seq (.reg [.p (.r .h) none (.mv (.c (.a (.b false))))])
 (.seq (.reg [.p (.r (.r (.l (.l .h)))) none (.mv (.s .h)),
  .k (some (.l (.l (.r (.l .h))))) none (nat_lit 5) (.l (.r .h)) [(.s (.r (.r (.l (.l .h))))), (.c (.a (.i .i64 (.n (nat_lit 5)))))],
  .p (.r (.l (.r (.l .h)))) none (.ar .sub (.s (.l (.l (.r (.l .h))))) (.c (.a (.i .i64 (.n (nat_lit 2)))))),
  .p (.l (.l .h)) none (.mv (.s (.r (.l (.r (.l .h))))))])
 (.seq (.reg [.p (.r (.l .h)) none (.mv (.c (.a (.t (nat_lit 1))))),
  .p (.l (.r .h)) none (.mv (.c (.a (.t (nat_lit 1))))),
  .p (.r (.r .h)) none (.mv (.c (.a (.t (nat_lit 1)))))])
 (.seq (.seq (.reg [.p (.l (.l (.l .h))) none (.mv (.c (.a (.i .i64 (.n (nat_lit 0))))))])
 (.blk (nat_lit 0) (.loop (.seq (.seq (.reg [.p (.l (.r (.r (.l .h)))) none (.mv (.s (.l (.l (.l .h))))),
  .p (.r (.r (.r (.l .h)))) none (.mv (.s (.l (.l .h)))),
  .p (.l (.l (.l (.r .h)))) none (.ar .add (.c (.a (.i .i64 (.n (nat_lit 24))))) (.s (.r (.r (.r (.l .h)))))),
  .p (.r (.l (.l (.r .h)))) none (.cp .lss (.s (.l (.r (.r (.l .h))))) (.s (.l (.l (.l (.r .h))))))])
 (.cond (.s (.r (.l (.l (.r .h))))) .skip (.ex (nat_lit 0))))
 (.seq (.blk (nat_lit 1) (.reg [.p (.l (.l (.r (.r .h)))) none (.mv (.s (.r (.l .h)))),
  .p (.r (.l (.r (.r .h)))) none (.sc (.s (.l (.l (.r (.r .h))))) (.c (.a (.t (nat_lit 1606862135670))))),
  .p (.l (.r (.r (.r .h)))) none (.mv (.s (.l (.l (.l .h))))),
  .k (some (.r (.r (.r (.r .h))))) none (nat_lit 6) (.r (.r .h)) [(.s (.l (.r (.r (.r .h)))))],
  .p (.l (.l (.l (.l (.l .h))))) none (.sc (.s (.r (.l (.r (.r .h))))) (.s (.r (.r (.r (.r .h)))))),
  .p (.r (.l (.l (.l (.l .h))))) none (.sc (.s (.l (.l (.l (.l (.l .h)))))) (.c (.a (.t (nat_lit 346846231339066))))),
  .p (.r (.l .h)) none (.mv (.s (.r (.l (.l (.l (.l .h)))))))]))
 (.reg [.p (.l (.r (.l (.r .h)))) none (.mv (.s (.l (.l (.l .h))))),
  .p (.r (.r (.l (.r .h)))) none (.ar .add (.s (.l (.r (.l (.r .h))))) (.c (.a (.i .i64 (.n (nat_lit 1)))))),
  .p (.l (.l (.l .h))) none (.mv (.s (.r (.r (.l (.r .h))))))]))))))
 (.seq (.seq (.reg [.p (.r (.l (.l .h))) none (.mv (.c (.a (.i .i64 (.n (nat_lit 0))))))])
 (.blk (nat_lit 2) (.loop (.seq (.seq (.reg [.p (.l (.r (.l (.l (.l .h))))) none (.mv (.s (.r (.l (.l .h))))),
  .p (.r (.r (.l (.l (.l .h))))) none (.mv (.s (.l (.l .h)))),
  .p (.l (.l (.r (.l (.l .h))))) none (.ar .add (.c (.a (.i .i64 (.n (nat_lit 4))))) (.s (.r (.r (.l (.l (.l .h))))))),
  .p (.r (.l (.r (.l (.l .h))))) none (.cp .lss (.s (.l (.r (.l (.l (.l .h)))))) (.s (.l (.l (.r (.l (.l .h)))))))])
 (.cond (.s (.r (.l (.r (.l (.l .h)))))) .skip (.ex (nat_lit 2))))
 (.seq (.blk (nat_lit 3) (.seq (.seq (.reg [.p (.l (.l (.l (.r (.l .h))))) none (.mv (.s (.r (.l (.l .h))))),
  .p (.r (.l (.l (.r (.l .h))))) none (.cp .gtr (.s (.l (.l (.l (.r (.l .h)))))) (.c (.a (.i .i64 (.n (nat_lit 0))))))])
 (.cond (.s (.r (.l (.l (.r (.l .h)))))) (.reg [.p (.l (.r (.l (.r (.l .h))))) none (.mv (.s (.l (.r .h)))),
  .p (.r (.r (.l (.r (.l .h))))) none (.sc (.s (.l (.r (.l (.r (.l .h)))))) (.c (.a (.t (nat_lit 73772))))),
  .p (.l (.r .h)) none (.mv (.s (.r (.r (.l (.r (.l .h)))))))]) .skip))
 (.reg [.p (.l (.l (.r (.r (.l .h))))) none (.mv (.s (.l (.r .h)))),
  .p (.r (.l (.r (.r (.l .h))))) none (.sc (.s (.l (.l (.r (.r (.l .h)))))) (.c (.a (.t (nat_lit 353))))),
  .p (.l (.r (.r (.r (.l .h))))) none (.mv (.s (.r (.l (.l .h))))),
  .k (some (.r (.r (.r (.r (.l .h)))))) none (nat_lit 6) (.r (.r .h)) [(.s (.l (.r (.r (.r (.l .h))))))],
  .p (.l (.l (.l (.l (.r .h))))) none (.sc (.s (.r (.l (.r (.r (.l .h)))))) (.s (.r (.r (.r (.r (.l .h))))))),
  .p (.l (.r .h)) none (.mv (.s (.l (.l (.l (.l (.r .h)))))))])))
 (.reg [.p (.l (.r (.r (.l (.l .h))))) none (.mv (.s (.r (.l (.l .h))))),
  .p (.r (.r (.r (.l (.l .h))))) none (.ar .add (.s (.l (.r (.r (.l (.l .h)))))) (.c (.a (.i .i64 (.n (nat_lit 1)))))),
  .p (.r (.l (.l .h))) none (.mv (.s (.r (.r (.r (.l (.l .h)))))))]))))))
 (.seq (.seq (.reg [.p (.l (.r (.l .h))) none (.mv (.c (.a (.i .i64 (.n (nat_lit 0))))))])
 (.blk (nat_lit 4) (.loop (.seq (.seq (.reg [.p (.r (.l (.l (.l (.r .h))))) none (.mv (.s (.l (.r (.l .h))))),
  .p (.l (.r (.l (.l (.r .h))))) none (.mv (.s (.l (.l .h)))),
  .p (.r (.r (.l (.l (.r .h))))) none (.ar .add (.c (.a (.i .i64 (.n (nat_lit 8))))) (.s (.l (.r (.l (.l (.r .h))))))),
  .p (.l (.l (.r (.l (.r .h))))) none (.cp .lss (.s (.r (.l (.l (.l (.r .h)))))) (.s (.r (.r (.l (.l (.r .h)))))))])
 (.cond (.s (.l (.l (.r (.l (.r .h)))))) .skip (.ex (nat_lit 4))))
 (.seq (.blk (nat_lit 5) (.reg [.p (.r (.r (.r (.l (.r .h))))) none (.mv (.s (.r (.r .h)))),
  .p (.l (.l (.l (.r (.r .h))))) none (.sc (.s (.r (.r (.r (.l (.r .h)))))) (.c (.a (.t (nat_lit 393764269880678))))),
  .p (.r (.l (.l (.r (.r .h))))) none (.mv (.s (.l (.r (.l .h))))),
  .k (some (.l (.r (.l (.r (.r .h)))))) none (nat_lit 6) (.r (.r .h)) [(.s (.r (.l (.l (.r (.r .h))))))],
  .p (.r (.r (.l (.r (.r .h))))) none (.sc (.s (.l (.l (.l (.r (.r .h)))))) (.s (.l (.r (.l (.r (.r .h))))))),
  .p (.l (.l (.r (.r (.r .h))))) none (.sc (.s (.r (.r (.l (.r (.r .h)))))) (.c (.a (.t (nat_lit 75009922263165224))))),
  .p (.r (.r .h)) none (.mv (.s (.l (.l (.r (.r (.r .h)))))))]))
 (.reg [.p (.r (.l (.r (.l (.r .h))))) none (.mv (.s (.l (.r (.l .h))))),
  .p (.l (.r (.r (.l (.r .h))))) none (.ar .add (.s (.r (.l (.r (.l (.r .h)))))) (.c (.a (.i .i64 (.n (nat_lit 1)))))),
  .p (.l (.r (.l .h))) none (.mv (.s (.l (.r (.r (.l (.r .h)))))))]))))))
 (.seq (.seq (.reg [.p (.r (.l (.r (.r (.r .h))))) none (.mv (.s (.l (.l .h)))),
  .p (.l (.r (.r (.r (.r .h))))) none (.ar .add (.c (.a (.i .i64 (.n (nat_lit 199))))) (.s (.r (.l (.r (.r (.r .h))))))),
  .k (some (.r (.r (.r (.r (.r .h)))))) none (nat_lit 7) (.l (.l (.l .h))) [(.c (.a (.t (nat_lit 346763315454049)))), (.s (.l (.r (.r (.r (.r .h))))))],
  .p (.l (.l (.l (.l (.l (.l .h)))))) none (.sc (.c (.a (.t (nat_lit 89280532583404895942004864358)))) (.s (.r (.r (.r (.r (.r .h))))))),
  .p (.r (.l (.l (.l (.l (.l .h)))))) none (.sc (.s (.l (.l (.l (.l (.l (.l .h))))))) (.c (.a (.t (nat_lit 97568))))),
  .p (.l (.r (.l (.l (.l (.l .h)))))) none (.mv (.s (.r (.l .h)))),
  .p (.r (.r (.l (.l (.l (.l .h)))))) none (.sc (.c (.a (.t (nat_lit 348752080387949171298956646)))) (.s (.l (.r (.l (.l (.l (.l .h)))))))),
  .p (.l (.l (.r (.l (.l (.l .h)))))) none (.sc (.s (.r (.r (.l (.l (.l (.l .h))))))) (.c (.a (.t (nat_lit 97568))))),
  .p (.r (.l (.r (.l (.l (.l .h)))))) none (.mv (.s (.l (.r .h)))),
  .p (.l (.r (.r (.l (.l (.l .h)))))) none (.sc (.c (.a (.t (nat_lit 83428882399524198)))) (.s (.r (.l (.r (.l (.l (.l .h)))))))),
  .p (.r (.r (.r (.l (.l (.l .h)))))) none (.sc (.s (.l (.r (.r (.l (.l (.l .h))))))) (.c (.a (.t (nat_lit 1636927479849))))),
  .p (.l (.l (.l (.r (.l (.l .h)))))) none (.mv (.s (.r (.r .h)))),
  .a (.r (.l (.l (.r (.l (.l .h)))))) none (.bs (nat_lit 9) (nat_lit 4) [(.t (nat_lit 1)), (.t (nat_lit 1)), (.t (nat_lit 1)), (.t (nat_lit 1))] [((nat_lit 0), (nat_lit 1), (.s (.r (.l (.l (.l (.l (.l .h)))))))), ((nat_lit 1), (nat_lit 1), (.s (.l (.l (.r (.l (.l (.l .h)))))))), ((nat_lit 2), (nat_lit 1), (.s (.r (.r (.r (.l (.l (.l .h)))))))), ((nat_lit 3), (nat_lit 1), (.s (.l (.l (.l (.r (.l (.l .h))))))))]),
  .p (.l (.r (.l (.r (.l (.l .h)))))) none (.ln (.s (.r (.l (.l (.r (.l (.l .h)))))))),
  .p (.r (.r (.l (.r (.l (.l .h)))))) none (.mv (.c (.a (.i .i64 (.n (nat_lit 0))))))])
 (.blk (nat_lit 6) (.loop (.seq (.reg [.p (.l (.l (.r (.r (.l (.l .h)))))) none (.cp .lss (.s (.r (.r (.l (.r (.l (.l .h))))))) (.s (.l (.r (.l (.r (.l (.l .h))))))))])
 (.seq (.cond (.s (.l (.l (.r (.r (.l (.l .h))))))) .skip (.ex (nat_lit 6)))
 (.seq (.blk (nat_lit 7) (.seq (.reg [.p (.r (.l (.r (.r (.l (.l .h)))))) none (.ix (nat_lit 1) (.s (.r (.l (.l (.r (.l (.l .h))))))) (.s (.r (.r (.l (.r (.l (.l .h)))))))),
  .r (.l (.r (.r (.r (.l (.l .h)))))) none (.ld (.s (.r (.l (.r (.r (.l (.l .h)))))))),
  .p (.l (.l (.r .h))) none (.mv (.s (.l (.r (.r (.r (.l (.l .h))))))))])
 (.seq (.reg [.p (.l (.l (.l (.l (.r (.l .h)))))) none (.mv (.s (.l (.l (.r .h))))),
  .k (some (.r (.l (.l (.l (.r (.l .h))))))) none (nat_lit 8) (.r (.l (.l .h))) [(.s (.l (.l (.l (.l (.r (.l .h)))))))],
  .p (.r (.r (.r (.r (.l (.l .h)))))) none (.mv (.s (.r (.l (.l (.l (.r (.l .h)))))))),
  .p (.l (.r (.l (.l (.r (.l .h)))))) none (.ex (nat_lit 0) (.s (.r (.r (.r (.r (.l (.l .h)))))))),
  .p (.r (.r (.l (.l (.r (.l .h)))))) none (.ex (nat_lit 1) (.s (.r (.r (.r (.r (.l (.l .h)))))))),
  .p (.l (.l (.r (.l (.r (.l .h)))))) none (.ex (nat_lit 2) (.s (.r (.r (.r (.r (.l (.l .h)))))))),
  .a (.r (.l (.r .h))) none (.al (nat_lit 29) (nat_lit 2) (.n (.n .e .s0 .e) .s0 .e)),
  .c none none (.st (nat_lit 2) (.s (.r (.l (.r .h)))) (.s (.l (.r (.l (.l (.r (.l .h)))))))),
  .p (.l (.r (.r .h))) none (.mv (.s (.r (.r (.l (.l (.r (.l .h)))))))),
  .p (.r (.r (.r .h))) none (.mv (.s (.l (.l (.r (.l (.r (.l .h))))))))])
 (.seq (.reg [.r (.l (.r (.r (.l (.r (.l .h)))))) none (.lg (nat_lit 2) (.s (.r (.l (.r .h))))),
  .k (some (.r (.r (.r (.l (.r (.l .h))))))) none (nat_lit 9) (.l (.r (.l .h))) [(.s (.l (.r (.r (.l (.r (.l .h)))))))],
  .p (.r (.l (.r (.l (.r (.l .h)))))) none (.mv (.s (.r (.r (.r (.l (.r (.l .h)))))))),
  .p (.l (.l (.l (.r (.r (.l .h)))))) none (.ex (nat_lit 0) (.s (.r (.l (.r (.l (.r (.l .h)))))))),
  .p (.r (.l (.l (.r (.r (.l .h)))))) none (.ex (nat_lit 1) (.s (.r (.l (.r (.l (.r (.l .h)))))))),
  .p (.l (.r (.l (.r (.r (.l .h)))))) none (.ex (nat_lit 2) (.s (.r (.l (.r (.l (.r (.l .h)))))))),
  .a (.l (.l (.l (.l .h)))) none (.al (nat_lit 36) (nat_lit 4) (.n (.n (.n .e .s0 .e) .s0 .e) .s0 (.n .e .s0 .e))),
  .c none none (.st (nat_lit 4) (.s (.l (.l (.l (.l .h))))) (.s (.l (.l (.l (.r (.r (.l .h)))))))),
  .p (.r (.l (.l (.l .h)))) none (.mv (.s (.r (.l (.l (.r (.r (.l .h)))))))),
  .p (.l (.r (.l (.l .h)))) none (.mv (.s (.l (.r (.l (.r (.r (.l .h))))))))])
 (.seq (.reg [.p (.r (.r (.l (.r (.r (.l .h)))))) none (.mv (.s (.r (.r (.r .h))))),
  .p (.l (.l (.r (.r (.r (.l .h)))))) none (.cp .neq (.s (.r (.r (.l (.r (.r (.l .h))))))) (.c (.a (.i .i64 (.n (nat_lit 0)))))),
  .p (.r (.l (.r (.r (.r (.l .h)))))) none (.mv (.s (.l (.l (.r (.r (.r (.l .h)))))))),
  .p (.l (.r (.r (.r (.r (.l .h)))))) (some ((.r (.l (.r (.r (.r (.l .h)))))), false)) (.mv (.s (.l (.l .h)))),
  .p (.r (.r (.r (.r (.r (.l .h)))))) (some ((.r (.l (.r (.r (.r (.l .h)))))), false)) (.cp .leq (.s (.l (.r (.r (.r (.r (.l .h))))))) (.c (.a (.i .i64 (.n (nat_lit 0)))))),
  .p (.l (.l (.l (.l (.l (.r .h)))))) (some ((.r (.l (.r (.r (.r (.l .h)))))), false)) (.mv (.s (.r (.r (.r (.r (.r (.l .h)))))))),
  .p (.r (.l (.l (.l (.l (.r .h)))))) (some ((.l (.l (.l (.l (.l (.r .h)))))), true)) (.mv (.s (.l (.r (.l (.l .h)))))),
  .p (.l (.r (.l (.l (.l (.r .h)))))) (some ((.l (.l (.l (.l (.l (.r .h)))))), true)) (.cp .neq (.s (.r (.l (.l (.l (.l (.r .h))))))) (.c (.a (.i .i64 (.n (nat_lit 0)))))),
  .p (.r (.r (.l (.l (.l (.r .h)))))) (some ((.r (.l (.r (.r (.r (.l .h)))))), false)) (.pk (.s (.l (.l (.l (.l (.l (.r .h))))))) (.s (.l (.r (.l (.l (.l (.r .h))))))) (.c (.a (.b false)))),
  .p (.l (.l (.r (.l (.l (.r .h)))))) none (.pk (.s (.r (.l (.r (.r (.r (.l .h))))))) (.c (.a (.b true))) (.s (.r (.r (.l (.l (.l (.r .h)))))))),
  .p (.r (.l (.r (.l (.l (.r .h)))))) none (.mv (.s (.l (.l (.r (.l (.l (.r .h)))))))),
  .p (.l (.r (.r (.l (.l (.r .h)))))) (some ((.r (.l (.r (.l (.l (.r .h)))))), false)) (.mv (.s (.l (.l .h)))),
  .p (.r (.r (.r (.l (.l (.r .h)))))) (some ((.r (.l (.r (.l (.l (.r .h)))))), false)) (.cp .gtr (.s (.l (.r (.r (.l (.l (.r .h))))))) (.c (.a (.i .i64 (.n (nat_lit 0)))))),
  .p (.l (.l (.l (.r (.l (.r .h)))))) (some ((.r (.l (.r (.l (.l (.r .h)))))), false)) (.mv (.s (.r (.r (.r (.l (.l (.r .h)))))))),
  .p (.r (.l (.l (.r (.l (.r .h)))))) (some ((.l (.l (.l (.r (.l (.r .h)))))), true)) (.mv (.s (.l (.r (.l (.l .h)))))),
  .p (.l (.r (.l (.r (.l (.r .h)))))) (some ((.l (.l (.l (.r (.l (.r .h)))))), true)) (.cp .neq (.s (.r (.l (.l (.r (.l (.r .h))))))) (.c (.a (.i .i64 (.n (nat_lit 5)))))),
  .p (.r (.r (.l (.r (.l (.r .h)))))) (some ((.l (.l (.l (.r (.l (.r .h)))))), true)) (.mv (.s (.l (.r (.l (.r (.l (.r .h)))))))),
  .p (.l (.l (.r (.r (.l (.r .h)))))) (some ((.r (.r (.l (.r (.l (.r .h)))))), false)) (.mv (.s (.r (.l (.l (.l .h)))))),
  .p (.r (.l (.r (.r (.l (.r .h)))))) (some ((.r (.r (.l (.r (.l (.r .h)))))), false)) (.cp .lss (.s (.l (.l (.r (.r (.l (.r .h))))))) (.c (.a (.i .i64 (.n (nat_lit 1)))))),
  .p (.l (.r (.r (.r (.l (.r .h)))))) (some ((.l (.l (.l (.r (.l (.r .h)))))), true)) (.pk (.s (.r (.r (.l (.r (.l (.r .h))))))) (.c (.a (.b true))) (.s (.r (.l (.r (.r (.l (.r .h)))))))),
  .p (.r (.r (.r (.r (.l (.r .h)))))) (some ((.r (.l (.r (.l (.l (.r .h)))))), false)) (.pk (.s (.l (.l (.l (.r (.l (.r .h))))))) (.s (.l (.r (.r (.r (.l (.r .h))))))) (.c (.a (.b false)))),
  .p (.l (.l (.l (.l (.r (.r .h)))))) none (.pk (.s (.r (.l (.r (.l (.l (.r .h))))))) (.c (.a (.b true))) (.s (.r (.r (.r (.r (.l (.r .h))))))))])
 (.cond (.s (.l (.l (.l (.l (.r (.r .h))))))) (.seq (.reg [.p (.r .h) none (.mv (.c (.a (.b false))))])
 .rt) .skip))))))
 (.reg [.p (.r (.l (.l (.l (.r (.r .h)))))) none (.ar .add (.s (.r (.r (.l (.r (.l (.l .h))))))) (.c (.a (.i .i64 (.n (nat_lit 1)))))),
  .p (.r (.r (.l (.r (.l (.l .h)))))) none (.mv (.s (.r (.l (.l (.l (.r (.r .h))))))))])))))))
 (.seq (.reg [.k (some (.l (.r (.l (.l (.r (.r .h))))))) none (nat_lit 10) (.r (.r (.l .h))) [],
  .p (.r .h) none (.mv (.s (.l (.r (.l (.l (.r (.r .h))))))))])
 .rt)))))))), false, false⟩
noncomputable def rf5 : RF := ⟨[.h, (.l .h)], [.s (.r (.l .h))], (.seq (.reg [.p (.r (.l .h)) none (.mv (.c (.a (.i .i64 (.n (nat_lit 0))))))])
 (.seq (.reg [.p (.l (.r .h)) none (.mv (.s .h)),
  .p (.r (.r .h)) none (.mv (.s (.l .h))),
  .p (.l (.l (.l .h))) none (.ar .rem (.s (.l (.r .h))) (.s (.r (.r .h)))),
  .p .h none (.mv (.s (.l (.l (.l .h)))))])
 (.seq (.seq (.reg [.p (.r (.l (.l .h))) none (.mv (.s .h)),
  .p (.l (.r (.l .h))) none (.cp .lss (.s (.r (.l (.l .h)))) (.c (.a (.i .i64 (.n (nat_lit 0))))))])
 (.cond (.s (.l (.r (.l .h)))) (.reg [.p (.r (.r (.l .h))) none (.mv (.s .h)),
  .p (.l (.l (.r .h))) none (.mv (.s (.l .h))),
  .p (.r (.l (.r .h))) none (.ar .add (.s (.r (.r (.l .h)))) (.s (.l (.l (.r .h))))),
  .p .h none (.mv (.s (.r (.l (.r .h)))))]) .skip))
 (.seq (.reg [.p (.l (.r (.r .h))) none (.mv (.s .h)),
  .p (.r (.l .h)) none (.mv (.s (.l (.r (.r .h)))))])
 .rt)))), false, false⟩
noncomputable def rf6 : RF := ⟨[.h], [.s (.r .h)], (.seq (.reg [.p (.r .h) none (.mv (.c (.a (.t (nat_lit 1)))))])
 (.seq (.seq (.reg [.p (.l (.l .h)) none (.mv (.s .h)),
  .p (.r (.l .h)) none (.cp .lss (.s (.l (.l .h))) (.c (.a (.i .i64 (.n (nat_lit 0))))))])
 (.cond (.s (.r (.l .h))) (.seq (.seq (.reg [.p (.l (.r .h)) none (.mv (.s .h)),
  .p (.r (.r .h)) none (.cp .eql (.s (.l (.r .h))) (.c (.a (.i .i64 (.g (nat_lit 9223372036854775807))))))])
 (.cond (.s (.r (.r .h))) (.seq (.reg [.p (.r .h) none (.mv (.c (.a (.t (nat_lit 1782280452662939201852263854793441163433752017197)))))])
 .rt) .skip))
 (.seq (.reg [.p (.l (.l (.l .h))) none (.mv (.s .h)),
  .p (.r (.l (.l .h))) none (.ar .sub (.c (.a (.i .i64 (.n (nat_lit 0))))) (.s (.l (.l (.l .h))))),
  .k (some (.l (.r (.l .h)))) none (nat_lit 6) (.r (.r .h)) [(.s (.r (.l (.l .h))))],
  .p (.r (.r (.l .h))) none (.sc (.c (.a (.t (nat_lit 301)))) (.s (.l (.r (.l .h))))),
  .p (.r .h) none (.mv (.s (.r (.r (.l .h)))))])
 .rt)) .skip))
 (.seq (.seq (.reg [.p (.l (.l (.r .h))) none (.mv (.s .h)),
  .p (.r (.l (.r .h))) none (.cp .lss (.s (.l (.l (.r .h)))) (.c (.a (.i .i64 (.n (nat_lit 10))))))])
 (.cond (.s (.r (.l (.r .h)))) (.seq (.reg [.p (.l (.r (.r .h))) none (.mv (.s .h)),
  .p (.r (.r (.r .h))) none (.ar .add (.c (.a (.i .i64 (.n (nat_lit 48))))) (.s (.l (.r (.r .h))))),
  .p (.l (.l (.l (.l .h)))) none (.cv .u8 (.s (.r (.r (.r .h))))),
  .a (.r (.l (.l (.l .h)))) none (.bs (nat_lit 5) (nat_lit 1) [(.i .u8 (.n (nat_lit 0)))] [((nat_lit 0), (nat_lit 1), (.s (.l (.l (.l (.l .h))))))]),
  .r (.l (.r (.l (.l .h)))) none (.bt (.s (.r (.l (.l (.l .h)))))),
  .p (.r .h) none (.mv (.s (.l (.r (.l (.l .h))))))])
 .rt) .skip))
 (.seq (.reg [.p (.r (.r (.l (.l .h)))) none (.mv (.s .h)),
  .p (.l (.l (.r (.l .h)))) none (.ar .quo (.s (.r (.r (.l (.l .h))))) (.c (.a (.i .i64 (.n (nat_lit 10)))))),
  .k (some (.r (.l (.r (.l .h))))) none (nat_lit 6) (.r (.r .h)) [(.s (.l (.l (.r (.l .h)))))],
  .p (.l (.r (.r (.l .h)))) none (.mv (.s .h)),
  .p (.r (.r (.r (.l .h)))) none (.ar .rem (.s (.l (.r (.r (.l .h))))) (.c (.a (.i .i64 (.n (nat_lit 10)))))),
  .k (some (.l (.l (.l (.r .h))))) none (nat_lit 6) (.r (.r .h)) [(.s (.r (.r (.r (.l .h)))))],
  .p (.r (.l (.l (.r .h)))) none (.sc (.s (.r (.l (.r (.l .h))))) (.s (.l (.l (.l (.r .h)))))),
  .p (.r .h) none (.mv (.s (.r (.l (.l (.r .h))))))])
 .rt)))), false, false⟩
noncomputable def rf7 : RF := ⟨[.h, (.l .h)], [.s (.r (.l .h))], (.seq (.reg [.p (.r (.l .h)) none (.mv (.c (.a (.t (nat_lit 1)))))])
 (.seq (.reg [.p (.l (.r .h)) none (.mv (.c (.a (.t (nat_lit 1)))))])
 (.seq (.seq (.reg [.p (.r (.r .h)) none (.mv (.c (.a (.i .i64 (.n (nat_lit 0))))))])
 (.blk (nat_lit 0) (.loop (.seq (.seq (.reg [.p (.l (.l (.l .h))) none (.mv (.s (.r (.r .h)))),
  .p (.r (.l (.l .h))) none (.mv (.s (.l .h))),
  .p (.l (.r (.l .h))) none (.cp .lss (.s (.l (.l (.l .h)))) (.s (.r (.l (.l .h)))))])
 (.cond (.s (.l (.r (.l .h)))) .skip (.ex (nat_lit 0))))
 (.seq (.blk (nat_lit 1) (.reg [.p (.r (.l (.r .h))) none (.mv (.s (.l (.r .h)))),
  .p (.l (.r (.r .h))) none (.mv (.s .h)),
  .p (.r (.r (.r .h))) none (.sc (.s (.r (.l (.r .h)))) (.s (.l (.r (.r .h))))),
  .p (.l (.r .h)) none (.mv (.s (.r (.r (.r .h)))))]))
 (.reg [.p (.r (.r (.l .h))) none (.mv (.s (.r (.r .h)))),
  .p (.l (.l (.r .h))) none (.ar .add (.s (.r (.r (.l .h)))) (.c (.a (.i .i64 (.n (nat_lit 1)))))),
  .p (.r (.r .h)) none (.mv (.s (.l (.l (.r .h)))))]))))))
 (.seq (.reg [.p (.l (.l (.l (.l .h)))) none (.mv (.s (.l (.r .h)))),
  .p (.r (.l .h)) none (.mv (.s (.l (.l (.l (.l .h))))))])
 .rt)))), false, false⟩
noncomputable def rf8 : RF := ⟨[.h], [.g (.r .h) (nat_lit 2), .s (.l (.l .h)), .s (.r (.l .h))], (.seq (.reg [.a (.r .h) none (.al (nat_lit 29) (nat_lit 2) (.n (.n .e .s0 .e) .s0 .e)),
  .p (.l (.l .h)) none (.mv (.c (.a (.i .i64 (.n (nat_lit 0)))))),
  .p (.r (.l .h)) none (.mv (.c (.a (.i .i64 (.n (nat_lit 0))))))])
 (.seq (.reg [.p (.l (.l (.r .h))) none (.mv (.s .h)),
  .k (some (.r (.l (.r .h)))) none (nat_lit 15) (.l (.l (.l (.l .h)))) [(.s (.l (.l (.r .h))))],
  .p (.r (.r (.l .h))) none (.mv (.s (.r (.l (.r .h))))),
  .p (.l (.r (.r .h))) none (.ex (nat_lit 0) (.s (.r (.r (.l .h))))),
  .p (.r (.r (.r .h))) none (.ex (nat_lit 1) (.s (.r (.r (.l .h))))),
  .p (.l (.l (.l (.l .h)))) none (.ex (nat_lit 2) (.s (.r (.r (.l .h))))),
  .p (.l (.r .h)) none (.mv (.s (.l (.r (.r .h))))),
  .p (.r (.r .h)) none (.mv (.s (.r (.r (.r .h))))),
  .p (.l (.l (.l .h))) none (.mv (.s (.l (.l (.l (.l .h))))))])
 (.seq (.seq (.reg [.p (.r (.l (.l (.l .h)))) none (.mv (.s (.l (.l (.l .h))))),
  .p (.l (.r (.l (.l .h)))) none (.cp .neq (.s (.r (.l (.l (.l .h))))) (.c (.a (.i .i64 (.n (nat_lit 0))))))])
 (.cond (.s (.l (.r (.l (.l .h))))) (.seq (.reg [.p (.r (.r (.l (.l .h)))) none (.bd [.s0, .s0] []),
  .p (.l (.l (.r (.l .h)))) none (.mv (.s (.r (.r .h)))),
  .p (.r (.l (.r (.l .h)))) none (.mv (.s (.l (.l (.l .h))))),
  .c none none (.st (nat_lit 2) (.s (.r .h)) (.s (.r (.r (.l (.l .h)))))),
  .p (.l (.l .h)) none (.mv (.s (.l (.l (.r (.l .h)))))),
  .p (.r (.l .h)) none (.mv (.s (.r (.l (.r (.l .h))))))])
 .rt) .skip))
 (.seq (.reg [.p (.l (.r (.r (.l .h)))) none (.mv (.s (.l (.r .h)))),
  .p (.r (.r (.r (.l .h)))) none (.bd [.s0, (.i .i64 (.n (nat_lit 0))), (.i .i64 (.n (nat_lit 0))), (.i .i64 (.n (nat_lit 0)))] [((nat_lit 0), (nat_lit 1), (.s (.l (.r (.r (.l .h))))))]),
  .a (.l (.l (.l (.r .h)))) none (.bx (nat_lit 69) (nat_lit 4) (.s (.r (.r (.r (.l .h)))))),
  .p (.r (.l (.l .h))) none (.mv (.s (.l (.l (.l (.r .h))))))])
 (.seq (.reg [.p (.r (.l (.l (.r .h)))) none (.mv (.s (.r (.l (.l .h))))),
  .k (some (.l (.r (.l (.r .h))))) none (nat_lit 16) (.r (.l (.l (.l .h)))) [(.s (.r (.l (.l (.r .h)))))],
  .a (.l (.r (.l .h))) none (.al (nat_lit 29) (nat_lit 2) (.n (.n .e .s0 .e) .s0 .e)),
  .c none none (.st (nat_lit 2) (.s (.l (.r (.l .h)))) (.s (.l (.r (.l (.r .h))))))])
 (.seq (.seq (.reg [.p (.r (.r (.l (.r .h)))) none (.mv (.s (.r (.l (.l .h))))),
  .p (.l (.l (.r (.r .h)))) none (.nc (.s (.r (.r (.l (.r .h)))))),
  .p (.r (.l (.r (.r .h)))) none (.fa (nat_lit 3) (.s (.l (.l (.r (.r .h)))))),
  .r (.l (.r (.r (.r .h)))) none (.ld (.s (.r (.l (.r (.r .h)))))),
  .p (.r (.r (.r (.r .h)))) none (.cp .neq (.s (.l (.r (.r (.r .h))))) (.c (.a (.i .i64 (.n (nat_lit 0))))))])
 (.cond (.s (.r (.r (.r (.r .h))))) (.seq (.drw [⟨.p (.l (.l (.l (.l (.l .h))))) none (.bd [.s0, .s0] []), (nat_lit 0), [], []⟩,
  ⟨.p (.r (.l (.l (.l (.l .h))))) none (.mv (.s (.r (.l (.l .h))))), (nat_lit 1), [], []⟩,
  ⟨.p (.l (.r (.l (.l (.l .h))))) none (.nc (.s (.r (.l (.l (.l (.l .h))))))), (nat_lit 2), [(nat_lit 1)], []⟩,
  ⟨.p (.r (.r (.l (.l (.l .h))))) none (.fa (nat_lit 2) (.s (.l (.r (.l (.l (.l .h))))))), (nat_lit 3), [(nat_lit 1), (nat_lit 2)], []⟩,
  ⟨.r (.l (.l (.r (.l (.l .h))))) none (.ld (.s (.r (.r (.l (.l (.l .h))))))), (nat_lit 4), [(nat_lit 1), (nat_lit 2), (nat_lit 3)], []⟩,
  ⟨.p (.r (.l (.r (.l (.l .h))))) none (.mv (.s (.r (.l (.l .h))))), (nat_lit 5), [], []⟩,
  ⟨.p (.l (.r (.r (.l (.l .h))))) none (.nc (.s (.r (.l (.r (.l (.l .h))))))), (nat_lit 6), [(nat_lit 5)], []⟩,
  ⟨.p (.r (.r (.r (.l (.l .h))))) none (.fa (nat_lit 3) (.s (.l (.r (.r (.l (.l .h))))))), (nat_lit 7), [(nat_lit 5), (nat_lit 6)], []⟩,
  ⟨.r (.l (.l (.l (.r (.l .h))))) none (.ld (.s (.r (.r (.r (.l (.l .h))))))), (nat_lit 8), [(nat_lit 5), (nat_lit 6), (nat_lit 7)], []⟩,
  ⟨.c none none (.st (nat_lit 2) (.s (.r .h)) (.s (.l (.l (.l (.l (.l .h))))))), (nat_lit 9), [(nat_lit 0)], [true, true]⟩,
  ⟨.p (.l (.l .h)) none (.mv (.s (.l (.l (.r (.l (.l .h))))))), (nat_lit 10), [(nat_lit 0), (nat_lit 1), (nat_lit 2), (nat_lit 3), (nat_lit 4), (nat_lit 9)], []⟩,
  ⟨.p (.r (.l .h)) none (.mv (.s (.l (.l (.l (.r (.l .h))))))), (nat_lit 11), [(nat_lit 0), (nat_lit 1), (nat_lit 2), (nat_lit 3), (nat_lit 4), (nat_lit 5), (nat_lit 6), (nat_lit 7), (nat_lit 8), (nat_lit 9), (nat_lit 10)], []⟩])
 .rt) .skip))
 (.seq (.reg [.r (.r (.l (.l (.r (.l .h))))) none (.lg (nat_lit 2) (.s (.l (.r (.l .h))))),
  .c none none (.st (nat_lit 2) (.s (.r .h)) (.s (.r (.l (.l (.r (.l .h))))))),
  .p (.l (.l .h)) none (.mv (.c (.a (.i .i64 (.n (nat_lit 0)))))),
  .p (.r (.l .h)) none (.mv (.c (.a (.i .i64 (.n (nat_lit 0))))))])
 .rt))))))), false, false⟩
noncomputable def rf9 : RF := ⟨[.h], [.g (.r .h) (nat_lit 4), .s (.l (.l .h)), .s (.r (.l .h))], (.seq (.reg [.a (.l .h) none (.bx (nat_lit 29) (nat_lit 2) (.s .h)),
  .a (.r .h) none (.al (nat_lit 36) (nat_lit 4) (.n (.n (.n .e .s0 .e) .s0 .e) .s0 (.n .e .s0 .e))),
  .p (.l (.l .h)) none (.mv (.c (.a (.i .i64 (.n (nat_lit 0)))))),
  .p (.r (.l .h)) none (.mv (.c (.a (.i .i64 (.n (nat_lit 0))))))])
 (.seq (.reg [.a (.l (.l (.l .h))) none (.mm),
  .a (.r (.l (.l .h))) none (.mm),
  .p (.l (.r (.l .h))) none (.bd [.m0, .m0, .s0, .s0, .s0, .s0, .s0, .s0, .s0, (.i .i64 (.n (nat_lit 0))), (.i .i64 (.n (nat_lit 0)))] [((nat_lit 0), (nat_lit 1), (.s (.l (.l (.l .h))))), ((nat_lit 1), (nat_lit 1), (.s (.r (.l (.l .h)))))]),
  .a (.r (.r (.l .h))) none (.bx (nat_lit 75) (nat_lit 11) (.s (.l (.r (.l .h))))),
  .p (.l (.r .h)) none (.mv (.s (.r (.r (.l .h)))))])
 (.seq (.seq (.reg [.p (.l (.l (.r .h))) none (.mv (.s (.l (.r .h)))),
  .r (.r (.l (.r .h))) none (.lg (nat_lit 2) (.s (.l .h))),
  .k (some (.l (.r (.r .h)))) none (nat_lit 17) (.l (.r (.l (.l .h)))) [(.s (.l (.l (.r .h)))), (.s (.r (.l (.r .h))))],
  .p (.r (.r .h)) none (.mv (.s (.l (.r (.r .h)))))])
 (.seq (.reg [.p (.r (.r (.r .h))) none (.mv (.s (.r (.r .h)))),
  .p (.l (.l (.l (.l .h)))) none (.cp .neq (.s (.r (.r (.r .h)))) (.c (.a (.i .i64 (.n (nat_lit 0))))))])
 (.cond (.s (.l (.l (.l (.l .h))))) (.seq (.drw [⟨.p (.r (.l (.l (.l .h)))) none (.bd [.s0, .s0, .s0, .s0] []), (nat_lit 0), [], []⟩,
  ⟨.p (.l (.r (.l (.l .h)))) none (.mv (.s (.l (.r .h)))), (nat_lit 1), [], []⟩,
  ⟨.p (.r (.r (.l (.l .h)))) none (.nc (.s (.l (.r (.l (.l .h)))))), (nat_lit 2), [(nat_lit 1)], []⟩,
  ⟨.p (.l (.l (.r (.l .h)))) none (.fa (nat_lit 10) (.s (.r (.r (.l (.l .h)))))), (nat_lit 3), [(nat_lit 1), (nat_lit 2)], []⟩,
  ⟨.r (.r (.l (.r (.l .h)))) none (.ld (.s (.l (.l (.r (.l .h)))))), (nat_lit 4), [(nat_lit 1), (nat_lit 2), (nat_lit 3)], []⟩,
  ⟨.p (.l (.r (.r (.l .h)))) none (.mv (.s (.r (.r .h)))), (nat_lit 5), [], []⟩,
  ⟨.c none none (.st (nat_lit 4) (.s (.r .h)) (.s (.r (.l (.l (.l .h)))))), (nat_lit 6), [(nat_lit 0)], [true]⟩,
  ⟨.p (.l (.l .h)) none (.mv (.s (.r (.l (.r (.l .h)))))), (nat_lit 7), [(nat_lit 0), (nat_lit 1), (nat_lit 2), (nat_lit 3), (nat_lit 4), (nat_lit 6)], []⟩,
  ⟨.p (.r (.l .h)) none (.mv (.s (.l (.r (.r (.l .h)))))), (nat_lit 8), [(nat_lit 0), (nat_lit 1), (nat_lit 2), (nat_lit 3), (nat_lit 4), (nat_lit 5), (nat_lit 6), (nat_lit 7)], []⟩])
 .rt) .skip)))
 (.seq (.reg [.p (.r (.r (.r (.l .h)))) none (.mv (.s (.l (.r .h)))),
  .p (.l (.l (.l (.r .h)))) none (.nc (.s (.r (.r (.r (.l .h)))))),
  .p (.r (.l (.l (.r .h)))) none (.fa (nat_lit 2) (.s (.l (.l (.l (.r .h)))))),
  .r (.l (.r (.l (.r .h)))) none (.lg (nat_lit 4) (.s (.r (.l (.l (.r .h)))))),
  .c none none (.st (nat_lit 4) (.s (.r .h)) (.s (.l (.r (.l (.r .h)))))),
  .p (.l (.l .h)) none (.mv (.c (.a (.i .i64 (.n (nat_lit 0)))))),
  .p (.r (.l .h)) none (.mv (.c (.a (.i .i64 (.n (nat_lit 0))))))])
 .rt)))), false, false⟩
noncomputable def rf10 : RF := ⟨[], [.s .h], (.seq (.reg [.p .h none (.mv (.c (.a (.b false))))])
 (.seq (.reg [.k (some (.r (.r (.l .h)))) none (nat_lit 8) (.r (.l (.l .h))) [(.c (.a (.t (nat_lit 172388144237841829054503217601149680743660174238252545202385823893355892733286))))],
  .p (.l (.r (.l .h))) none (.mv (.s (.r (.r (.l .h))))),
  .p (.l (.l (.r .h))) none (.ex (nat_lit 0) (.s (.l (.r (.l .h))))),
  .p (.r (.l (.r .h))) none (.ex (nat_lit 1) (.s (.l (.r (.l .h))))),
  .p (.l (.r (.r .h))) none (.ex (nat_lit 2) (.s (.l (.r (.l .h))))),
  .a (.l .h) none (.al (nat_lit 29) (nat_lit 2) (.n (.n .e .s0 .e) .s0 .e)),
  .c none none (.st (nat_lit 2) (.s (.l .h)) (.s (.l (.l (.r .h))))),
  .p (.r .h) none (.mv (.s (.r (.l (.r .h))))),
  .p (.l (.l .h)) none (.mv (.s (.l (.r (.r .h)))))])
 (.seq (.reg [.r (.l (.l (.l (.l .h)))) none (.lg (nat_lit 2) (.s (.l .h))),
  .k (some (.r (.l (.l (.l .h))))) none (nat_lit 9) (.l (.r (.l .h))) [(.s (.l (.l (.l (.l .h)))))],
  .p (.r (.r (.r .h))) none (.mv (.s (.r (.l (.l (.l .h)))))),
  .p (.l (.r (.l (.l .h)))) none (.ex (nat_lit 0) (.s (.r (.r (.r .h))))),
  .p (.r (.r (.l (.l .h)))) none (.ex (nat_lit 1) (.s (.r (.r (.r .h))))),
  .p (.l (.l (.r (.l .h)))) none (.ex (nat_lit 2) (.s (.r (.r (.r .h))))),
  .a (.r (.l .h)) none (.al (nat_lit 36) (nat_lit 4) (.n (.n (.n .e .s0 .e) .s0 .e) .s0 (.n .e .s0 .e))),
  .c none none (.st (nat_lit 4) (.s (.r (.l .h))) (.s (.l (.r (.l (.l .h)))))),
  .p (.l (.r .h)) none (.mv (.s (.r (.r (.l (.l .h)))))),
  .p (.r (.r .h)) none (.mv (.s (.l (.l (.r (.l .h))))))])
 (.seq (.seq (.reg [.p (.r (.l (.r (.l .h)))) none (.mv (.s (.r (.r .h)))),
  .p (.l (.r (.r (.l .h)))) none (.cp .neq (.s (.r (.l (.r (.l .h))))) (.c (.a (.i .i64 (.n (nat_lit 0)))))),
  .p (.r (.r (.r (.l .h)))) none (.mv (.s (.l (.r (.r (.l .h)))))),
  .p (.l (.l (.l (.r .h)))) (some ((.r (.r (.r (.l .h)))), false)) (.fa (nat_lit 2) (.s (.r (.l .h)))),
  .r (.r (.l (.l (.r .h)))) (some ((.r (.r (.r (.l .h)))), false)) (.ld (.s (.l (.l (.l (.r .h)))))),
  .p (.l (.r (.l (.r .h)))) (some ((.r (.r (.r (.l .h)))), false)) (.ln (.s (.r (.l (.l (.r .h)))))),
  .p (.r (.r (.l (.r .h)))) (some ((.r (.r (.r (.l .h)))), false)) (.cp .neq (.s (.l (.r (.l (.r .h))))) (.c (.a (.i .i64 (.n (nat_lit 1)))))),
  .p (.l (.l (.r (.r .h)))) none (.pk (.s (.r (.r (.r (.l .h))))) (.c (.a (.b true))) (.s (.r (.r (.l (.r .h)))))),
  .p (.r (.l (.r (.r .h)))) none (.mv (.s (.l (.l (.r (.r .h)))))),
  .p (.l (.r (.r (.r .h)))) (some ((.r (.l (.r (.r .h)))), false)) (.fa (nat_lit 2) (.s (.r (.l .h)))),
  .r (.r (.r (.r (.r .h)))) (some ((.r (.l (.r (.r .h)))), false)) (.ld (.s (.l (.r (.r (.r .h)))))),
  .p (.l (.l (.l (.l (.l .h))))) (some ((.r (.l (.r (.r .h)))), false)) (.ix (nat_lit 1) (.s (.r (.r (.r (.r .h))))) (.c (.a (.i .i64 (.n (nat_lit 0)))))),
  .r (.r (.l (.l (.l (.l .h))))) (some ((.r (.l (.r (.r .h)))), false)) (.ld (.s (.l (.l (.l (.l (.l .h))))))),
  .p (.l (.r (.l (.l (.l .h))))) (some ((.r (.l (.r (.r .h)))), false)) (.ln (.s (.r (.l (.l (.l (.l .h))))))),
  .p (.r (.r (.l (.l (.l .h))))) (some ((.r (.l (.r (.r .h)))), false)) (.cp .neq (.s (.l (.r (.l (.l (.l .h)))))) (.c (.a (.i .i64 (.n (nat_lit 2)))))),
  .p (.l (.l (.r (.l (.l .h))))) none (.pk (.s (.r (.l (.r (.r .h))))) (.c (.a (.b true))) (.s (.r (.r (.l (.l (.l .h))))))),
  .p (.r (.l (.r (.l (.l .h))))) none (.mv (.s (.l (.l (.r (.l (.l .h))))))),
  .p (.l (.r (.r (.l (.l .h))))) (some ((.r (.l (.r (.l (.l .h))))), false)) (.fa (nat_lit 3) (.s (.r (.l .h)))),
  .r (.r (.r (.r (.l (.l .h))))) (some ((.r (.l (.r (.l (.l .h))))), false)) (.ld (.s (.l (.r (.r (.l (.l .h))))))),
  .p (.l (.l (.l (.r (.l .h))))) (some ((.r (.l (.r (.l (.l .h))))), false)) (.ln (.s (.r (.r (.r (.l (.l .h))))))),
  .p (.r (.l (.l (.r (.l .h))))) (some ((.r (.l (.r (.l (.l .h))))), false)) (.cp .neq (.s (.l (.l (.l (.r (.l .h)))))) (.c (.a (.i .i64 (.n (nat_lit 3)))))),
  .p (.l (.r (.l (.r (.l .h))))) none (.pk (.s (.r (.l (.r (.l (.l .h)))))) (.c (.a (.b true))) (.s (.r (.l (.l (.r (.l .h)))))))])
 (.cond (.s (.l (.r (.l (.r (.l .h)))))) (.seq (.reg [.p .h none (.mv (.c (.a (.b false))))])
 .rt) .skip))
 (.seq (.reg [.r (.l (.l (.r (.r (.l .h))))) none (.lg (nat_lit 4) (.s (.r (.l .h)))),
  .k (some (.r (.l (.r (.r (.l .h)))))) none (nat_lit 18) (.r (.r (.l (.l .h)))) [(.s (.l (.l (.r (.r (.l .h)))))), (.c (.a (.t (nat_lit 358))))],
  .p (.r (.r (.l (.r (.l .h))))) none (.mv (.s (.r (.l (.r (.r (.l .h))))))),
  .p (.l (.r (.r (.r (.l .h))))) none (.ex (nat_lit 0) (.s (.r (.r (.l (.r (.l .h))))))),
  .p (.r (.r (.r (.r (.l .h))))) none (.ex (nat_lit 1) (.s (.r (.r (.l (.r (.l .h))))))),
  .p (.l (.l (.l .h))) none (.mv (.s (.l (.r (.r (.r (.l .h))))))),
  .p (.r (.l (.l .h))) none (.mv (.s (.r (.r (.r (.r (.l .h)))))))])
 (.seq (.reg [.p (.l (.l (.l (.l (.r .h))))) none (.fa (nat_lit 2) (.s (.r (.l .h)))),
  .r (.r (.l (.l (.l (.r .h))))) none (.ld (.s (.l (.l (.l (.l (.r .h))))))),
  .p (.l (.r (.l (.l (.r .h))))) none (.ix (nat_lit 1) (.s (.r (.l (.l (.l (.r .h)))))) (.c (.a (.i .i64 (.n (nat_lit 0)))))),
  .r (.r (.r (.l (.l (.r .h))))) none (.ld (.s (.l (.r (.l (.l (.r .h))))))),
  .p (.l (.l (.r (.l (.r .h))))) none (.ix (nat_lit 7) (.s (.r (.r (.l (.l (.r .h)))))) (.c (.a (.i .i64 (.n (nat_lit 1)))))),
  .p (.r (.l (.r (.l (.r .h))))) none (.fa (nat_lit 5) (.s (.l (.l (.r (.l (.r .h))))))),
  .r (.l (.r (.r (.l (.r .h))))) none (.ld (.s (.r (.l (.r (.l (.r .h))))))),
  .p (.r (.r (.r (.l (.r .h))))) none (.cp .eql (.s (.l (.r (.r (.l (.r .h)))))) (.c (.a (.i .i64 (.n (nat_lit 1)))))),
  .p (.l (.l (.l (.r (.r .h))))) none (.mv (.s (.r (.r (.r (.l (.r .h))))))),
  .p (.r (.l (.l (.r (.r .h))))) (some ((.l (.l (.l (.r (.r .h))))), true)) (.fa (nat_lit 2) (.s (.r (.l .h)))),
  .r (.l (.r (.l (.r (.r .h))))) (some ((.l (.l (.l (.r (.r .h))))), true)) (.ld (.s (.r (.l (.l (.r (.r .h))))))),
  .p (.r (.r (.l (.r (.r .h))))) (some ((.l (.l (.l (.r (.r .h))))), true)) (.ix (nat_lit 1) (.s (.l (.r (.l (.r (.r .h)))))) (.c (.a (.i .i64 (.n (nat_lit 0)))))),
  .r (.l (.l (.r (.r (.r .h))))) (some ((.l (.l (.l (.r (.r .h))))), true)) (.ld (.s (.r (.r (.l (.r (.r .h))))))),
  .p (.r (.l (.r (.r (.r .h))))) (some ((.l (.l (.l (.r (.r .h))))), true)) (.ix (nat_lit 7) (.s (.l (.l (.r (.r (.r .h)))))) (.c (.a (.i .i64 (.n (nat_lit 1)))))),
  .p (.l (.r (.r (.r (.r .h))))) (some ((.l (.l (.l (.r (.r .h))))), true)) (.fa (nat_lit 6) (.s (.r (.l (.r (.r (.r .h))))))),
  .r (.r (.r (.r (.r (.r .h))))) (some ((.l (.l (.l (.r (.r .h))))), true)) (.ld (.s (.l (.r (.r (.r (.r .h))))))),
  .p (.l (.l (.l (.l (.l (.l .h)))))) (some ((.l (.l (.l (.r (.r .h))))), true)) (.cp .eql (.s (.r (.r (.r (.r (.r .h)))))) (.c (.a (.i .i64 (.n (nat_lit 2)))))),
  .p (.r (.l (.l (.l (.l (.l .h)))))) none (.pk (.s (.l (.l (.l (.r (.r .h)))))) (.s (.l (.l (.l (.l (.l (.l .h))))))) (.c (.a (.b false)))),
  .p (.l (.r (.l (.l (.l (.l .h)))))) none (.mv (.s (.r (.l (.l (.l (.l (.l .h)))))))),
  .r (.r (.r (.l (.l (.l (.l .h)))))) (some ((.l (.r (.l (.l (.l (.l .h)))))), true)) (.lg (nat_lit 4) (.s (.r (.l .h)))),
  .k (some (.l (.l (.r (.l (.l (.l .h))))))) (some ((.l (.r (.l (.l (.l (.l .h)))))), true)) (nat_lit 20) (.r (.l (.r (.l .h)))) [(.s (.r (.r (.l (.l (.l (.l .h))))))), (.c (.a (.i .i64 (.n (nat_lit 0))))), (.c (.a (.i .i64 (.n (nat_lit 0)))))],
  .a (.r (.l (.r (.l (.l (.l .h)))))) (some ((.l (.r (.l (.l (.l (.l .h)))))), true)) (.bs (nat_lit 3) (nat_lit 1) [(.i .i64 (.n (nat_lit 0)))] [((nat_lit 0), (nat_lit 1), (.c (.a (.i .i64 (.n (nat_lit 0))))))]),
  .k (some (.l (.r (.r (.l (.l (.l .h))))))) (some ((.l (.r (.l (.l (.l (.l .h)))))), true)) (nat_lit 19) (.l (.l (.r (.l .h)))) [(.s (.l (.l (.r (.l (.l (.l .h))))))), (.s (.r (.l (.r (.l (.l (.l .h)))))))],
  .p (.r (.r (.r (.l (.l (.l .h)))))) none (.pk (.s (.l (.r (.l (.l (.l (.l .h))))))) (.s (.l (.r (.r (.l (.l (.l .h))))))) (.c (.a (.b false)))),
  .p (.l (.l (.l (.r (.l (.l .h)))))) none (.mv (.s (.r (.r (.r (.l (.l (.l .h)))))))),
  .p (.r (.l (.l (.r (.l (.l .h)))))) (some ((.l (.l (.l (.r (.l (.l .h)))))), true)) (.mv (.s (.l (.l (.l .h))))),
  .p (.l (.r (.l (.r (.l (.l .h)))))) (some ((.l (.l (.l (.r (.l (.l .h)))))), true)) (.cp .eql (.s (.r (.l (.l (.r (.l (.l .h))))))) (.c (.a (.i .i64 (.n (nat_lit 0)))))),
  .p (.r (.r (.l (.r (.l (.l .h)))))) none (.pk (.s (.l (.l (.l (.r (.l (.l .h))))))) (.s (.l (.r (.l (.r (.l (.l .h))))))) (.c (.a (.b false)))),
  .p (.l (.l (.r (.r (.l (.l .h)))))) none (.mv (.s (.r (.r (.l (.r (.l (.l .h)))))))),
  .p (.r (.l (.r (.r (.l (.l .h)))))) (some ((.l (.l (.r (.r (.l (.l .h)))))), true)) (.mv (.s (.r (.l (.l .h))))),
  .p (.l (.r (.r (.r (.l (.l .h)))))) none (.pk (.s (.l (.l (.r (.r (.l (.l .h))))))) (.s (.r (.l (.r (.r (.l (.l .h))))))) (.c (.a (.b false)))),
  .p .h none (.mv (.s (.l (.r (.r (.r (.l (.l .h))))))))])
 .rt)))))), false, false⟩
noncomputable def rf15 : RF := ⟨[.h], [.s (.r .h), .s (.l (.l .h)), .s (.r (.l .h))], (.seq (.reg [.p (.r .h) none (.mv (.c (.a .s0))),
  .p (.l (.l .h)) none (.mv (.c (.a (.i .i64 (.n (nat_lit 0)))))),
  .p (.r (.l .h)) none (.mv (.c (.a (.i .i64 (.n (nat_lit 0))))))])
 (.seq (.seq (.reg [.p (.l (.l (.r .h))) none (.mv (.s .h)),
  .p (.r (.l (.r .h))) none (.sn (.s (.l (.l (.r .h))))),
  .p (.l (.r (.r .h))) none (.cp .gtr (.s (.r (.l (.r .h)))) (.c (.a (.i .i64 (.n (nat_lit 4000))))))])
 (.cond (.s (.l (.r (.r .h)))) (.seq (.reg [.p (.r .h) none (.mv (.c (.a .s0))),
  .p (.l (.l .h)) none (.mv (.c (.a (.i .i64 (.n (nat_lit 0)))))),
  .p (.r (.l .h)) none (.mv (.c (.a (.i .i64 (.n (nat_lit 5))))))])
 .rt) .skip))
 (.seq (.reg [.p (.l (.r .h)) none (.mv (.c (.a .s0)))])
 (.seq (.reg [.p (.l (.l (.l (.l .h)))) none (.mv (.s .h)),
  .k (some (.r (.l (.l (.l .h))))) none (nat_lit 27) (.l (.l (.r (.r .h)))) [(.s (.l (.l (.l (.l .h))))), (.c (.a (.i .i64 (.n (nat_lit 0))))), (.c (.a (.i .i64 (.n (nat_lit 1)))))],
  .p (.r (.r (.r .h))) none (.mv (.s (.r (.l (.l (.l .h)))))),
  .p (.l (.r (.l (.l .h)))) none (.ex (nat_lit 0) (.s (.r (.r (.r .h))))),
  .p (.r (.r (.l (.l .h)))) none (.ex (nat_lit 1) (.s (.r (.r (.r .h))))),
  .p (.r (.r .h)) none (.mv (.s (.l (.r (.l (.l .h)))))),
  .p (.l (.l (.l .h))) none (.mv (.s (.r (.r (.l (.l .h))))))])
 (.seq (.blk (nat_lit 0) (.loop (.seq (.seq (.reg [.p (.l (.l (.r (.l .h)))) none (.mv (.s (.r (.r .h)))),
  .p (.r (.l (.r (.l .h)))) none (.mv (.s .h)),
  .p (.l (.r (.r (.l .h)))) none (.sn (.s (.r (.l (.r (.l .h)))))),
  .p (.r (.r (.r (.l .h)))) none (.cp .lss (.s (.l (.l (.r (.l .h))))) (.s (.l (.r (.r (.l .h))))))])
 (.cond (.s (.r (.r (.r (.l .h))))) .skip (.ex (nat_lit 0))))
 (.blk (nat_lit 1) (.seq (.reg [.p (.r (.l (.l (.r .h)))) none (.mv (.s .h)),
  .p (.l (.r (.l (.r .h)))) none (.mv (.s (.r (.r .h)))),
  .p (.r (.r (.l (.r .h)))) none (.mv (.s (.l (.l (.l .h))))),
  .k (some (.l (.l (.r (.r .h))))) none (nat_lit 28) (.r (.l (.r (.r .h)))) [(.s (.r (.l (.l (.r .h))))), (.s (.l (.r (.l (.r .h))))), (.s (.r (.r (.l (.r .h)))))],
  .p (.l (.l (.l (.r .h)))) none (.mv (.s (.l (.l (.r (.r .h)))))),
  .p (.r (.l (.r (.r .h)))) none (.ex (nat_lit 0) (.s (.l (.l (.l (.r .h)))))),
  .p (.l (.r (.r (.r .h)))) none (.ex (nat_lit 1) (.s (.l (.l (.l (.r .h)))))),
  .p (.r (.r (.r (.r .h)))) none (.ex (nat_lit 2) (.s (.l (.l (.l (.r .h)))))),
  .a (.r (.l (.l .h))) none (.al (nat_lit 98) (nat_lit 4) (.n (.n (.n .e (.i .i64 (.n (nat_lit 0))) .e) (.i .i64 (.n (nat_lit 0))) .e) (.i .i64 (.n (nat_lit 0))) (.n .e (.t (nat_lit 1)) .e))),
  .c none none (.st (nat_lit 4) (.s (.r (.l (.l .h)))) (.s (.r (.l (.r (.r .h)))))),
  .p (.l (.r (.l .h))) none (.mv (.s (.l (.r (.r (.r .h)))))),
  .p (.r (.r (.l .h))) none (.mv (.s (.r (.r (.r (.r .h))))))])
 (.seq (.seq (.reg [.p (.l (.l (.l (.l (.l .h))))) none (.mv (.s (.r (.r (.l .h))))),
  .p (.r (.l (.l (.l (.l .h))))) none (.cp .eql (.s (.l (.l (.l (.l (.l .h)))))) (.c (.a (.i .i64 (.n (nat_lit 0)))))),
  .p (.l (.r (.l (.l (.l .h))))) none (.mv (.s (.r (.l (.l (.l (.l .h))))))),
  .p (.r (.r (.l (.l (.l .h))))) (some ((.l (.r (.l (.l (.l .h))))), true)) (.mv (.s (.l (.r .h)))),
  .p (.l (.l (.r (.l (.l .h))))) (some ((.l (.r (.l (.l (.l .h))))), true)) (.ln (.s (.r (.r (.l (.l (.l .h))))))),
  .p (.r (.l (.r (.l (.l .h))))) (some ((.l (.r (.l (.l (.l .h))))), true)) (.cp .geq (.s (.l (.l (.r (.l (.l .h)))))) (.c (.a (.i .i64 (.n (nat_lit 2000)))))),
  .p (.l (.r (.r (.l (.l .h))))) none (.pk (.s (.l (.r (.l (.l (.l .h)))))) (.s (.r (.l (.r (.l (.l .h)))))) (.c (.a (.b false))))])
 (.cond (.s (.l (.r (.r (.l (.l .h)))))) (.reg [.p (.r (.r (.l .h))) none (.mv (.c (.a (.i .i64 (.n (nat_lit 5))))))]) .skip))
 (.seq (.seq (.reg [.p (.r (.r (.r (.l (.l .h))))) none (.mv (.s (.r (.r (.l .h))))),
  .p (.l (.l (.l (.r (.l .h))))) none (.cp .neq (.s (.r (.r (.r (.l (.l .h)))))) (.c (.a (.i .i64 (.n (nat_lit 0))))))])
 (.cond (.s (.l (.l (.l (.r (.l .h)))))) (.seq (.reg [.p (.r (.l (.l (.r (.l .h))))) none (.mv (.s (.l (.l (.l .h))))),
  .p (.l (.r (.l (.r (.l .h))))) none (.mv (.s (.r (.r (.l .h))))),
  .p (.r .h) none (.mv (.c (.a .s0))),
  .p (.l (.l .h)) none (.mv (.s (.r (.l (.l (.r (.l .h))))))),
  .p (.r (.l .h)) none (.mv (.s (.l (.r (.l (.r (.l .h)))))))])
 .rt) .skip))
 (.seq (.reg [.p (.r (.r (.l (.r (.l .h))))) none (.mv (.s (.l (.r .h)))),
  .r (.l (.l (.r (.r (.l .h))))) none (.lg (nat_lit 4) (.s (.r (.l (.l .h))))),
  .a (.r (.l (.r (.r (.l .h))))) none (.bs (nat_lit 98) (nat_lit 1) [(.i .i64 (.n (nat_lit 0))), (.i .i64 (.n (nat_lit 0))), (.t (nat_lit 1)), (.i .i64 (.n (nat_lit 0)))] [((nat_lit 0), (nat_lit 4), (.s (.l (.l (.r (.r (.l .h)))))))]),
  .c (some (.l (.r (.r (.r (.l .h)))))) none (.ap (nat_lit 98) (nat_lit 4) (nat_lit 40) (.s (.r (.r (.l (.r (.l .h)))))) (.s (.r (.l (.r (.r (.l .h))))))),
  .p (.l (.r .h)) none (.mv (.s (.l (.r (.r (.r (.l .h)))))))])
 (.reg [.p (.l (.l (.l (.l (.r .h))))) none (.mv (.s .h)),
  .p (.r (.l (.l (.l (.r .h))))) none (.mv (.s (.l (.r (.l .h))))),
  .p (.l (.r (.l (.l (.r .h))))) none (.mv (.s (.l (.l (.l .h))))),
  .k (some (.r (.r (.l (.l (.r .h)))))) none (nat_lit 27) (.l (.l (.r (.r .h)))) [(.s (.l (.l (.l (.l (.r .h)))))), (.s (.r (.l (.l (.l (.r .h)))))), (.s (.l (.r (.l (.l (.r .h))))))],
  .p (.r (.r (.r (.r (.l .h))))) none (.mv (.s (.r (.r (.l (.l (.r .h))))))),
  .p (.l (.l (.r (.l (.r .h))))) none (.ex (nat_lit 0) (.s (.r (.r (.r (.r (.l .h))))))),
  .p (.r (.l (.r (.l (.r .h))))) none (.ex (nat_lit 1) (.s (.r (.r (.r (.r (.l .h))))))),
  .p (.r (.r .h)) none (.mv (.s (.l (.l (.r (.l (.r .h))))))),
  .p (.l (.l (.l .h))) none (.mv (.s (.r (.l (.r (.l (.r .h)))))))])))))))))
 (.seq (.reg [.p (.l (.r (.r (.l (.r .h))))) none (.mv (.s (.l (.r .h)))),
  .p (.r (.r (.r (.l (.r .h))))) none (.mv (.s (.l (.l (.l .h))))),
  .p (.l (.l (.l (.r (.r .h))))) none (.bd [(.i .i64 (.n (nat_lit 0))), (.i .i64 (.n (nat_lit 0))), (.t (nat_lit 1)), (.i .i64 (.n (nat_lit 0)))] [((nat_lit 0), (nat_lit 1), (.c (.a (.i .i64 (.n (nat_lit 0)))))), ((nat_lit 1), (nat_lit 1), (.s (.r (.r (.r (.l (.r .h)))))))]),
  .a (.r (.l (.l (.r (.r .h))))) none (.bs (nat_lit 98) (nat_lit 1) [(.i .i64 (.n (nat_lit 0))), (.i .i64 (.n (nat_lit 0))), (.t (nat_lit 1)), (.i .i64 (.n (nat_lit 0)))] [((nat_lit 0), (nat_lit 4), (.s (.l (.l (.l (.r (.r .h)))))))]),
  .c (some (.l (.r (.l (.r (.r .h)))))) none (.ap (nat_lit 98) (nat_lit 4) (nat_lit 40) (.s (.l (.r (.r (.l (.r .h)))))) (.s (.r (.l (.l (.r (.r .h))))))),
  .p (.r .h) none (.mv (.s (.l (.r (.l (.r (.r .h))))))),
  .p (.l (.l .h)) none (.mv (.c (.a (.i .i64 (.n (nat_lit 0)))))),
  .p (.r (.l .h)) none (.mv (.c (.a (.i .i64 (.n (nat_lit 0))))))])
 .rt)))))), false, false⟩
noncomputable def rf16 : RF := ⟨[.h], [.g (.r .h) (nat_lit 2)], (.seq (.reg [.a (.r .h) none (.al (nat_lit 29) (nat_lit 2) (.n (.n .e .s0 .e) .s0 .e))])
 (.seq (.reg [.a (.l (.l .h)) none (.al (nat_lit 29) (nat_lit 2) (.n (.n .e .s0 .e) .s0 .e))])
 (.seq (.blk (nat_lit 0) (.loop (.seq (.seq (.reg [.p (.r (.l (.l .h))) none (.mv (.s .h)),
  .p (.l (.r (.l .h))) none (.nc (.s (.r (.l (.l .h))))),
  .p (.r (.r (.l .h))) none (.fa (nat_lit 3) (.s (.l (.r (.l .h))))),
  .r (.l (.l (.r .h))) none (.ld (.s (.r (.r (.l .h))))),
  .p (.r (.l (.r .h))) none (.cp .eql (.s (.l (.l (.r .h)))) (.c (.a (.i .i64 (.n (nat_lit 0)))))),
  .p (.l (.r (.r .h))) none (.mv (.s (.r (.l (.r .h))))),
  .p (.r (.r (.r .h))) (some ((.l (.r (.r .h))), true)) (.mv (.s .h)),
  .k (some (.l (.l (.l (.l .h))))) (some ((.l (.r (.r .h))), true)) (nat_lit 29) (.l (.r (.r (.r .h)))) [(.s (.r (.r (.r .h)))), (.c (.a (.i .i64 (.n (nat_lit 0))))), (.c (.a (.t (nat_lit 391917634545010))))],
  .p (.r (.l (.l (.l .h)))) none (.pk (.s (.l (.r (.r .h)))) (.s (.l (.l (.l (.l .h))))) (.c (.a (.b false))))])
 (.cond (.s (.r (.l (.l (.l .h))))) .skip (.ex (nat_lit 0))))
 (.blk (nat_lit 1) (.seq (.reg [.p (.l (.r (.l (.l .h)))) none (.mv (.s .h)),
  .p (.r (.r (.l (.l .h)))) none (.nc (.s (.l (.r (.l (.l .h)))))),
  .p (.l (.l (.r (.l .h)))) none (.fa (nat_lit 1) (.s (.r (.r (.l (.l .h)))))),
  .r (.r (.l (.r (.l .h)))) none (.ld (.s (.l (.l (.r (.l .h)))))),
  .p (.l (.r (.r (.l .h)))) none (.ar .add (.s (.r (.l (.r (.l .h))))) (.c (.a (.i .i64 (.n (nat_lit 1)))))),
  .p (.r (.r (.r (.l .h)))) none (.nc (.s (.l (.r (.l (.l .h)))))),
  .p (.l (.l (.l (.r .h)))) none (.fa (nat_lit 1) (.s (.r (.r (.r (.l .h)))))),
  .c none none (.st (nat_lit 1) (.s (.l (.l (.l (.r .h))))) (.s (.l (.r (.r (.l .h))))))])
 (.seq (.reg [.p (.r (.l (.l (.r .h)))) none (.mv (.s .h)),
  .k (some (.l (.r (.l (.r .h))))) none (nat_lit 30) (.r (.r (.r (.r .h)))) [(.s (.r (.l (.l (.r .h)))))],
  .p (.r (.r (.l (.r .h)))) none (.bd [(.t (nat_lit 1)), .s0] [((nat_lit 0), (nat_lit 1), (.s (.l (.r (.l (.r .h))))))]),
  .a (.r (.l .h)) none (.al (nat_lit 104) (nat_lit 2) (.n (.n .e .s0 .e) (.t (nat_lit 1)) .e)),
  .c none none (.st (nat_lit 2) (.s (.r (.l .h))) (.s (.r (.r (.l (.r .h))))))])
 (.seq (.reg [.p (.l (.l (.r (.r .h)))) none (.mv (.s .h)),
  .k (some (.r (.l (.r (.r .h))))) none (nat_lit 31) (.l (.l (.l (.l (.l .h))))) [(.s (.l (.l (.r (.r .h))))), (.c (.a (.t (nat_lit 379))))]])
 (.seq (.reg [.p (.l (.r (.r (.r .h)))) none (.mv (.s .h)),
  .k (some (.r (.r (.r (.r .h))))) none (nat_lit 32) (.r (.l (.l (.l (.l .h))))) [(.s (.l (.r (.r (.r .h)))))],
  .p (.l (.l (.l (.l (.l .h))))) none (.fa (nat_lit 1) (.s (.r (.l .h)))),
  .c none none (.st (nat_lit 1) (.s (.l (.l (.l (.l (.l .h)))))) (.s (.r (.r (.r (.r .h))))))])
 (.seq (.reg [.p (.r (.l (.l (.l (.l .h))))) none (.mv (.s .h)),
  .k (some (.l (.r (.l (.l (.l .h)))))) none (nat_lit 31) (.l (.l (.l (.l (.l .h))))) [(.s (.r (.l (.l (.l (.l .h)))))), (.c (.a (.t (nat_lit 381))))]])
 (.reg [.p (.r (.r (.l (.l (.l .h))))) none (.fa (nat_lit 0) (.s (.l (.l .h)))),
  .r (.l (.l (.r (.l (.l .h))))) none (.ld (.s (.r (.r (.l (.l (.l .h))))))),
  .r (.r (.l (.r (.l (.l .h))))) none (.lg (nat_lit 2) (.s (.r (.l .h)))),
  .a (.l (.r (.r (.l (.l .h))))) none (.bs (nat_lit 104) (nat_lit 1) [(.t (nat_lit 1)), .s0] [((nat_lit 0), (nat_lit 2), (.s (.r (.l (.r (.l (.l .h)))))))]),
  .c (some (.r (.r (.r (.l (.l .h)))))) none (.ap (nat_lit 104) (nat_lit 2) (nat_lit 40) (.s (.l (.l (.r (.l (.l .h)))))) (.s (.l (.r (.r (.l (.l .h))))))),
  .p (.l (.l (.l (.r (.l .h))))) none (.fa (nat_lit 0) (.s (.l (.l .h)))),
  .c none none (.st (nat_lit 1) (.s (.l (.l (.l (.r (.l .h)))))) (.s (.r (.r (.r (.l (.l .h)))))))]))))))))))
 (.seq (.blk (nat_lit 2) (.loop (.seq (.seq (.reg [.p (.r (.l (.l (.r (.l .h))))) none (.mv (.s .h)),
  .p (.l (.r (.l (.r (.l .h))))) none (.nc (.s (.r (.l (.l (.r (.l .h))))))),
  .p (.r (.r (.l (.r (.l .h))))) none (.fa (nat_lit 3) (.s (.l (.r (.l (.r (.l .h))))))),
  .r (.l (.l (.r (.r (.l .h))))) none (.ld (.s (.r (.r (.l (.r (.l .h))))))),
  .p (.r (.l (.r (.r (.l .h))))) none (.cp .eql (.s (.l (.l (.r (.r (.l .h)))))) (.c (.a (.i .i64 (.n (nat_lit 0)))))),
  .p (.l (.r (.r (.r (.l .h))))) none (.mv (.s (.r (.l (.r (.r (.l .h))))))),
  .p (.r (.r (.r (.r (.l .h))))) (some ((.l (.r (.r (.r (.l .h))))), true)) (.mv (.s .h)),
  .k (some (.l (.l (.l (.l (.r .h)))))) (some ((.l (.r (.r (.r (.l .h))))), true)) (nat_lit 29) (.l (.r (.r (.r .h)))) [(.s (.r (.r (.r (.r (.l .h)))))), (.c (.a (.i .i64 (.n (nat_lit 0))))), (.c (.a (.t (nat_lit 5963150694))))],
  .p (.r (.l (.l (.l (.r .h))))) none (.pk (.s (.l (.r (.r (.r (.l .h)))))) (.s (.l (.l (.l (.l (.r .h)))))) (.c (.a (.b false))))])
 (.cond (.s (.r (.l (.l (.l (.r .h)))))) .skip (.ex (nat_lit 2))))
 (.blk (nat_lit 3) (.seq (.drw [⟨.p (.l (.r (.l (.l (.r .h))))) none (.mv (.s .h)), (nat_lit 0), [], []⟩,
  ⟨.p (.r (.r (.l (.l (.r .h))))) none (.nc (.s (.l (.r (.l (.l (.r .h))))))), (nat_lit 1), [(nat_lit 0)], []⟩,
  ⟨.p (.l (.l (.r (.l (.r .h))))) none (.fa (nat_lit 0) (.s (.r (.r (.l (.l (.r .h))))))), (nat_lit 2), [(nat_lit 0), (nat_lit 1)], []⟩,
  ⟨.r (.r (.l (.r (.l (.r .h))))) none (.ld (.s (.l (.l (.r (.l (.r .h))))))), (nat_lit 3), [(nat_lit 0), (nat_lit 1), (nat_lit 2)], []⟩,
  ⟨.p (.l (.r (.r (.l (.r .h))))) none (.mv (.s .h)), (nat_lit 4), [], []⟩,
  ⟨.p (.r (.r (.r (.l (.r .h))))) none (.nc (.s (.l (.r (.r (.l (.r .h))))))), (nat_lit 5), [(nat_lit 4)], []⟩,
  ⟨.p (.l (.l (.l (.r (.r .h))))) none (.fa (nat_lit 1) (.s (.r (.r (.r (.l (.r .h))))))), (nat_lit 6), [(nat_lit 4), (nat_lit 5)], []⟩,
  ⟨.r (.r (.l (.l (.r (.r .h))))) none (.ld (.s (.l (.l (.l (.r (.r .h))))))), (nat_lit 7), [(nat_lit 4), (nat_lit 5), (nat_lit 6)], []⟩,
  ⟨.p (.l (.r (.l (.r (.r .h))))) none (.ix (nat_lit 4) (.s (.r (.l (.r (.l (.r .h)))))) (.s (.r (.l (.l (.r (.r .h))))))), (nat_lit 8), [(nat_lit 0), (nat_lit 1), (nat_lit 2), (nat_lit 3), (nat_lit 4), (nat_lit 5), (nat_lit 6), (nat_lit 7)], []⟩,
  ⟨.p (.r (.r (.l (.r (.r .h))))) none (.fa (nat_lit 1) (.s (.l (.r (.l (.r (.r .h))))))), (nat_lit 9), [(nat_lit 0), (nat_lit 1), (nat_lit 2), (nat_lit 3), (nat_lit 4), (nat_lit 5), (nat_lit 6), (nat_lit 7), (nat_lit 8)], []⟩,
  ⟨.r (.l (.l (.r (.r (.r .h))))) none (.ld (.s (.r (.r (.l (.r (.r .h))))))), (nat_lit 10), [(nat_lit 0), (nat_lit 1), (nat_lit 2), (nat_lit 3), (nat_lit 4), (nat_lit 5), (nat_lit 6), (nat_lit 7), (nat_lit 8), (nat_lit 9)], []⟩,
  ⟨.p (.r (.l (.r (.r (.r .h))))) none (.bd [(.t (nat_lit 1)), (.i .i64 (.n (nat_lit 0))), .s0, .s0] [((nat_lit 1), (nat_lit 1), (.s (.l (.l (.r (.r (.r .h)))))))]), (nat_lit 11), [(nat_lit 0), (nat_lit 1), (nat_lit 2), (nat_lit 3), (nat_lit 4), (nat_lit 5), (nat_lit 6), (nat_lit 7), (nat_lit 8), (nat_lit 9), (nat_lit 10)], []⟩,
  ⟨.a (.l (.r .h)) none (.al (nat_lit 109) (nat_lit 4) (.n (.n (.n .e .s0 .e) (.i .i64 (.n (nat_lit 0))) .e) (.t (nat_lit 1)) (.n .e .s0 .e))), (nat_lit 12), [], []⟩,
  ⟨.c none none (.st (nat_lit 4) (.s (.l (.r .h))) (.s (.r (.l (.r (.r (.r .h))))))), (nat_lit 13), [(nat_lit 0), (nat_lit 1), (nat_lit 2), (nat_lit 3), (nat_lit 4), (nat_lit 5), (nat_lit 6), (nat_lit 7), (nat_lit 8), (nat_lit 9), (nat_lit 10), (nat_lit 11), (nat_lit 12)], []⟩])
 (.seq (.reg [.p (.l (.r (.r (.r (.r .h))))) none (.mv (.s .h)),
  .p (.r (.r (.r (.r (.r .h))))) none (.nc (.s (.l (.r (.r (.r (.r .h))))))),
  .p (.l (.l (.l (.l (.l (.l .h)))))) none (.fa (nat_lit 1) (.s (.r (.r (.r (.r (.r .h))))))),
  .r (.r (.l (.l (.l (.l (.l .h)))))) none (.ld (.s (.l (.l (.l (.l (.l (.l .h)))))))),
  .p (.l (.r (.l (.l (.l (.l .h)))))) none (.ar .add (.s (.r (.l (.l (.l (.l (.l .h))))))) (.c (.a (.i .i64 (.n (nat_lit 1)))))),
  .p (.r (.r (.l (.l (.l (.l .h)))))) none (.nc (.s (.l (.r (.r (.r (.r .h))))))),
  .p (.l (.l (.r (.l (.l (.l .h)))))) none (.fa (nat_lit 1) (.s (.r (.r (.l (.l (.l (.l .h)))))))),
  .c none none (.st (nat_lit 1) (.s (.l (.l (.r (.l (.l (.l .h))))))) (.s (.l (.r (.l (.l (.l (.l .h))))))))])
 (.seq (.reg [.p (.r (.l (.r (.l (.l (.l .h)))))) none (.mv (.s .h)),
  .k (some (.l (.r (.r (.l (.l (.l .h))))))) none (nat_lit 30) (.r (.r (.r (.r .h)))) [(.s (.r (.l (.r (.l (.l (.l .h)))))))],
  .p (.r (.r (.r (.l (.l (.l .h)))))) none (.fa (nat_lit 0) (.s (.l (.r .h)))),
  .c none none (.st (nat_lit 1) (.s (.r (.r (.r (.l (.l (.l .h))))))) (.s (.l (.r (.r (.l (.l (.l .h))))))))])
 (.seq (.reg [.p (.l (.l (.l (.r (.l (.l .h)))))) none (.mv (.s .h)),
  .k (some (.r (.l (.l (.r (.l (.l .h))))))) none (nat_lit 31) (.l (.l (.l (.l (.l .h))))) [(.s (.l (.l (.l (.r (.l (.l .h))))))), (.c (.a (.t (nat_lit 296))))]])
 (.seq (.seq (.reg [.p (.l (.r (.l (.r (.l (.l .h)))))) none (.mv (.s .h)),
  .p (.r (.r (.l (.r (.l (.l .h)))))) none (.nc (.s (.l (.r (.l (.r (.l (.l .h)))))))),
  .p (.l (.l (.r (.r (.l (.l .h)))))) none (.fa (nat_lit 3) (.s (.r (.r (.l (.r (.l (.l .h)))))))),
  .r (.r (.l (.r (.r (.l (.l .h)))))) none (.ld (.s (.l (.l (.r (.r (.l (.l .h)))))))),
  .p (.l (.r (.r (.r (.l (.l .h)))))) none (.cp .eql (.s (.r (.l (.r (.r (.l (.l .h))))))) (.c (.a (.i .i64 (.n (nat_lit 0)))))),
  .p (.r (.r (.r (.r (.l (.l .h)))))) none (.mv (.s (.l (.r (.r (.r (.l (.l .h)))))))),
  .p (.l (.l (.l (.l (.r (.l .h)))))) (some ((.r (.r (.r (.r (.l (.l .h)))))), true)) (.mv (.s .h)),
  .k (some (.r (.l (.l (.l (.r (.l .h))))))) (some ((.r (.r (.r (.r (.l (.l .h)))))), true)) (nat_lit 29) (.l (.r (.r (.r .h)))) [(.s (.l (.l (.l (.l (.r (.l .h))))))), (.c (.a (.i .i64 (.n (nat_lit 0))))), (.c (.a (.t (nat_lit 297))))],
  .p (.l (.r (.l (.l (.r (.l .h)))))) (some ((.r (.r (.r (.r (.l (.l .h)))))), true)) (.nt (.s (.r (.l (.l (.l (.r (.l .h)))))))),
  .p (.r (.r (.l (.l (.r (.l .h)))))) none (.pk (.s (.r (.r (.r (.r (.l (.l .h))))))) (.s (.l (.r (.l (.l (.r (.l .h))))))) (.c (.a (.b false))))])
 (.cond (.s (.r (.r (.l (.l (.r (.l .h))))))) (.reg [.p (.l (.l (.r (.l (.r (.l .h)))))) none (.mv (.s .h)),
  .k (some (.r (.l (.r (.l (.r (.l .h))))))) none (nat_lit 32) (.r (.l (.l (.l (.l .h))))) [(.s (.l (.l (.r (.l (.r (.l .h)))))))],
  .p (.l (.r (.r (.l (.r (.l .h)))))) none (.fa (nat_lit 2) (.s (.l (.r .h)))),
  .c none none (.st (nat_lit 1) (.s (.l (.r (.r (.l (.r (.l .h))))))) (.s (.r (.l (.r (.l (.r (.l .h))))))))]) .skip))
 (.seq (.reg [.p (.r (.r (.r (.l (.r (.l .h)))))) none (.mv (.s .h)),
  .k (some (.l (.l (.l (.r (.r (.l .h))))))) none (nat_lit 31) (.l (.l (.l (.l (.l .h))))) [(.s (.r (.r (.r (.l (.r (.l .h))))))), (.c (.a (.t (nat_lit 297))))]])
 (.seq (.reg [.p (.l (.r (.l (.r (.r (.l .h)))))) none (.mv (.s .h)),
  .k (some (.r (.r (.l (.r (.r (.l .h))))))) none (nat_lit 33) (.l (.r (.l (.l (.l .h))))) [(.s (.l (.r (.l (.r (.r (.l .h))))))), (.c (.a (.i .i64 (.n (nat_lit 1)))))],
  .p (.r (.l (.l (.r (.r (.l .h)))))) none (.mv (.s (.r (.r (.l (.r (.r (.l .h)))))))),
  .p (.l (.l (.r (.r (.r (.l .h)))))) none (.ex (nat_lit 0) (.s (.r (.l (.l (.r (.r (.l .h)))))))),
  .p (.r (.l (.r (.r (.r (.l .h)))))) none (.ex (nat_lit 1) (.s (.r (.l (.l (.r (.r (.l .h)))))))),
  .p (.r (.r .h)) none (.mv (.s (.l (.l (.r (.r (.r (.l .h)))))))),
  .p (.l (.l (.l .h))) none (.mv (.s (.r (.l (.r (.r (.r (.l .h))))))))])
 (.seq (.reg [.p (.l (.r (.r (.r (.r (.l .h)))))) none (.mv (.s (.r (.r .h)))),
  .p (.r (.r (.r (.r (.r (.l .h)))))) none (.mv (.s (.l (.l (.l .h))))),
  .p (.l (.l (.l (.l (.l (.r .h)))))) none (.bd [(.i .i64 (.n (nat_lit 0))), (.i .i64 (.n (nat_lit 0))), (.i .i64 (.n (nat_lit 0))), (.t (nat_lit 1)), (.t (nat_lit 1)), (.i .i64 (.n (nat_lit 0))), (.i .i64 (.n (nat_lit 0))), .s0, (.t (nat_lit 1)), (.i .i64 (.n (nat_lit 0))), .s0, .s0, .s0] [((nat_lit 0), (nat_lit 1), (.c (.a (.i .i64 (.n (nat_lit 10)))))), ((nat_lit 1), (nat_lit 1), (.s (.r (.r (.r (.r (.r (.l .h))))))))]),
  .a (.r (.l (.l (.l (.l (.r .h)))))) none (.bs (nat_lit 114) (nat_lit 1) [(.i .i64 (.n (nat_lit 0))), (.i .i64 (.n (nat_lit 0))), (.i .i64 (.n (nat_lit 0))), (.t (nat_lit 1)), (.t (nat_lit 1)), (.i .i64 (.n (nat_lit 0))), (.i .i64 (.n (nat_lit 0))), .s0, (.t (nat_lit 1)), (.i .i64 (.n (nat_lit 0))), .s0, .s0, .s0] [((nat_lit 0), (nat_lit 13), (.s (.l (.l (.l (.l (.l (.r .h))))))))]),
  .c (some (.l (.r (.l (.l (.l (.r .h))))))) none (.ap (nat_lit 114) (nat_lit 13) (nat_lit 192) (.s (.l (.r (.r (.r (.r (.l .h))))))) (.s (.r (.l (.l (.l (.l (.r .h)))))))),
  .p (.r (.r (.l (.l (.l (.r .h)))))) none (.fa (nat_lit 3) (.s (.l (.r .h)))),
  .c none none (.st (nat_lit 1) (.s (.r (.r (.l (.l (.l (.r .h))))))) (.s (.l (.r (.l (.l (.l (.r .h))))))))])
 (.reg [.p (.l (.l (.r (.l (.l (.r .h)))))) none (.fa (nat_lit 1) (.s (.l (.l .h)))),
  .r (.r (.l (.r (.l (.l (.r .h)))))) none (.ld (.s (.l (.l (.r (.l (.l (.r .h)))))))),
  .r (.l (.r (.r (.l (.l (.r .h)))))) none (.lg (nat_lit 4) (.s (.l (.r .h)))),
  .a (.r (.r (.r (.l (.l (.r .h)))))) none (.bs (nat_lit 109) (nat_lit 1) [(.t (nat_lit 1)), (.i .i64 (.n (nat_lit 0))), .s0, .s0] [((nat_lit 0), (nat_lit 4), (.s (.l (.r (.r (.l (.l (.r .h))))))))]),
  .c (some (.l (.l (.l (.r (.l (.r .h))))))) none (.ap (nat_lit 109) (nat_lit 4) (nat_lit 72) (.s (.r (.l (.r (.l (.l (.r .h))))))) (.s (.r (.r (.r (.l (.l (.r .h)))))))),
  .p (.r (.l (.l (.r (.l (.r .h)))))) none (.fa (nat_lit 1) (.s (.l (.l .h)))),
  .c none none (.st (nat_lit 1) (.s (.r (.l (.l (.r (.l (.r .h))))))) (.s (.l (.l (.l (.r (.l (.r .h))))))))])))))))))))))
 (.seq (.seq (.reg [.p (.l (.r (.l (.r (.l (.r .h)))))) none (.mv (.s .h)),
  .p (.r (.r (.l (.r (.l (.r .h)))))) none (.nc (.s (.l (.r (.l (.r (.l (.r .h)))))))),
  .p (.l (.l (.r (.r (.l (.r .h)))))) none (.fa (nat_lit 3) (.s (.r (.r (.l (.r (.l (.r .h)))))))),
  .r (.r (.l (.r (.r (.l (.r .h)))))) none (.ld (.s (.l (.l (.r (.r (.l (.r .h)))))))),
  .p (.l (.r (.r (.r (.l (.r .h)))))) none (.cp .eql (.s (.r (.l (.r (.r (.l (.r .h))))))) (.c (.a (.i .i64 (.n (nat_lit 0)))))),
  .p (.r (.r (.r (.r (.l (.r .h)))))) none (.mv (.s (.l (.r (.r (.r (.l (.r .h)))))))),
  .p (.l (.l (.l (.l (.r (.r .h)))))) (some ((.r (.r (.r (.r (.l (.r .h)))))), true)) (.mv (.s .h)),
  .k (some (.r (.l (.l (.l (.r (.r .h))))))) (some ((.r (.r (.r (.r (.l (.r .h)))))), true)) (nat_lit 34) (.r (.r (.l (.l (.l .h))))) [(.s (.l (.l (.l (.l (.r (.r .h))))))), (.c (.a (.i .i64 (.n (nat_lit 0))))), (.c (.a (.i .i64 (.n (nat_lit 0)))))],
  .p (.l (.r (.l (.l (.r (.r .h)))))) (some ((.r (.r (.r (.r (.l (.r .h)))))), true)) (.nt (.s (.r (.l (.l (.l (.r (.r .h)))))))),
  .p (.r (.r (.l (.l (.r (.r .h)))))) none (.pk (.s (.r (.r (.r (.r (.l (.r .h))))))) (.s (.l (.r (.l (.l (.r (.r .h))))))) (.c (.a (.b false))))])
 (.cond (.s (.r (.r (.l (.l (.r (.r .h))))))) (.reg [.p (.l (.l (.r (.l (.r (.r .h)))))) none (.mv (.s .h)),
  .k (some (.r (.l (.r (.l (.r (.r .h))))))) none (nat_lit 35) (.l (.l (.r (.l (.l .h))))) [(.s (.l (.l (.r (.l (.r (.r .h))))))), (.c (.a (.i .i64 (.n (nat_lit 7)))))]]) .skip))
 (.seq (.reg [.r (.l (.r (.r (.l (.r (.r .h)))))) none (.lg (nat_lit 2) (.s (.l (.l .h)))),
  .c none none (.st (nat_lit 2) (.s (.r .h)) (.s (.l (.r (.r (.l (.r (.r .h))))))))])
 .rt)))))), false, false⟩
noncomputable def rf17 : RF := ⟨[.h, (.l .h)], [.s (.r (.l .h))], (.seq (.reg [.a (.l (.l .h)) none (.bx (nat_lit 29) (nat_lit 2) (.s (.l .h))),
  .p (.r (.l .h)) none (.mv (.c (.a (.i .i64 (.n (nat_lit 0))))))])
 (.seq (.seq (.reg [.p (.r (.l (.l (.l .h)))) none (.fa (nat_lit 0) (.s (.l (.l .h)))),
  .r (.l (.r (.l (.l .h)))) none (.ld (.s (.r (.l (.l (.l .h)))))),
  .p (.r (.r (.l (.l .h)))) none (.ln (.s (.l (.r (.l (.l .h)))))),
  .p (.l (.l (.r (.l .h)))) none (.mv (.c (.a (.i .i64 (.n (nat_lit 0))))))])
 (.blk (nat_lit 0) (.loop (.seq (.reg [.p (.r (.l (.r (.l .h)))) none (.cp .lss (.s (.l (.l (.r (.l .h))))) (.s (.r (.r (.l (.l .h))))))])
 (.seq (.cond (.s (.r (.l (.r (.l .h))))) .skip (.ex (nat_lit 0)))
 (.seq (.blk (nat_lit 1) (.seq (.reg [.p (.l (.r (.r (.l .h)))) none (.mv (.s (.l (.l (.r (.l .h)))))),
  .p (.r (.r (.r (.l .h)))) none (.ix (nat_lit 2) (.s (.l (.r (.l (.l .h))))) (.s (.l (.l (.r (.l .h)))))),
  .r (.l (.l (.l (.r .h)))) none (.lg (nat_lit 2) (.s (.r (.r (.r (.l .h)))))),
  .a (.r (.r .h)) none (.al (nat_lit 104) (nat_lit 2) (.n (.n .e .s0 .e) (.t (nat_lit 1)) .e)),
  .p (.l (.r .h)) none (.mv (.s (.l (.r (.r (.l .h)))))),
  .c none none (.st (nat_lit 2) (.s (.r (.r .h))) (.s (.l (.l (.l (.r .h))))))])
 (.seq (.seq (.reg [.p (.r (.l (.l (.r .h)))) none (.mv (.s (.l (.r .h)))),
  .p (.l (.r (.l (.r .h)))) none (.cp .geq (.s (.r (.l (.l (.r .h))))) (.c (.a (.i .i64 (.n (nat_lit 4)))))),
  .p (.r (.r (.l (.r .h)))) none (.mv (.s (.l (.r (.l (.r .h)))))),
  .p (.l (.l (.r (.r .h)))) (some ((.r (.r (.l (.r .h)))), false)) (.fa (nat_lit 1) (.s (.r (.r .h)))),
  .r (.r (.l (.r (.r .h)))) (some ((.r (.r (.l (.r .h)))), false)) (.ld (.s (.l (.l (.r (.r .h)))))),
  .p (.l (.r (.r (.r .h)))) (some ((.r (.r (.l (.r .h)))), false)) (.ln (.s (.r (.l (.r (.r .h)))))),
  .p (.r (.r (.r (.r .h)))) (some ((.r (.r (.l (.r .h)))), false)) (.cp .gtr (.s (.l (.r (.r (.r .h))))) (.c (.a (.i .i64 (.n (nat_lit 4)))))),
  .p (.l (.l (.l (.l (.l .h))))) none (.pk (.s (.r (.r (.l (.r .h))))) (.c (.a (.b true))) (.s (.r (.r (.r (.r .h))))))])
 (.cond (.s (.l (.l (.l (.l (.l .h)))))) (.seq (.reg [.p (.r (.l .h)) none (.mv (.c (.a (.i .i64 (.n (nat_lit 5))))))])
 .rt) .skip))
 (.seq (.seq (.drw [⟨.p (.l (.r (.l (.l (.l .h))))) none (.mv (.s .h)), (nat_lit 0), [], []⟩,
  ⟨.p (.r (.r (.l (.l (.l .h))))) none (.nc (.s (.l (.r (.l (.l (.l .h))))))), (nat_lit 1), [(nat_lit 0)], []⟩,
  ⟨.p (.l (.l (.r (.l (.l .h))))) none (.fa (nat_lit 0) (.s (.r (.r (.l (.l (.l .h))))))), (nat_lit 2), [(nat_lit 0), (nat_lit 1)], []⟩,
  ⟨.r (.r (.l (.r (.l (.l .h))))) none (.ld (.s (.l (.l (.r (.l (.l .h))))))), (nat_lit 3), [(nat_lit 0), (nat_lit 1), (nat_lit 2)], []⟩,
  ⟨.p (.l (.r (.r (.l (.l .h))))) none (.fa (nat_lit 0) (.s (.r (.r .h)))), (nat_lit 4), [], []⟩,
  ⟨.r (.r (.r (.r (.l (.l .h))))) none (.ld (.s (.l (.r (.r (.l (.l .h))))))), (nat_lit 5), [(nat_lit 4)], []⟩,
  ⟨.r (.l (.l (.l (.r (.l .h))))) none (.lk true false [(nat_lit 2)] (.a (.i .i64 (.n (nat_lit 0)))) (.s (.r (.l (.r (.l (.l .h)))))) (.s (.r (.r (.r (.l (.l .h))))))), (nat_lit 6), [(nat_lit 0), (nat_lit 1), (nat_lit 2), (nat_lit 3), (nat_lit 4), (nat_lit 5)], []⟩,
  ⟨.p (.r (.l (.l (.l (.l .h))))) none (.mv (.s (.l (.l (.l (.r (.l .h))))))), (nat_lit 7), [(nat_lit 0), (nat_lit 1), (nat_lit 2), (nat_lit 3), (nat_lit 4), (nat_lit 5), (nat_lit 6)], []⟩,
  ⟨.p (.r (.l (.l (.r (.l .h))))) none (.ex (nat_lit 0) (.s (.r (.l (.l (.l (.l .h))))))), (nat_lit 8), [(nat_lit 0), (nat_lit 1), (nat_lit 2), (nat_lit 3), (nat_lit 4), (nat_lit 5), (nat_lit 6), (nat_lit 7)], []⟩,
  ⟨.p (.l (.r (.l (.r (.l .h))))) none (.ex (nat_lit 1) (.s (.r (.l (.l (.l (.l .h))))))), (nat_lit 9), [(nat_lit 0), (nat_lit 1), (nat_lit 2), (nat_lit 3), (nat_lit 4), (nat_lit 5), (nat_lit 6), (nat_lit 7)], []⟩,
  ⟨.p (.l (.l (.l .h))) none (.mv (.s (.r (.l (.l (.r (.l .h))))))), (nat_lit 10), [(nat_lit 0), (nat_lit 1), (nat_lit 2), (nat_lit 3), (nat_lit 4), (nat_lit 5), (nat_lit 6), (nat_lit 7), (nat_lit 8)], []⟩,
  ⟨.p (.r (.l (.l .h))) none (.mv (.s (.l (.r (.l (.r (.l .h))))))), (nat_lit 11), [(nat_lit 0), (nat_lit 1), (nat_lit 2), (nat_lit 3), (nat_lit 4), (nat_lit 5), (nat_lit 6), (nat_lit 7), (nat_lit 8), (nat_lit 9), (nat_lit 10)], []⟩])
 (.seq (.reg [.p (.r (.r (.l (.r (.l .h))))) none (.mv (.s (.r (.l (.l .h))))),
  .p (.l (.l (.r (.r (.l .h))))) none (.mv (.s (.r (.r (.l (.r (.l .h))))))),
  .p (.r (.l (.r (.r (.l .h))))) (some ((.l (.l (.r (.r (.l .h))))), false)) (.fa (nat_lit 1) (.s (.r (.r .h)))),
  .r (.l (.r (.r (.r (.l .h))))) (some ((.l (.l (.r (.r (.l .h))))), false)) (.ld (.s (.r (.l (.r (.r (.l .h))))))),
  .k (some (.r (.r (.r (.r (.l .h)))))) (some ((.l (.l (.r (.r (.l .h))))), false)) (nat_lit 36) (.r (.l (.r (.l (.l .h))))) [(.s (.l (.r (.r (.r (.l .h))))))],
  .p (.l (.l (.l (.l (.r .h))))) none (.pk (.s (.l (.l (.r (.r (.l .h)))))) (.c (.a (.b true))) (.s (.r (.r (.r (.r (.l .h)))))))])
 (.cond (.s (.l (.l (.l (.l (.r .h)))))) (.seq (.reg [.p (.r (.l .h)) none (.mv (.c (.a (.i .i64 (.n (nat_lit 9))))))])
 .rt) .skip)))
 (.seq (.drw [⟨.p (.r (.l (.l (.l (.r .h))))) none (.mv (.s .h)), (nat_lit 0), [], []⟩,
  ⟨.p (.l (.r (.l (.l (.r .h))))) none (.nc (.s (.r (.l (.l (.l (.r .h))))))), (nat_lit 1), [(nat_lit 0)], []⟩,
  ⟨.p (.r (.r (.l (.l (.r .h))))) none (.fa (nat_lit 0) (.s (.l (.r (.l (.l (.r .h))))))), (nat_lit 2), [(nat_lit 0), (nat_lit 1)], []⟩,
  ⟨.r (.l (.l (.r (.l (.r .h))))) none (.ld (.s (.r (.r (.l (.l (.r .h))))))), (nat_lit 3), [(nat_lit 0), (nat_lit 1), (nat_lit 2)], []⟩,
  ⟨.p (.r (.l (.r (.l (.r .h))))) none (.fa (nat_lit 0) (.s (.r (.r .h)))), (nat_lit 4), [], []⟩,
  ⟨.r (.l (.r (.r (.l (.r .h))))) none (.ld (.s (.r (.l (.r (.l (.r .h))))))), (nat_lit 5), [(nat_lit 4)], []⟩,
  ⟨.p (.r (.r (.r (.l (.r .h))))) none (.mv (.s (.l (.r .h)))), (nat_lit 6), [], []⟩,
  ⟨.c none none (.mu false [(nat_lit 2)] (.s (.l (.l (.r (.l (.r .h)))))) (.s (.l (.r (.r (.l (.r .h)))))) (.s (.r (.r (.r (.l (.r .h))))))), (nat_lit 7), [(nat_lit 0), (nat_lit 1), (nat_lit 2), (nat_lit 3), (nat_lit 4), (nat_lit 5), (nat_lit 6)], []⟩])
 (.seq (.reg [.p (.l (.l (.l (.r (.r .h))))) none (.fa (nat_lit 1) (.s (.r (.r .h)))),
  .r (.r (.l (.l (.r (.r .h))))) none (.ld (.s (.l (.l (.l (.r (.r .h))))))),
  .k (some (.l (.r (.l (.r (.r .h)))))) none (nat_lit 37) (.l (.r (.r (.l (.l .h))))) [(.s (.r (.l (.l (.r (.r .h))))))],
  .p (.r (.r (.l (.r (.r .h))))) none (.fa (nat_lit 1) (.s (.r (.r .h)))),
  .c none none (.st (nat_lit 1) (.s (.r (.r (.l (.r (.r .h)))))) (.s (.l (.r (.l (.r (.r .h)))))))])
 (.drw [⟨.p (.l (.l (.r (.r (.r .h))))) none (.mv (.s .h)), (nat_lit 0), [], []⟩,
  ⟨.p (.r (.l (.r (.r (.r .h))))) none (.mv (.s .h)), (nat_lit 1), [], []⟩,
  ⟨.p (.l (.r (.r (.r (.r .h))))) none (.nc (.s (.r (.l (.r (.r (.r .h))))))), (nat_lit 2), [(nat_lit 1)], []⟩,
  ⟨.p (.r (.r (.r (.r (.r .h))))) none (.fa (nat_lit 2) (.s (.l (.r (.r (.r (.r .h))))))), (nat_lit 3), [(nat_lit 1), (nat_lit 2)], []⟩,
  ⟨.p (.l (.l (.l (.l (.l (.l .h)))))) none (.fa (nat_lit 0) (.s (.r (.r (.r (.r (.r .h))))))), (nat_lit 4), [(nat_lit 1), (nat_lit 2), (nat_lit 3)], []⟩,
  ⟨.p (.r (.l (.l (.l (.l (.l .h)))))) none (.fa (nat_lit 0) (.s (.l (.l (.l (.l (.l (.l .h)))))))), (nat_lit 5), [(nat_lit 1), (nat_lit 2), (nat_lit 3), (nat_lit 4)], []⟩,
  ⟨.r (.l (.r (.l (.l (.l (.l .h)))))) none (.ld (.s (.r (.l (.l (.l (.l (.l .h)))))))), (nat_lit 6), [(nat_lit 1), (nat_lit 2), (nat_lit 3), (nat_lit 4), (nat_lit 5)], []⟩,
  ⟨.r (.r (.r (.l (.l (.l (.l .h)))))) none (.lg (nat_lit 2) (.s (.r (.r .h)))), (nat_lit 7), [], []⟩,
  ⟨.a (.l (.l (.r (.l (.l (.l .h)))))) none (.bs (nat_lit 104) (nat_lit 1) [(.t (nat_lit 1)), .s0] [((nat_lit 0), (nat_lit 2), (.s (.r (.r (.l (.l (.l (.l .h))))))))]), (nat_lit 8), [(nat_lit 7)], []⟩,
  ⟨.c (some (.r (.l (.r (.l (.l (.l .h))))))) none (.ap (nat_lit 104) (nat_lit 2) (nat_lit 40) (.s (.l (.r (.l (.l (.l (.l .h))))))) (.s (.l (.l (.r (.l (.l (.l .h)))))))), (nat_lit 9), [(nat_lit 1), (nat_lit 2), (nat_lit 3), (nat_lit 4), (nat_lit 5), (nat_lit 6), (nat_lit 7), (nat_lit 8)], []⟩,
  ⟨.p (.l (.r (.r (.l (.l (.l .h)))))) none (.nc (.s (.l (.l (.r (.r (.r .h))))))), (nat_lit 10), [(nat_lit 0), (nat_lit 1), (nat_lit 2), (nat_lit 3), (nat_lit 4), (nat_lit 5), (nat_lit 6), (nat_lit 7), (nat_lit 8), (nat_lit 9)], []⟩,
  ⟨.p (.r (.r (.r (.l (.l (.l .h)))))) none (.fa (nat_lit 2) (.s (.l (.r (.r (.l (.l (.l .h)))))))), (nat_lit 11), [(nat_lit 0), (nat_lit 1), (nat_lit 2), (nat_lit 3), (nat_lit 4), (nat_lit 5), (nat_lit 6), (nat_lit 7), (nat_lit 8), (nat_lit 9), (nat_lit 10)], []⟩,
  ⟨.p (.l (.l (.l (.r (.l (.l .h)))))) none (.fa (nat_lit 0) (.s (.r (.r (.r (.l (.l (.l .h)))))))), (nat_lit 12), [(nat_lit 0), (nat_lit 1), (nat_lit 2), (nat_lit 3), (nat_lit 4), (nat_lit 5), (nat_lit 6), (nat_lit 7), (nat_lit 8), (nat_lit 9), (nat_lit 10), (nat_lit 11)], []⟩,
  ⟨.p (.r (.l (.l (.r (.l (.l .h)))))) none (.fa (nat_lit 0) (.s (.l (.l (.l (.r (.l (.l .h)))))))), (nat_lit 13), [(nat_lit 0), (nat_lit 1), (nat_lit 2), (nat_lit 3), (nat_lit 4), (nat_lit 5), (nat_lit 6), (nat_lit 7), (nat_lit 8), (nat_lit 9), (nat_lit 10), (nat_lit 11), (nat_lit 12)], []⟩,
  ⟨.c none none (.st (nat_lit 1) (.s (.r (.l (.l (.r (.l (.l .h))))))) (.s (.r (.l (.r (.l (.l (.l .h)))))))), (nat_lit 14), [(nat_lit 0), (nat_lit 1), (nat_lit 2), (nat_lit 3), (nat_lit 4), (nat_lit 5), (nat_lit 6), (nat_lit 7), (nat_lit 8), (nat_lit 9), (nat_lit 10), (nat_lit 11), (nat_lit 12), (nat_lit 13)], []⟩])))))))
 (.reg [.p (.l (.r (.l (.r (.l (.l .h)))))) none (.ar .add (.s (.l (.l (.r (.l .h))))) (.c (.a (.i .i64 (.n (nat_lit 1)))))),
  .p (.l (.l (.r (.l .h)))) none (.mv (.s (.l (.r (.l (.r (.l (.l .h))))))))])))))))
 (.seq (.seq (.reg [.p (.r (.r (.l (.r (.l (.l .h)))))) none (.fa (nat_lit 1) (.s (.l (.l .h)))),
  .r (.l (.l (.r (.r (.l (.l .h)))))) none (.ld (.s (.r (.r (.l (.r (.l (.l .h)))))))),
  .p (.r (.l (.r (.r (.l (.l .h)))))) none (.ln (.s (.l (.l (.r (.r (.l (.l .h)))))))),
  .p (.l (.r (.r (.r (.l (.l .h)))))) none (.mv (.c (.a (.i .i64 (.n (nat_lit 0))))))])
 (.blk (nat_lit 2) (.loop (.seq (.reg [.p (.r (.r (.r (.r (.l (.l .h)))))) none (.cp .lss (.s (.l (.r (.r (.r (.l (.l .h))))))) (.s (.r (.l (.r (.r (.l (.l .h))))))))])
 (.seq (.cond (.s (.r (.r (.r (.r (.l (.l .h))))))) .skip (.ex (nat_lit 2)))
 (.seq (.blk (nat_lit 3) (.seq (.reg [.p (.l (.l (.l (.l (.r (.l .h)))))) none (.mv (.s (.l (.r (.r (.r (.l (.l .h)))))))),
  .p (.r (.l (.l (.l (.r (.l .h)))))) none (.ix (nat_lit 4) (.s (.l (.l (.r (.r (.l (.l .h))))))) (.s (.l (.r (.r (.r (.l (.l .h)))))))),
  .r (.l (.r (.l (.l (.r (.l .h)))))) none (.lg (nat_lit 4) (.s (.r (.l (.l (.l (.r (.l .h)))))))),
  .a (.r (.r (.l .h))) none (.al (nat_lit 109) (nat_lit 4) (.n (.n (.n .e .s0 .e) (.i .i64 (.n (nat_lit 0))) .e) (.t (nat_lit 1)) (.n .e .s0 .e))),
  .p (.l (.r (.l .h))) none (.mv (.s (.l (.l (.l (.l (.r (.l .h)))))))),
  .c none none (.st (nat_lit 4) (.s (.r (.r (.l .h)))) (.s (.l (.r (.l (.l (.r (.l .h))))))))])
 (.seq (.reg [.p (.r (.r (.l (.l (.r (.l .h)))))) none (.mv (.s .h)),
  .p (.l (.l (.r (.l (.r (.l .h)))))) none (.fa (nat_lit 1) (.s (.r (.r (.l .h))))),
  .r (.r (.l (.r (.l (.r (.l .h)))))) none (.ld (.s (.l (.l (.r (.l (.r (.l .h)))))))),
  .p (.l (.r (.r (.l (.r (.l .h)))))) none (.nc (.s (.r (.r (.l (.l (.r (.l .h)))))))),
  .p (.r (.r (.r (.l (.r (.l .h)))))) none (.fa (nat_lit 10) (.s (.l (.r (.r (.l (.r (.l .h)))))))),
  .c none none (.st (nat_lit 1) (.s (.r (.r (.r (.l (.r (.l .h))))))) (.s (.r (.l (.r (.l (.r (.l .h))))))))])
 (.seq (.seq (.reg [.p (.l (.l (.l (.r (.r (.l .h)))))) none (.mv (.s (.l (.r (.l .h))))),
  .p (.r (.l (.l (.r (.r (.l .h)))))) none (.cp .geq (.s (.l (.l (.l (.r (.r (.l .h))))))) (.c (.a (.i .i64 (.n (nat_lit 8))))))])
 (.cond (.s (.r (.l (.l (.r (.r (.l .h))))))) (.seq (.reg [.p (.r (.l .h)) none (.mv (.c (.a (.i .i64 (.n (nat_lit 5))))))])
 .rt) .skip))
 (.seq (.seq (.drw [⟨.p (.r (.r (.l (.r (.r (.l .h)))))) none (.mv (.s .h)), (nat_lit 0), [], []⟩,
  ⟨.p (.l (.l (.r (.r (.r (.l .h)))))) none (.nc (.s (.r (.r (.l (.r (.r (.l .h)))))))), (nat_lit 1), [(nat_lit 0)], []⟩,
  ⟨.p (.r (.l (.r (.r (.r (.l .h)))))) none (.fa (nat_lit 1) (.s (.l (.l (.r (.r (.r (.l .h)))))))), (nat_lit 2), [(nat_lit 0), (nat_lit 1)], []⟩,
  ⟨.r (.l (.r (.r (.r (.r (.l .h)))))) none (.ld (.s (.r (.l (.r (.r (.r (.l .h)))))))), (nat_lit 3), [(nat_lit 0), (nat_lit 1), (nat_lit 2)], []⟩,
  ⟨.p (.r (.r (.r (.r (.r (.l .h)))))) none (.fa (nat_lit 0) (.s (.r (.r (.l .h))))), (nat_lit 4), [], []⟩,
  ⟨.r (.l (.l (.l (.l (.l (.r .h)))))) none (.ld (.s (.r (.r (.r (.r (.r (.l .h)))))))), (nat_lit 5), [(nat_lit 4)], []⟩,
  ⟨.r (.r (.l (.l (.l (.l (.r .h)))))) none (.lk true false [(nat_lit 2)] (.a (.i .i64 (.n (nat_lit 0)))) (.s (.l (.r (.r (.r (.r (.l .h))))))) (.s (.l (.l (.l (.l (.l (.r .h)))))))), (nat_lit 6), [(nat_lit 0), (nat_lit 1), (nat_lit 2), (nat_lit 3), (nat_lit 4), (nat_lit 5)], []⟩,
  ⟨.p (.l (.r (.l (.r (.r (.l .h)))))) none (.mv (.s (.r (.l (.l (.l (.l (.r .h)))))))), (nat_lit 7), [(nat_lit 0), (nat_lit 1), (nat_lit 2), (nat_lit 3), (nat_lit 4), (nat_lit 5), (nat_lit 6)], []⟩,
  ⟨.p (.l (.r (.l (.l (.l (.r .h)))))) none (.ex (nat_lit 0) (.s (.l (.r (.l (.r (.r (.l .h)))))))), (nat_lit 8), [(nat_lit 0), (nat_lit 1), (nat_lit 2), (nat_lit 3), (nat_lit 4), (nat_lit 5), (nat_lit 6), (nat_lit 7)], []⟩,
  ⟨.p (.r (.r (.l (.l (.l (.r .h)))))) none (.ex (nat_lit 1) (.s (.l (.r (.l (.r (.r (.l .h)))))))), (nat_lit 9), [(nat_lit 0), (nat_lit 1), (nat_lit 2), (nat_lit 3), (nat_lit 4), (nat_lit 5), (nat_lit 6), (nat_lit 7)], []⟩,
  ⟨.p (.l (.l (.r .h))) none (.mv (.s (.l (.r (.l (.l (.l (.r .h)))))))), (nat_lit 10), [(nat_lit 0), (nat_lit 1), (nat_lit 2), (nat_lit 3), (nat_lit 4), (nat_lit 5), (nat_lit 6), (nat_lit 7), (nat_lit 8)], []⟩,
  ⟨.p (.r (.l (.r .h))) none (.mv (.s (.r (.r (.l (.l (.l (.r .h)))))))), (nat_lit 11), [(nat_lit 0), (nat_lit 1), (nat_lit 2), (nat_lit 3), (nat_lit 4), (nat_lit 5), (nat_lit 6), (nat_lit 7), (nat_lit 8), (nat_lit 9), (nat_lit 10)], []⟩])
 (.seq (.reg [.p (.l (.l (.r (.l (.l (.r .h)))))) none (.mv (.s (.r (.l (.r .h)))))])
 (.cond (.s (.l (.l (.r (.l (.l (.r .h))))))) (.seq (.reg [.p (.r (.l .h)) none (.mv (.c (.a (.i .i64 (.n (nat_lit 9))))))])
 .rt) .skip)))
 (.seq (.drw [⟨.p (.r (.l (.r (.l (.l (.r .h)))))) none (.mv (.s .h)), (nat_lit 0), [], []⟩,
  ⟨.p (.l (.r (.r (.l (.l (.r .h)))))) none (.nc (.s (.r (.l (.r (.l (.l (.r .h)))))))), (nat_lit 1), [(nat_lit 0)], []⟩,
  ⟨.p (.r (.r (.r (.l (.l (.r .h)))))) none (.fa (nat_lit 1) (.s (.l (.r (.r (.l (.l (.r .h)))))))), (nat_lit 2), [(nat_lit 0), (nat_lit 1)], []⟩,
  ⟨.r (.l (.l (.l (.r (.l (.r .h)))))) none (.ld (.s (.r (.r (.r (.l (.l (.r .h)))))))), (nat_lit 3), [(nat_lit 0), (nat_lit 1), (nat_lit 2)], []⟩,
  ⟨.p (.r (.l (.l (.r (.l (.r .h)))))) none (.fa (nat_lit 0) (.s (.r (.r (.l .h))))), (nat_lit 4), [], []⟩,
  ⟨.r (.l (.r (.l (.r (.l (.r .h)))))) none (.ld (.s (.r (.l (.l (.r (.l (.r .h)))))))), (nat_lit 5), [(nat_lit 4)], []⟩,
  ⟨.p (.r (.r (.l (.r (.l (.r .h)))))) none (.mv (.s (.l (.r (.l .h))))), (nat_lit 6), [], []⟩,
  ⟨.c none none (.mu false [(nat_lit 2)] (.s (.l (.l (.l (.r (.l (.r .h))))))) (.s (.l (.r (.l (.r (.l (.r .h))))))) (.s (.r (.r (.l (.r (.l (.r .h)))))))), (nat_lit 7), [(nat_lit 0), (nat_lit 1), (nat_lit 2), (nat_lit 3), (nat_lit 4), (nat_lit 5), (nat_lit 6)], []⟩])
 (.drw [⟨.p (.l (.l (.r (.r (.l (.r .h)))))) none (.mv (.s .h)), (nat_lit 0), [], []⟩,
  ⟨.p (.r (.l (.r (.r (.l (.r .h)))))) none (.mv (.s .h)), (nat_lit 1), [], []⟩,
  ⟨.p (.l (.r (.r (.r (.l (.r .h)))))) none (.nc (.s (.r (.l (.r (.r (.l (.r .h)))))))), (nat_lit 2), [(nat_lit 1)], []⟩,
  ⟨.p (.r (.r (.r (.r (.l (.r .h)))))) none (.fa (nat_lit 6) (.s (.l (.r (.r (.r (.l (.r .h)))))))), (nat_lit 3), [(nat_lit 1), (nat_lit 2)], []⟩,
  ⟨.r (.l (.l (.l (.l (.r (.r .h)))))) none (.ld (.s (.r (.r (.r (.r (.l (.r .h)))))))), (nat_lit 4), [(nat_lit 1), (nat_lit 2), (nat_lit 3)], []⟩,
  ⟨.p (.r (.l (.l (.l (.r (.r .h)))))) none (.fa (nat_lit 2) (.s (.r (.r (.l .h))))), (nat_lit 5), [], []⟩,
  ⟨.r (.l (.r (.l (.l (.r (.r .h)))))) none (.ld (.s (.r (.l (.l (.l (.r (.r .h)))))))), (nat_lit 6), [(nat_lit 5)], []⟩,
  ⟨.p (.r (.r (.l (.l (.r (.r .h)))))) none (.ln (.s (.l (.r (.l (.l (.r (.r .h)))))))), (nat_lit 7), [(nat_lit 5), (nat_lit 6)], []⟩,
  ⟨.a (.l (.l (.r (.l (.r (.r .h)))))) none (.bs (nat_lit 3) (nat_lit 1) [(.i .i64 (.n (nat_lit 0)))] [((nat_lit 0), (nat_lit 1), (.s (.r (.r (.l (.l (.r (.r .h))))))))]), (nat_lit 8), [(nat_lit 5), (nat_lit 6), (nat_lit 7)], []⟩,
  ⟨.c (some (.r (.l (.r (.l (.r (.r .h))))))) none (.ap (nat_lit 3) (nat_lit 1) (nat_lit 8) (.s (.l (.l (.l (.l (.r (.r .h))))))) (.s (.l (.l (.r (.l (.r (.r .h)))))))), (nat_lit 9), [(nat_lit 1), (nat_lit 2), (nat_lit 3), (nat_lit 4), (nat_lit 5), (nat_lit 6), (nat_lit 7), (nat_lit 8)], []⟩,
  ⟨.p (.l (.r (.r (.l (.r (.r .h)))))) none (.nc (.s (.l (.l (.r (.r (.l (.r .h)))))))), (nat_lit 10), [(nat_lit 0), (nat_lit 1), (nat_lit 2), (nat_lit 3), (nat_lit 4), (nat_lit 5), (nat_lit 6), (nat_lit 7), (nat_lit 8), (nat_lit 9)], []⟩,
  ⟨.p (.r (.r (.r (.l (.r (.r .h)))))) none (.fa (nat_lit 6) (.s (.l (.r (.r (.l (.r (.r .h)))))))), (nat_lit 11), [(nat_lit 0), (nat_lit 1), (nat_lit 2), (nat_lit 3), (nat_lit 4), (nat_lit 5), (nat_lit 6), (nat_lit 7), (nat_lit 8), (nat_lit 9), (nat_lit 10)], []⟩,
  ⟨.c none none (.st (nat_lit 1) (.s (.r (.r (.r (.l (.r (.r .h))))))) (.s (.r (.l (.r (.l (.r (.r .h)))))))), (nat_lit 12), [(nat_lit 0), (nat_lit 1), (nat_lit 2), (nat_lit 3), (nat_lit 4), (nat_lit 5), (nat_lit 6), (nat_lit 7), (nat_lit 8), (nat_lit 9), (nat_lit 10), (nat_lit 11)], []⟩])))))))
 (.reg [.p (.l (.l (.l (.r (.r (.r .h)))))) none (.ar .add (.s (.l (.r (.r (.r (.l (.l .h))))))) (.c (.a (.i .i64 (.n (nat_lit 1)))))),
  .p (.l (.r (.r (.r (.l (.l .h)))))) none (.mv (.s (.l (.l (.l (.r (.r (.r .h))))))))])))))))
 (.seq (.seq (.reg [.p (.r (.l (.l (.r (.r (.r .h)))))) none (.fa (nat_lit 1) (.s (.l (.l .h)))),
  .r (.l (.r (.l (.r (.r (.r .h)))))) none (.ld (.s (.r (.l (.l (.r (.r (.r .h)))))))),
  .p (.r (.r (.l (.r (.r (.r .h)))))) none (.ln (.s (.l (.r (.l (.r (.r (.r .h)))))))),
  .p (.l (.l (.r (.r (.r (.r .h)))))) none (.mv (.c (.a (.i .i64 (.n (nat_lit 0))))))])
 (.blk (nat_lit 4) (.loop (.seq (.reg [.p (.r (.l (.r (.r (.r (.r .h)))))) none (.cp .lss (.s (.l (.l (.r (.r (.r (.r .h))))))) (.s (.r (.r (.l (.r (.r (.r .h))))))))])
 (.seq (.cond (.s (.r (.l (.r (.r (.r (.r .h))))))) .skip (.ex (nat_lit 4)))
 (.seq (.blk (nat_lit 5) (.seq (.reg [.p (.l (.r (.r (.r (.r (.r .h)))))) none (.mv (.s (.l (.l (.r (.r (.r (.r .h)))))))),
  .p (.r (.r (.r (.r (.r (.r .h)))))) none (.ix (nat_lit 4) (.s (.l (.r (.l (.r (.r (.r .h))))))) (.s (.l (.l (.r (.r (.r (.r .h)))))))),
  .r (.l (.l (.l (.l (.l (.l (.l .h))))))) none (.lg (nat_lit 4) (.s (.r (.r (.r (.r (.r (.r .h)))))))),
  .a (.r (.r (.r .h))) none (.al (nat_lit 109) (nat_lit 4) (.n (.n (.n .e .s0 .e) (.i .i64 (.n (nat_lit 0))) .e) (.t (nat_lit 1)) (.n .e .s0 .e))),
  .p (.l (.r (.r .h))) none (.mv (.s (.l (.r (.r (.r (.r (.r .h)))))))),
  .c none none (.st (nat_lit 4) (.s (.r (.r (.r .h)))) (.s (.l (.l (.l (.l (.l (.l (.l .h)))))))))])
 (.seq (.reg [.p (.r (.l (.l (.l (.l (.l (.l .h))))))) none (.mv (.s .h)),
  .p (.l (.r (.l (.l (.l (.l (.l .h))))))) none (.mv (.s (.l (.r (.r .h))))),
  .r (.r (.r (.l (.l (.l (.l (.l .h))))))) none (.lg (nat_lit 4) (.s (.r (.r (.r .h))))),
  .k (some (.l (.l (.r (.l (.l (.l (.l .h)))))))) none (nat_lit 38) (.r (.r (.r (.l (.l .h))))) [(.s (.r (.l (.l (.l (.l (.l (.l .h)))))))), (.s (.l (.r (.l (.l (.l (.l (.l .h)))))))), (.s (.r (.r (.l (.l (.l (.l (.l .h))))))))],
  .p (.l (.l (.l (.l .h)))) none (.mv (.s (.l (.l (.r (.l (.l (.l (.l .h)))))))))])
 (.seq (.reg [.p (.r (.l (.r (.l (.l (.l (.l .h))))))) none (.mv (.s (.l (.l (.l (.l .h)))))),
  .p (.l (.r (.r (.l (.l (.l (.l .h))))))) none (.cp .neq (.s (.r (.l (.r (.l (.l (.l (.l .h)))))))) (.c (.a (.i .i64 (.n (nat_lit 0))))))])
 (.cond (.s (.l (.r (.r (.l (.l (.l (.l .h)))))))) (.seq (.reg [.p (.r (.r (.r (.l (.l (.l (.l .h))))))) none (.mv (.s (.l (.l (.l (.l .h)))))),
  .p (.r (.l .h)) none (.mv (.s (.r (.r (.r (.l (.l (.l (.l .h)))))))))])
 .rt) .skip)))))
 (.reg [.p (.l (.l (.l (.r (.l (.l (.l .h))))))) none (.ar .add (.s (.l (.l (.r (.r (.r (.r .h))))))) (.c (.a (.i .i64 (.n (nat_lit 1)))))),
  .p (.l (.l (.r (.r (.r (.r .h)))))) none (.mv (.s (.l (.l (.l (.r (.l (.l (.l .h)))))))))])))))))
 (.seq (.reg [.p (.r (.l .h)) none (.mv (.c (.a (.i .i64 (.n (nat_lit 0))))))])
 .rt))))), false, false⟩
noncomputable def rf18 : RF := ⟨[.h, (.l .h)], [.s (.r (.l .h)), .s (.l (.r .h))], (.seq (.reg [.a (.r .h) none (.bx (nat_lit 36) (nat_lit 4) (.s .h)),
  .p (.r (.l .h)) none (.mv (.c (.a (.i .i64 (.n (nat_lit 0)))))),
  .p (.l (.r .h)) none (.mv (.c (.a (.b false))))])
 (.seq (.seq (.reg [.p (.r (.l (.l .h))) none (.fa (nat_lit 0) (.s (.r .h))),
  .p (.l (.r (.l .h))) none (.fa (nat_lit 1) (.s (.r (.l (.l .h))))),
  .r (.r (.r (.l .h))) none (.ld (.s (.l (.r (.l .h))))),
  .p (.l (.l (.r .h))) none (.ln (.s (.r (.r (.l .h))))),
  .p (.r (.l (.r .h))) none (.mv (.c (.a (.i .i64 (.n (nat_lit 0))))))])
 (.blk (nat_lit 0) (.loop (.seq (.reg [.p (.l (.r (.r .h))) none (.cp .lss (.s (.r (.l (.r .h)))) (.s (.l (.l (.r .h)))))])
 (.seq (.cond (.s (.l (.r (.r .h)))) .skip (.ex (nat_lit 0)))
 (.seq (.blk (nat_lit 1) (.seq (.reg [.p (.r (.r (.r .h))) none (.mv (.s (.r (.l (.r .h))))),
  .p (.l (.l (.l (.l .h)))) none (.ix (nat_lit 4) (.s (.r (.r (.l .h)))) (.s (.r (.l (.r .h))))),
  .r (.r (.l (.l (.l .h)))) none (.lg (nat_lit 4) (.s (.l (.l (.l (.l .h)))))),
  .a (.l (.l (.l .h))) none (.al (nat_lit 109) (nat_lit 4) (.n (.n (.n .e .s0 .e) (.i .i64 (.n (nat_lit 0))) .e) (.t (nat_lit 1)) (.n .e .s0 .e))),
  .p (.r (.r .h)) none (.mv (.s (.r (.r (.r .h))))),
  .c none none (.st (nat_lit 4) (.s (.l (.l (.l .h)))) (.s (.r (.l (.l (.l .h))))))])
 (.seq (.reg [.p (.l (.r (.l (.l .h)))) none (.fa (nat_lit 0) (.s (.l (.l (.l .h))))),
  .r (.r (.r (.l (.l .h)))) none (.ld (.s (.l (.r (.l (.l .h)))))),
  .p (.l (.l (.r (.l .h)))) none (.mv (.s (.l .h))),
  .p (.r (.l (.r (.l .h)))) none (.eq false false [(nat_lit 2)] (.s (.r (.r (.l (.l .h))))) (.s (.l (.l (.r (.l .h))))))])
 (.cond (.s (.r (.l (.r (.l .h))))) (.seq (.reg [.p (.l (.r (.r (.l .h)))) none (.mv (.s (.r (.r .h)))),
  .p (.r (.l .h)) none (.mv (.s (.l (.r (.r (.l .h)))))),
  .p (.l (.r .h)) none (.mv (.c (.a (.b true))))])
 .rt) .skip))))
 (.reg [.p (.r (.r (.r (.l .h)))) none (.ar .add (.s (.r (.l (.r .h)))) (.c (.a (.i .i64 (.n (nat_lit 1)))))),
  .p (.r (.l (.r .h))) none (.mv (.s (.r (.r (.r (.l .h))))))])))))))
 (.seq (.reg [.p (.r (.l .h)) none (.mv (.c (.a (.i .i64 (.n (nat_lit 0)))))),
  .p (.l (.r .h)) none (.mv (.c (.a (.b false))))])
 .rt))), false, false⟩
noncomputable def rf19 : RF := ⟨[.h, (.l .h)], [.s (.r (.l .h))], (.seq (.reg [.p (.r (.l .h)) none (.mv (.c (.a (.b false))))])
 (.seq (.seq (.reg [.p (.r (.r .h)) none (.mv (.s .h)),
  .p (.l (.l (.l .h))) none (.ln (.s (.r (.r .h)))),
  .p (.r (.l (.l .h))) none (.mv (.s (.l .h))),
  .p (.l (.r (.l .h))) none (.ln (.s (.r (.l (.l .h))))),
  .p (.r (.r (.l .h))) none (.cp .neq (.s (.l (.l (.l .h)))) (.s (.l (.r (.l .h)))))])
 (.cond (.s (.r (.r (.l .h)))) (.seq (.reg [.p (.r (.l .h)) none (.mv (.c (.a (.b false))))])
 .rt) .skip))
 (.seq (.seq (.reg [.p (.l (.r .h)) none (.mv (.c (.a (.i .i64 (.n (nat_lit 0))))))])
 (.blk (nat_lit 0) (.loop (.seq (.seq (.reg [.p (.l (.l (.r .h))) none (.mv (.s (.l (.r .h)))),
  .p (.r (.l (.r .h))) none (.mv (.s .h)),
  .p (.l (.r (.r .h))) none (.ln (.s (.r (.l (.r .h))))),
  .p (.r (.r (.r .h))) none (.cp .lss (.s (.l (.l (.r .h)))) (.s (.l (.r (.r .h)))))])
 (.cond (.s (.r (.r (.r .h)))) .skip (.ex (nat_lit 0))))
 (.seq (.blk (nat_lit 1) (.seq (.drw [⟨.p (.l (.r (.l (.l .h)))) none (.mv (.s .h)), (nat_lit 0), [], []⟩,
  ⟨.p (.r (.r (.l (.l .h)))) none (.mv (.s (.l (.r .h)))), (nat_lit 1), [], []⟩,
  ⟨.p (.l (.l (.r (.l .h)))) none (.ix (nat_lit 1) (.s (.l (.r (.l (.l .h))))) (.s (.r (.r (.l (.l .h)))))), (nat_lit 2), [(nat_lit 0), (nat_lit 1)], []⟩,
  ⟨.r (.r (.l (.r (.l .h)))) none (.ld (.s (.l (.l (.r (.l .h)))))), (nat_lit 3), [(nat_lit 0), (nat_lit 1), (nat_lit 2)], []⟩,
  ⟨.p (.l (.r (.r (.l .h)))) none (.mv (.s (.l .h))), (nat_lit 4), [], []⟩,
  ⟨.p (.r (.r (.r (.l .h)))) none (.mv (.s (.l (.r .h)))), (nat_lit 5), [], []⟩,
  ⟨.p (.l (.l (.l (.r .h)))) none (.ix (nat_lit 1) (.s (.l (.r (.r (.l .h))))) (.s (.r (.r (.r (.l .h)))))), (nat_lit 6), [(nat_lit 4), (nat_lit 5)], []⟩,
  ⟨.r (.r (.l (.l (.r .h)))) none (.ld (.s (.l (.l (.l (.r .h)))))), (nat_lit 7), [(nat_lit 4), (nat_lit 5), (nat_lit 6)], []⟩,
  ⟨.p (.l (.r (.l (.r .h)))) none (.cp .neq (.s (.r (.l (.r (.l .h))))) (.s (.r (.l (.l (.r .h)))))), (nat_lit 8), [(nat_lit 0), (nat_lit 1), (nat_lit 2), (nat_lit 3), (nat_lit 4), (nat_lit 5), (nat_lit 6), (nat_lit 7)], []⟩])
 (.cond (.s (.l (.r (.l (.r .h))))) (.seq (.reg [.p (.r (.l .h)) none (.mv (.c (.a (.b false))))])
 .rt) .skip)))
 (.reg [.p (.l (.l (.l (.l .h)))) none (.mv (.s (.l (.r .h)))),
  .p (.r (.l (.l (.l .h)))) none (.ar .add (.s (.l (.l (.l (.l .h))))) (.c (.a (.i .i64 (.n (nat_lit 1)))))),
  .p (.l (.r .h)) none (.mv (.s (.r (.l (.l (.l .h))))))]))))))
 (.seq (.reg [.p (.r (.l .h)) none (.mv (.c (.a (.b true))))])
 .rt)))), false, false⟩
noncomputable def rf20 : RF := ⟨[.h, (.l .h), (.r .h)], [.s (.r (.r .h))], (.seq (.reg [.a (.l (.l .h)) none (.bx (nat_lit 36) (nat_lit 4) (.s .h)),
  .p (.r (.r .h)) none (.mv (.c (.a .s0)))])
 (.seq (.seq (.reg [.p (.r (.r (.l .h))) none (.mv (.s (.l .h))),
  .p (.l (.l (.r .h))) none (.cp .lss (.s (.r (.r (.l .h)))) (.c (.a (.i .i64 (.n (nat_lit 0)))))),
  .p (.r (.l (.r .h))) none (.mv (.s (.l (.l (.r .h))))),
  .p (.l (.r (.r .h))) (some ((.r (.l (.r .h))), false)) (.mv (.s (.l .h))),
  .p (.r (.r (.r .h))) (some ((.r (.l (.r .h))), false)) (.fa (nat_lit 2) (.s (.l (.l .h)))),
  .r (.l (.l (.l (.l .h)))) (some ((.r (.l (.r .h))), false)) (.ld (.s (.r (.r (.r .h))))),
  .p (.r (.l (.l (.l .h)))) (some ((.r (.l (.r .h))), false)) (.ln (.s (.l (.l (.l (.l .h)))))),
  .p (.l (.r (.l (.l .h)))) (some ((.r (.l (.r .h))), false)) (.cp .geq (.s (.l (.r (.r .h)))) (.s (.r (.l (.l (.l .h)))))),
  .p (.r (.r (.l (.l .h)))) none (.pk (.s (.r (.l (.r .h)))) (.c (.a (.b true))) (.s (.l (.r (.l (.l .h))))))])
 (.cond (.s (.r (.r (.l (.l .h))))) (.seq (.reg [.p (.r (.r .h)) none (.mv (.c (.a .s0)))])
 .rt) .skip))
 (.seq (.reg [.p (.l (.l (.l .h))) none (.mv (.c (.a .s0)))])
 (.seq (.seq (.reg [.p (.l (.l (.r (.l .h)))) none (.fa (nat_lit 2) (.s (.l (.l .h)))),
  .r (.r (.l (.r (.l .h)))) none (.ld (.s (.l (.l (.r (.l .h)))))),
  .p (.l (.r (.r (.l .h)))) none (.mv (.s (.l .h))),
  .p (.r (.r (.r (.l .h)))) none (.ix (nat_lit 1) (.s (.r (.l (.r (.l .h))))) (.s (.l (.r (.r (.l .h)))))),
  .r (.l (.l (.l (.r .h)))) none (.ld (.s (.r (.r (.r (.l .h)))))),
  .p (.r (.l (.l (.r .h)))) none (.ln (.s (.l (.l (.l (.r .h)))))),
  .p (.l (.r (.l (.r .h)))) none (.mv (.c (.a (.i .i64 (.n (nat_lit 0))))))])
 (.blk (nat_lit 0) (.loop (.seq (.reg [.p (.r (.r (.l (.r .h)))) none (.cp .lss (.s (.l (.r (.l (.r .h))))) (.s (.r (.l (.l (.r .h))))))])
 (.seq (.cond (.s (.r (.r (.l (.r .h))))) .skip (.ex (nat_lit 0)))
 (.seq (.blk (nat_lit 1) (.seq (.reg [.p (.l (.l (.r (.r .h)))) none (.mv (.s (.l (.r (.l (.r .h)))))),
  .p (.r (.l (.r (.r .h)))) none (.ix (nat_lit 7) (.s (.l (.l (.l (.r .h))))) (.s (.l (.r (.l (.r .h)))))),
  .r (.l (.r (.r (.r .h)))) none (.lg (nat_lit 7) (.s (.r (.l (.r (.r .h)))))),
  .a (.l (.r (.l .h))) none (.al (nat_lit 80) (nat_lit 7) (.n (.n (.n .e (.i .i64 (.n (nat_lit 0))) .e) (.i .i64 (.n (nat_lit 0))) (.n .e (.i .i64 (.n (nat_lit 0))) .e)) (.t (nat_lit 1)) (.n (.n .e (.b false) .e) (.i .i64 (.n (nat_lit 0))) (.n .e (.i .i64 (.n (nat_lit 0))) .e)))),
  .p (.r (.l (.l .h))) none (.mv (.s (.l (.l (.r (.r .h)))))),
  .c none none (.st (nat_lit 7) (.s (.l (.r (.l .h)))) (.s (.l (.r (.r (.r .h))))))])
 (.seq (.reg [.p (.r (.r (.r (.r .h)))) none (.fa (nat_lit 5) (.s (.l (.r (.l .h))))),
  .r (.l (.l (.l (.l (.l .h))))) none (.ld (.s (.r (.r (.r (.r .h)))))),
  .p (.r (.l (.l (.l (.l .h))))) none (.mv (.s (.r .h))),
  .p (.l (.r (.l (.l (.l .h))))) none (.cp .leq (.s (.l (.l (.l (.l (.l .h)))))) (.s (.r (.l (.l (.l (.l .h))))))),
  .p (.r (.r (.l (.l (.l .h))))) none (.mv (.s (.l (.r (.l (.l (.l .h))))))),
  .p (.l (.l (.r (.l (.l .h))))) (some ((.r (.r (.l (.l (.l .h))))), true)) (.mv (.s (.r .h))),
  .p (.r (.l (.r (.l (.l .h))))) (some ((.r (.r (.l (.l (.l .h))))), true)) (.fa (nat_lit 6) (.s (.l (.r (.l .h))))),
  .r (.l (.r (.r (.l (.l .h))))) (some ((.r (.r (.l (.l (.l .h))))), true)) (.ld (.s (.r (.l (.r (.l (.l .h))))))),
  .p (.r (.r (.r (.l (.l .h))))) (some ((.r (.r (.l (.l (.l .h))))), true)) (.cp .leq (.s (.l (.l (.r (.l (.l .h)))))) (.s (.l (.r (.r (.l (.l .h))))))),
  .p (.l (.l (.l (.r (.l .h))))) none (.pk (.s (.r (.r (.l (.l (.l .h)))))) (.s (.r (.r (.r (.l (.l .h)))))) (.c (.a (.b false))))])
 (.cond (.s (.l (.l (.l (.r (.l .h)))))) (.reg [.p (.r (.l (.l (.r (.l .h))))) none (.mv (.s (.l (.l (.l .h))))),
  .p (.l (.r (.l (.r (.l .h))))) none (.mv (.s (.r (.l (.l .h))))),
  .a (.r (.r (.l (.r (.l .h))))) none (.bs (nat_lit 3) (nat_lit 1) [(.i .i64 (.n (nat_lit 0)))] [((nat_lit 0), (nat_lit 1), (.s (.l (.r (.l (.r (.l .h)))))))]),
  .c (some (.l (.l (.r (.r (.l .h)))))) none (.ap (nat_lit 3) (nat_lit 1) (nat_lit 8) (.s (.r (.l (.l (.r (.l .h)))))) (.s (.r (.r (.l (.r (.l .h))))))),
  .p (.l (.l (.l .h))) none (.mv (.s (.l (.l (.r (.r (.l .h)))))))]) .skip))))
 (.reg [.p (.r (.l (.r (.r (.l .h))))) none (.ar .add (.s (.l (.r (.l (.r .h))))) (.c (.a (.i .i64 (.n (nat_lit 1)))))),
  .p (.l (.r (.l (.r .h)))) none (.mv (.s (.r (.l (.r (.r (.l .h)))))))])))))))
 (.seq (.reg [.p (.l (.r (.r (.r (.l .h))))) none (.mv (.s (.l (.l (.l .h))))),
  .p (.r (.r .h)) none (.mv (.s (.l (.r (.r (.r (.l .h)))))))])
 .rt))))), false, false⟩
noncomputable def rf27 : RF := ⟨[.h, (.l .h), (.r .h)], [.s (.r (.r .h)), .s (.l (.l (.l .h)))], (.seq (.reg [.p (.r (.r .h)) none (.mv (.c (.a (.i .i64 (.n (nat_lit 0)))))),
  .p (.l (.l (.l .h))) none (.mv (.c (.a (.i .i64 (.n (nat_lit 0))))))])
 (.seq (.blk (nat_lit 0) (.loop (.seq (.seq (.reg [.p (.l (.r (.l .h))) none (.mv (.s (.l .h))),
  .p (.r (.r (.l .h))) none (.mv (.s .h)),
  .p (.l (.l (.r .h))) none (.sn (.s (.r (.r (.l .h))))),
  .p (.r (.l (.r .h))) none (.cp .lss (.s (.l (.r (.l .h)))) (.s (.l (.l (.r .h)))))])
 (.cond (.s (.r (.l (.r .h)))) .skip (.ex (nat_lit 0))))
 (.blk (nat_lit 1) (.seq (.reg [.p (.l (.r (.r .h))) none (.mv (.s .h)),
  .p (.r (.r (.r .h))) none (.mv (.s (.l .h))),
  .p (.l (.l (.l (.l .h)))) none (.sx (.s (.l (.r (.r .h)))) (.s (.r (.r (.r .h))))),
  .p (.r (.l (.l .h))) none (.mv (.s (.l (.l (.l (.l .h))))))])
 (.seq (.seq (.reg [.p (.r (.l (.l (.l .h)))) none (.mv (.s (.r (.l (.l .h))))),
  .p (.l (.r (.l (.l .h)))) none (.cp .eql (.s (.r (.l (.l (.l .h))))) (.c (.a (.i .u8 (.n (nat_lit 47)))))),
  .p (.r (.r (.l (.l .h)))) none (.mv (.s (.l (.r (.l (.l .h)))))),
  .p (.l (.l (.r (.l .h)))) (some ((.r (.r (.l (.l .h)))), true)) (.mv (.s (.l .h))),
  .p (.r (.l (.r (.l .h)))) (some ((.r (.r (.l (.l .h)))), true)) (.ar .add (.s (.l (.l (.r (.l .h))))) (.c (.a (.i .i64 (.n (nat_lit 1)))))),
  .p (.l (.r (.r (.l .h)))) (some ((.r (.r (.l (.l .h)))), true)) (.mv (.s .h)),
  .p (.r (.r (.r (.l .h)))) (some ((.r (.r (.l (.l .h)))), true)) (.sn (.s (.l (.r (.r (.l .h)))))),
  .p (.l (.l (.l (.r .h)))) (some ((.r (.r (.l (.l .h)))), true)) (.cp .lss (.s (.r (.l (.r (.l .h))))) (.s (.r (.r (.r (.l .h)))))),
  .p (.r (.l (.l (.r .h)))) none (.pk (.s (.r (.r (.l (.l .h))))) (.s (.l (.l (.l (.r .h))))) (.c (.a (.b false)))),
  .p (.l (.r (.l (.r .h)))) none (.mv (.s (.r (.l (.l (.r .h)))))),
  .p (.r (.r (.l (.r .h)))) (some ((.l (.r (.l (.r .h)))), true)) (.mv (.s .h)),
  .p (.l (.l (.r (.r .h)))) (some ((.l (.r (.l (.r .h)))), true)) (.mv (.s (.l .h))),
  .p (.r (.l (.r (.r .h)))) (some ((.l (.r (.l (.r .h)))), true)) (.ar .add (.s (.l (.l (.r (.r .h))))) (.c (.a (.i .i64 (.n (nat_lit 1)))))),
  .p (.l (.r (.r (.r .h)))) (some ((.l (.r (.l (.r .h)))), true)) (.sx (.s (.r (.r (.l (.r .h))))) (.s (.r (.l (.r (.r .h)))))),
  .p (.r (.r (.r (.r .h)))) (some ((.l (.r (.l (.r .h)))), true)) (.cp .eql (.s (.l (.r (.r (.r .h))))) (.c (.a (.i .u8 (.n (nat_lit 47)))))),
  .p (.l (.l (.l (.l (.l .h))))) none (.pk (.s (.l (.r (.l (.r .h))))) (.s (.r (.r (.r (.r .h))))) (.c (.a (.b false))))])
 (.cond (.s (.l (.l (.l (.l (.l .h)))))) (.seq (.blk (nat_lit 2) (.loop (.seq (.seq (.reg [.p (.r (.l (.l (.l (.l .h))))) none (.mv (.s (.l .h))),
  .p (.l (.r (.l (.l (.l .h))))) none (.mv (.s .h)),
  .p (.r (.r (.l (.l (.l .h))))) none (.sn (.s (.l (.r (.l (.l (.l .h))))))),
  .p (.l (.l (.r (.l (.l .h))))) none (.cp .lss (.s (.r (.l (.l (.l (.l .h)))))) (.s (.r (.r (.l (.l (.l .h))))))),
  .p (.r (.l (.r (.l (.l .h))))) none (.mv (.s (.l (.l (.r (.l (.l .h))))))),
  .p (.l (.r (.r (.l (.l .h))))) (some ((.r (.l (.r (.l (.l .h))))), true)) (.mv (.s .h)),
  .p (.r (.r (.r (.l (.l .h))))) (some ((.r (.l (.r (.l (.l .h))))), true)) (.mv (.s (.l .h))),
  .p (.l (.l (.l (.r (.l .h))))) (some ((.r (.l (.r (.l (.l .h))))), true)) (.sx (.s (.l (.r (.r (.l (.l .h)))))) (.s (.r (.r (.r (.l (.l .h))))))),
  .p (.r (.l (.l (.r (.l .h))))) (some ((.r (.l (.r (.l (.l .h))))), true)) (.cp .neq (.s (.l (.l (.l (.r (.l .h)))))) (.c (.a (.i .u8 (.n (nat_lit 10)))))),
  .p (.l (.r (.l (.r (.l .h))))) none (.pk (.s (.r (.l (.r (.l (.l .h)))))) (.s (.r (.l (.l (.r (.l .h)))))) (.c (.a (.b false))))])
 (.cond (.s (.l (.r (.l (.r (.l .h)))))) .skip (.ex (nat_lit 2))))
 (.blk (nat_lit 3) (.reg [.p (.r (.r (.l (.r (.l .h))))) none (.mv (.s (.l .h))),
  .p (.l (.l (.r (.r (.l .h))))) none (.ar .add (.s (.r (.r (.l (.r (.l .h)))))) (.c (.a (.i .i64 (.n (nat_lit 1)))))),
  .p (.l .h) none (.mv (.s (.l (.l (.r (.r (.l .h)))))))])))))
 (.ex (nat_lit 1))) .skip))
 (.seq (.seq (.reg [.p (.r (.l (.r (.r (.l .h))))) none (.mv (.s (.r (.l (.l .h))))),
  .p (.l (.r (.r (.r (.l .h))))) none (.cp .neq (.s (.r (.l (.r (.r (.l .h)))))) (.c (.a (.i .u8 (.n (nat_lit 32)))))),
  .p (.r (.r (.r (.r (.l .h))))) none (.mv (.s (.l (.r (.r (.r (.l .h))))))),
  .p (.l (.l (.l (.l (.r .h))))) (some ((.r (.r (.r (.r (.l .h))))), true)) (.mv (.s (.r (.l (.l .h))))),
  .p (.r (.l (.l (.l (.r .h))))) (some ((.r (.r (.r (.r (.l .h))))), true)) (.cp .neq (.s (.l (.l (.l (.l (.r .h)))))) (.c (.a (.i .u8 (.n (nat_lit 9)))))),
  .p (.l (.r (.l (.l (.r .h))))) none (.pk (.s (.r (.r (.r (.r (.l .h)))))) (.s (.r (.l (.l (.l (.r .h)))))) (.c (.a (.b false)))),
  .p (.r (.r (.l (.l (.r .h))))) none (.mv (.s (.l (.r (.l (.l (.r .h))))))),
  .p (.l (.l (.r (.l (.r .h))))) (some ((.r (.r (.l (.l (.r .h))))), true)) (.mv (.s (.r (.l (.l .h))))),
  .p (.r (.l (.r (.l (.r .h))))) (some ((.r (.r (.l (.l (.r .h))))), true)) (.cp .neq (.s (.l (.l (.r (.l (.r .h)))))) (.c (.a (.i .u8 (.n (nat_lit 13)))))),
  .p (.l (.r (.r (.l (.r .h))))) none (.pk (.s (.r (.r (.l (.l (.r .h)))))) (.s (.r (.l (.r (.l (.r .h)))))) (.c (.a (.b false)))),
  .p (.r (.r (.r (.l (.r .h))))) none (.mv (.s (.l (.r (.r (.l (.r .h))))))),
  .p (.l (.l (.l (.r (.r .h))))) (some ((.r (.r (.r (.l (.r .h))))), true)) (.mv (.s (.r (.l (.l .h))))),
  .p (.r (.l (.l (.r (.r .h))))) (some ((.r (.r (.r (.l (.r .h))))), true)) (.cp .neq (.s (.l (.l (.l (.r (.r .h)))))) (.c (.a (.i .u8 (.n (nat_lit 10)))))),
  .p (.l (.r (.l (.r (.r .h))))) none (.pk (.s (.r (.r (.r (.l (.r .h)))))) (.s (.r (.l (.l (.r (.r .h)))))) (.c (.a (.b false))))])
 (.cond (.s (.l (.r (.l (.r (.r .h)))))) (.seq (.reg [.p (.r (.r (.l (.r (.r .h))))) none (.mv (.s (.l .h))),
  .p (.l (.l (.r (.r (.r .h))))) none (.mv (.s (.r .h))),
  .p (.r (.r .h)) none (.mv (.s (.r (.r (.l (.r (.r .h))))))),
  .p (.l (.l (.l .h))) none (.mv (.s (.l (.l (.r (.r (.r .h)))))))])
 .rt) .skip))
 (.seq (.seq (.reg [.p (.r (.l (.r (.r (.r .h))))) none (.mv (.s (.r (.l (.l .h))))),
  .p (.l (.r (.r (.r (.r .h))))) none (.cp .eql (.s (.r (.l (.r (.r (.r .h)))))) (.c (.a (.i .u8 (.n (nat_lit 10))))))])
 (.cond (.s (.l (.r (.r (.r (.r .h)))))) (.reg [.p (.r (.r (.r (.r (.r .h))))) none (.mv (.s (.r .h))),
  .p (.l (.l (.l (.l (.l (.l .h)))))) none (.ar .add (.s (.r (.r (.r (.r (.r .h)))))) (.c (.a (.i .i64 (.n (nat_lit 1)))))),
  .p (.r .h) none (.mv (.s (.l (.l (.l (.l (.l (.l .h))))))))]) .skip))
 (.reg [.p (.r (.l (.l (.l (.l (.l .h)))))) none (.mv (.s (.l .h))),
  .p (.l (.r (.l (.l (.l (.l .h)))))) none (.ar .add (.s (.r (.l (.l (.l (.l (.l .h))))))) (.c (.a (.i .i64 (.n (nat_lit 1)))))),
  .p (.l .h) none (.mv (.s (.l (.r (.l (.l (.l (.l .h))))))))])))))))))
 (.seq (.reg [.p (.r (.r (.l (.l (.l (.l .h)))))) none (.mv (.s (.l .h))),
  .p (.l (.l (.r (.l (.l (.l .h)))))) none (.mv (.s (.r .h))),
  .p (.r (.r .h)) none (.mv (.s (.r (.r (.l (.l (.l (.l .h)))))))),
  .p (.l (.l (.l .h))) none (.mv (.s (.l (.l (.r (.l (.l (.l .h))))))))])
 .rt))), false, false⟩
noncomputable def rf28 : RF := ⟨[.h, (.l .h), (.r .h)], [.g (.r (.r .h)) (nat_lit 4), .s (.l (.l (.l .h))), .s (.r (.l (.l .h)))], (.seq (.reg [.a (.r (.r .h)) none (.al (nat_lit 98) (nat_lit 4) (.n (.n (.n .e (.i .i64 (.n (nat_lit 0))) .e) (.i .i64 (.n (nat_lit 0))) .e) (.i .i64 (.n (nat_lit 0))) (.n .e (.t (nat_lit 1)) .e))),
  .p (.l (.l (.l .h))) none (.mv (.c (.a (.i .i64 (.n (nat_lit 0)))))),
  .p (.r (.l (.l .h))) none (.mv (.c (.a (.i .i64 (.n (nat_lit 0))))))])
 (.seq (.reg [.p (.l (.r (.r .h))) none (.mv (.s (.l .h))),
  .p (.l (.r (.l .h))) none (.mv (.s (.l (.r (.r .h)))))])
 (.seq (.seq (.reg [.p (.r (.r (.r .h))) none (.mv (.s .h)),
  .p (.l (.l (.l (.l .h)))) none (.mv (.s (.l .h))),
  .p (.r (.l (.l (.l .h)))) none (.sx (.s (.r (.r (.r .h)))) (.s (.l (.l (.l (.l .h)))))),
  .k (some (.l (.r (.l (.l .h))))) none (nat_lit 53) (.l (.r (.r (.l (.r .h))))) [(.s (.r (.l (.l (.l .h)))))]])
 (.cond (.s (.l (.r (.l (.l .h))))) (.seq (.blk (nat_lit 0) (.loop (.seq (.seq (.reg [.p (.r (.r (.l (.l .h)))) none (.mv (.s (.l .h))),
  .p (.l (.l (.r (.l .h)))) none (.mv (.s .h)),
  .p (.r (.l (.r (.l .h)))) none (.sn (.s (.l (.l (.r (.l .h)))))),
  .p (.l (.r (.r (.l .h)))) none (.cp .lss (.s (.r (.r (.l (.l .h))))) (.s (.r (.l (.r (.l .h)))))),
  .p (.r (.r (.r (.l .h)))) none (.mv (.s (.l (.r (.r (.l .h)))))),
  .p (.l (.l (.l (.r .h)))) (some ((.r (.r (.r (.l .h)))), true)) (.mv (.s .h)),
  .p (.r (.l (.l (.r .h)))) (some ((.r (.r (.r (.l .h)))), true)) (.mv (.s (.l .h))),
  .p (.l (.r (.l (.r .h)))) (some ((.r (.r (.r (.l .h)))), true)) (.sx (.s (.l (.l (.l (.r .h))))) (.s (.r (.l (.l (.r .h)))))),
  .k (some (.r (.r (.l (.r .h))))) (some ((.r (.r (.r (.l .h)))), true)) (nat_lit 53) (.l (.r (.r (.l (.r .h))))) [(.s (.l (.r (.l (.r .h)))))],
  .p (.l (.l (.r (.r .h)))) (some ((.r (.r (.r (.l .h)))), true)) (.mv (.s (.r (.r (.l (.r .h)))))),
  .p (.r (.l (.r (.r .h)))) (some ((.l (.l (.r (.r .h)))), false)) (.mv (.s .h)),
  .p (.l (.r (.r (.r .h)))) (some ((.l (.l (.r (.r .h)))), false)) (.mv (.s (.l .h))),
  .p (.r (.r (.r (.r .h)))) (some ((.l (.l (.r (.r .h)))), false)) (.sx (.s (.r (.l (.r (.r .h))))) (.s (.l (.r (.r (.r .h)))))),
  .k (some (.l (.l (.l (.l (.l .h)))))) (some ((.l (.l (.r (.r .h)))), false)) (nat_lit 54) (.r (.r (.r (.l (.r .h))))) [(.s (.r (.r (.r (.r .h)))))],
  .p (.r (.l (.l (.l (.l .h))))) (some ((.r (.r (.r (.l .h)))), true)) (.pk (.s (.l (.l (.r (.r .h))))) (.c (.a (.b true))) (.s (.l (.l (.l (.l (.l .h))))))),
  .p (.l (.r (.l (.l (.l .h))))) none (.pk (.s (.r (.r (.r (.l .h))))) (.s (.r (.l (.l (.l (.l .h)))))) (.c (.a (.b false))))])
 (.cond (.s (.l (.r (.l (.l (.l .h)))))) .skip (.ex (nat_lit 0))))
 (.blk (nat_lit 1) (.reg [.p (.r (.r (.l (.l (.l .h))))) none (.mv (.s (.l .h))),
  .p (.l (.l (.r (.l (.l .h))))) none (.ar .add (.s (.r (.r (.l (.l (.l .h)))))) (.c (.a (.i .i64 (.n (nat_lit 1)))))),
  .p (.l .h) none (.mv (.s (.l (.l (.r (.l (.l .h)))))))])))))
 (.seq (.seq (.reg [.p (.r (.l (.r (.l (.l .h))))) none (.mv (.s (.l .h))),
  .p (.l (.r (.r (.l (.l .h))))) none (.mv (.s (.l (.r (.l .h))))),
  .p (.r (.r (.r (.l (.l .h))))) none (.ar .sub (.s (.r (.l (.r (.l (.l .h)))))) (.s (.l (.r (.r (.l (.l .h))))))),
  .p (.l (.l (.l (.r (.l .h))))) none (.cp .gtr (.s (.r (.r (.r (.l (.l .h)))))) (.c (.a (.i .i64 (.n (nat_lit 12))))))])
 (.cond (.s (.l (.l (.l (.r (.l .h)))))) (.seq (.reg [.p (.r (.l (.l (.r (.l .h))))) none (.bd [(.i .i64 (.n (nat_lit 0))), (.i .i64 (.n (nat_lit 0))), (.t (nat_lit 1)), (.i .i64 (.n (nat_lit 0)))] []),
  .c none none (.st (nat_lit 4) (.s (.r (.r .h))) (.s (.r (.l (.l (.r (.l .h))))))),
  .p (.l (.l (.l .h))) none (.mv (.c (.a (.i .i64 (.n (nat_lit 0)))))),
  .p (.r (.l (.l .h))) none (.mv (.c (.a (.i .i64 (.n (nat_lit 5))))))])
 .rt) .skip))
 (.seq (.reg [.p (.l (.r (.l (.r (.l .h))))) none (.mv (.s .h)),
  .p (.r (.r (.l (.r (.l .h))))) none (.mv (.s (.l (.r (.l .h))))),
  .p (.l (.l (.r (.r (.l .h))))) none (.mv (.s (.l .h))),
  .p (.r (.l (.r (.r (.l .h))))) none (.ss (.s (.l (.r (.l (.r (.l .h)))))) (some (.s (.r (.r (.l (.r (.l .h))))))) (some (.s (.l (.l (.r (.r (.l .h)))))))),
  .p (.r (.r (.l .h))) none (.mv (.s (.r (.l (.r (.r (.l .h)))))))])
 (.seq (.seq (.reg [.p (.l (.r (.r (.r (.l .h))))) none (.mv (.s (.r (.r (.l .h))))),
  .k (some (.r (.r (.r (.r (.l .h)))))) none (nat_lit 55) (.l (.l (.l (.r (.r .h))))) [(.s (.l (.r (.r (.r (.l .h))))))]])
 (.cond (.s (.r (.r (.r (.r (.l .h)))))) (.seq (.reg [.p (.l (.l (.l (.l (.r .h))))) none (.mv (.s (.r .h))),
  .p (.r (.l (.l (.l (.r .h))))) none (.mv (.s (.r (.r (.l .h))))),
  .p (.l (.r (.l (.l (.r .h))))) none (.bd [(.i .i64 (.n (nat_lit 0))), (.i .i64 (.n (nat_lit 0))), (.t (nat_lit 1)), (.i .i64 (.n (nat_lit 0)))] [((nat_lit 0), (nat_lit 1), (.c (.a (.i .i64 (.n (nat_lit 3)))))), ((nat_lit 1), (nat_lit 1), (.s (.l (.l (.l (.l (.r .h))))))), ((nat_lit 2), (nat_lit 1), (.s (.r (.l (.l (.l (.r .h)))))))]),
  .p (.r (.r (.l (.l (.r .h))))) none (.mv (.s (.l .h))),
  .c none none (.st (nat_lit 4) (.s (.r (.r .h))) (.s (.l (.r (.l (.l (.r .h))))))),
  .p (.l (.l (.l .h))) none (.mv (.s (.r (.r (.l (.l (.r .h))))))),
  .p (.r (.l (.l .h))) none (.mv (.c (.a (.i .i64 (.n (nat_lit 0))))))])
 .rt) .skip))
 (.seq (.reg [.p (.l (.l (.r (.l (.r .h))))) none (.mv (.s (.r .h))),
  .p (.r (.l (.r (.l (.r .h))))) none (.mv (.s (.r (.r (.l .h))))),
  .p (.l (.r (.r (.l (.r .h))))) none (.bd [(.i .i64 (.n (nat_lit 0))), (.i .i64 (.n (nat_lit 0))), (.t (nat_lit 1)), (.i .i64 (.n (nat_lit 0)))] [((nat_lit 0), (nat_lit 1), (.c (.a (.i .i64 (.n (nat_lit 1)))))), ((nat_lit 1), (nat_lit 1), (.s (.l (.l (.r (.l (.r .h))))))), ((nat_lit 2), (nat_lit 1), (.s (.r (.l (.r (.l (.r .h)))))))]),
  .p (.r (.r (.r (.l (.r .h))))) none (.mv (.s (.l .h))),
  .c none none (.st (nat_lit 4) (.s (.r (.r .h))) (.s (.l (.r (.r (.l (.r .h))))))),
  .p (.l (.l (.l .h))) none (.mv (.s (.r (.r (.r (.l (.r .h))))))),
  .p (.r (.l (.l .h))) none (.mv (.c (.a (.i .i64 (.n (nat_lit 0))))))])
 .rt))))) .skip))
 (.seq (.seq (.reg [.p (.l (.l (.l (.r (.r .h))))) none (.mv (.s .h)),
  .p (.r (.l (.l (.r (.r .h))))) none (.mv (.s (.l .h))),
  .p (.l (.r (.l (.r (.r .h))))) none (.sx (.s (.l (.l (.l (.r (.r .h)))))) (.s (.r (.l (.l (.r (.r .h))))))),
  .k (some (.r (.r (.l (.r (.r .h)))))) none (nat_lit 54) (.r (.r (.r (.l (.r .h))))) [(.s (.l (.r (.l (.r (.r .h))))))]])
 (.cond (.s (.r (.r (.l (.r (.r .h)))))) (.seq (.reg [.p (.l (.l (.r .h))) none (.mv (.c (.a (.i .i64 (.n (nat_lit 0))))))])
 (.seq (.blk (nat_lit 2) (.loop (.seq (.seq (.reg [.p (.l (.l (.r (.r (.r .h))))) none (.mv (.s (.l .h))),
  .p (.r (.l (.r (.r (.r .h))))) none (.mv (.s .h)),
  .p (.l (.r (.r (.r (.r .h))))) none (.sn (.s (.r (.l (.r (.r (.r .h))))))),
  .p (.r (.r (.r (.r (.r .h))))) none (.cp .lss (.s (.l (.l (.r (.r (.r .h)))))) (.s (.l (.r (.r (.r (.r .h))))))),
  .p (.l (.l (.l (.l (.l (.l .h)))))) none (.mv (.s (.r (.r (.r (.r (.r .h))))))),
  .p (.r (.l (.l (.l (.l (.l .h)))))) (some ((.l (.l (.l (.l (.l (.l .h)))))), true)) (.mv (.s .h)),
  .p (.l (.r (.l (.l (.l (.l .h)))))) (some ((.l (.l (.l (.l (.l (.l .h)))))), true)) (.mv (.s (.l .h))),
  .p (.r (.r (.l (.l (.l (.l .h)))))) (some ((.l (.l (.l (.l (.l (.l .h)))))), true)) (.sx (.s (.r (.l (.l (.l (.l (.l .h))))))) (.s (.l (.r (.l (.l (.l (.l .h)))))))),
  .k (some (.l (.l (.r (.l (.l (.l .h))))))) (some ((.l (.l (.l (.l (.l (.l .h)))))), true)) (nat_lit 54) (.r (.r (.r (.l (.r .h))))) [(.s (.r (.r (.l (.l (.l (.l .h)))))))],
  .p (.r (.l (.r (.l (.l (.l .h)))))) none (.pk (.s (.l (.l (.l (.l (.l (.l .h))))))) (.s (.l (.l (.r (.l (.l (.l .h))))))) (.c (.a (.b false))))])
 (.cond (.s (.r (.l (.r (.l (.l (.l .h))))))) .skip (.ex (nat_lit 2))))
 (.blk (nat_lit 3) (.seq (.seq (.reg [.p (.l (.r (.r (.l (.l (.l .h)))))) none (.mv (.s (.l .h))),
  .p (.r (.r (.r (.l (.l (.l .h)))))) none (.mv (.s (.l (.r (.l .h))))),
  .p (.l (.l (.l (.r (.l (.l .h)))))) none (.ar .sub (.s (.l (.r (.r (.l (.l (.l .h))))))) (.s (.r (.r (.r (.l (.l (.l .h)))))))),
  .p (.r (.l (.l (.r (.l (.l .h)))))) none (.cp .lss (.s (.l (.l (.l (.r (.l (.l .h))))))) (.c (.a (.i .i64 (.n (nat_lit 18))))))])
 (.cond (.s (.r (.l (.l (.r (.l (.l .h))))))) (.reg [.p (.l (.r (.l (.r (.l (.l .h)))))) none (.mv (.s (.l (.l (.r .h))))),
  .p (.r (.r (.l (.r (.l (.l .h)))))) none (.ar .mul (.c (.a (.i .i64 (.n (nat_lit 10))))) (.s (.l (.r (.l (.r (.l (.l .h)))))))),
  .p (.l (.l (.r (.r (.l (.l .h)))))) none (.mv (.s .h)),
  .p (.r (.l (.r (.r (.l (.l .h)))))) none (.mv (.s (.l .h))),
  .p (.l (.r (.r (.r (.l (.l .h)))))) none (.sx (.s (.l (.l (.r (.r (.l (.l .h))))))) (.s (.r (.l (.r (.r (.l (.l .h)))))))),
  .p (.r (.r (.r (.r (.l (.l .h)))))) none (.ar .sub (.s (.l (.r (.r (.r (.l (.l .h))))))) (.c (.a (.i .u8 (.n (nat_lit 48)))))),
  .p (.l (.l (.l (.l (.r (.l .h)))))) none (.cv .i64 (.s (.r (.r (.r (.r (.l (.l .h)))))))),
  .p (.r (.l (.l (.l (.r (.l .h)))))) none (.ar .add (.s (.r (.r (.l (.r (.l (.l .h))))))) (.s (.l (.l (.l (.l (.r (.l .h)))))))),
  .p (.l (.l (.r .h))) none (.mv (.s (.r (.l (.l (.l (.r (.l .h))))))))]) .skip))
 (.reg [.p (.l (.r (.l (.l (.r (.l .h)))))) none (.mv (.s (.l .h))),
  .p (.r (.r (.l (.l (.r (.l .h)))))) none (.ar .add (.s (.l (.r (.l (.l (.r (.l .h))))))) (.c (.a (.i .i64 (.n (nat_lit 1)))))),
  .p (.l .h) none (.mv (.s (.r (.r (.l (.l (.r (.l .h))))))))]))))))
 (.seq (.seq (.reg [.p (.l (.l (.r (.l (.r (.l .h)))))) none (.mv (.s (.l .h))),
  .p (.r (.l (.r (.l (.r (.l .h)))))) none (.mv (.s (.l (.r (.l .h))))),
  .p (.l (.r (.r (.l (.r (.l .h)))))) none (.ar .sub (.s (.l (.l (.r (.l (.r (.l .h))))))) (.s (.r (.l (.r (.l (.r (.l .h)))))))),
  .p (.r (.r (.r (.l (.r (.l .h)))))) none (.cp .gtr (.s (.l (.r (.r (.l (.r (.l .h))))))) (.c (.a (.i .i64 (.n (nat_lit 18))))))])
 (.cond (.s (.r (.r (.r (.l (.r (.l .h))))))) (.seq (.reg [.p (.l (.l (.l (.r (.r (.l .h)))))) none (.bd [(.i .i64 (.n (nat_lit 0))), (.i .i64 (.n (nat_lit 0))), (.t (nat_lit 1)), (.i .i64 (.n (nat_lit 0)))] []),
  .c none none (.st (nat_lit 4) (.s (.r (.r .h))) (.s (.l (.l (.l (.r (.r (.l .h)))))))),
  .p (.l (.l (.l .h))) none (.mv (.c (.a (.i .i64 (.n (nat_lit 0)))))),
  .p (.r (.l (.l .h))) none (.mv (.c (.a (.i .i64 (.n (nat_lit 5))))))])
 .rt) .skip))
 (.seq (.seq (.reg [.p (.r (.l (.l (.r (.r (.l .h)))))) none (.mv (.s (.l .h))),
  .p (.l (.r (.l (.r (.r (.l .h)))))) none (.mv (.s .h)),
  .p (.r (.r (.l (.r (.r (.l .h)))))) none (.sn (.s (.l (.r (.l (.r (.r (.l .h)))))))),
  .p (.l (.l (.r (.r (.r (.l .h)))))) none (.cp .lss (.s (.r (.l (.l (.r (.r (.l .h))))))) (.s (.r (.r (.l (.r (.r (.l .h)))))))),
  .p (.r (.l (.r (.r (.r (.l .h)))))) none (.mv (.s (.l (.l (.r (.r (.r (.l .h)))))))),
  .p (.l (.r (.r (.r (.r (.l .h)))))) (some ((.r (.l (.r (.r (.r (.l .h)))))), true)) (.mv (.s .h)),
  .p (.r (.r (.r (.r (.r (.l .h)))))) (some ((.r (.l (.r (.r (.r (.l .h)))))), true)) (.mv (.s (.l .h))),
  .p (.l (.l (.l (.l (.l (.r .h)))))) (some ((.r (.l (.r (.r (.r (.l .h)))))), true)) (.sx (.s (.l (.r (.r (.r (.r (.l .h))))))) (.s (.r (.r (.r (.r (.r (.l .h)))))))),
  .k (some (.r (.l (.l (.l (.l (.r .h))))))) (some ((.r (.l (.r (.r (.r (.l .h)))))), true)) (nat_lit 53) (.l (.r (.r (.l (.r .h))))) [(.s (.l (.l (.l (.l (.l (.r .h)))))))],
  .p (.l (.r (.l (.l (.l (.r .h)))))) none (.pk (.s (.r (.l (.r (.r (.r (.l .h))))))) (.s (.r (.l (.l (.l (.l (.r .h))))))) (.c (.a (.b false))))])
 (.cond (.s (.l (.r (.l (.l (.l (.r .h))))))) (.seq (.reg [.p (.r (.r (.l (.l (.l (.r .h)))))) none (.bd [(.i .i64 (.n (nat_lit 0))), (.i .i64 (.n (nat_lit 0))), (.t (nat_lit 1)), (.i .i64 (.n (nat_lit 0)))] []),
  .c none none (.st (nat_lit 4) (.s (.r (.r .h))) (.s (.r (.r (.l (.l (.l (.r .h)))))))),
  .p (.l (.l (.l .h))) none (.mv (.c (.a (.i .i64 (.n (nat_lit 0)))))),
  .p (.r (.l (.l .h))) none (.mv (.c (.a (.i .i64 (.n (nat_lit 6))))))])
 .rt) .skip))
 (.seq (.reg [.p (.l (.l (.r (.l (.l (.r .h)))))) none (.mv (.s (.r .h))),
  .p (.r (.l (.r (.l (.l (.r .h)))))) none (.mv (.s (.l (.l (.r .h))))),
  .p (.l (.r (.r (.l (.l (.r .h)))))) none (.bd [(.i .i64 (.n (nat_lit 0))), (.i .i64 (.n (nat_lit 0))), (.t (nat_lit 1)), (.i .i64 (.n (nat_lit 0)))] [((nat_lit 0), (nat_lit 1), (.c (.a (.i .i64 (.n (nat_lit 2)))))), ((nat_lit 1), (nat_lit 1), (.s (.l (.l (.r (.l (.l (.r .h)))))))), ((nat_lit 3), (nat_lit 1), (.s (.r (.l (.r (.l (.l (.r .h))))))))]),
  .p (.r (.r (.r (.l (.l (.r .h)))))) none (.mv (.s (.l .h))),
  .c none none (.st (nat_lit 4) (.s (.r (.r .h))) (.s (.l (.r (.r (.l (.l (.r .h)))))))),
  .p (.l (.l (.l .h))) none (.mv (.s (.r (.r (.r (.l (.l (.r .h)))))))),
  .p (.r (.l (.l .h))) none (.mv (.c (.a (.i .i64 (.n (nat_lit 0))))))])
 .rt))))) .skip))
 (.seq (.reg [.p (.l (.l (.l (.r (.l (.r .h)))))) none (.mv (.s .h)),
  .p (.r (.l (.l (.r (.l (.r .h)))))) none (.mv (.s (.l .h))),
  .k (some (.l (.r (.l (.r (.l (.r .h))))))) none (nat_lit 56) (.r (.l (.l (.r (.r .h))))) [(.s (.l (.l (.l (.r (.l (.r .h))))))), (.s (.r (.l (.l (.r (.l (.r .h)))))))],
  .p (.r (.l (.r .h))) none (.mv (.s (.l (.r (.l (.r (.l (.r .h))))))))])
 (.seq (.seq (.reg [.p (.r (.r (.l (.r (.l (.r .h)))))) none (.mv (.s (.r (.l (.r .h))))),
  .p (.l (.l (.r (.r (.l (.r .h)))))) none (.eq false false [(nat_lit 2)] (.s (.r (.r (.l (.r (.l (.r .h))))))) (.c (.a (.t (nat_lit 1)))))])
 (.cond (.s (.l (.l (.r (.r (.l (.r .h))))))) (.seq (.reg [.p (.r (.l (.r (.r (.l (.r .h)))))) none (.bd [(.i .i64 (.n (nat_lit 0))), (.i .i64 (.n (nat_lit 0))), (.t (nat_lit 1)), (.i .i64 (.n (nat_lit 0)))] []),
  .c none none (.st (nat_lit 4) (.s (.r (.r .h))) (.s (.r (.l (.r (.r (.l (.r .h)))))))),
  .p (.l (.l (.l .h))) none (.mv (.c (.a (.i .i64 (.n (nat_lit 0)))))),
  .p (.r (.l (.l .h))) none (.mv (.c (.a (.i .i64 (.n (nat_lit 6))))))])
 .rt) .skip))
 (.seq (.reg [.p (.l (.r (.r (.r (.l (.r .h)))))) none (.mv (.s (.r .h))),
  .p (.r (.r (.r (.r (.l (.r .h)))))) none (.mv (.s (.r (.l (.r .h))))),
  .p (.l (.l (.l (.l (.r (.r .h)))))) none (.bd [(.i .i64 (.n (nat_lit 0))), (.i .i64 (.n (nat_lit 0))), (.t (nat_lit 1)), (.i .i64 (.n (nat_lit 0)))] [((nat_lit 0), (nat_lit 1), (.c (.a (.i .i64 (.n (nat_lit 4)))))), ((nat_lit 1), (nat_lit 1), (.s (.l (.r (.r (.r (.l (.r .h)))))))), ((nat_lit 2), (nat_lit 1), (.s (.r (.r (.r (.r (.l (.r .h))))))))]),
  .p (.r (.l (.l (.l (.r (.r .h)))))) none (.mv (.s (.l .h))),
  .p (.l (.r (.l (.l (.r (.r .h)))))) none (.mv (.s (.r (.l (.r .h))))),
  .p (.r (.r (.l (.l (.r (.r .h)))))) none (.sn (.s (.l (.r (.l (.l (.r (.r .h)))))))),
  .p (.l (.l (.r (.l (.r (.r .h)))))) none (.ar .add (.s (.r (.l (.l (.l (.r (.r .h))))))) (.s (.r (.r (.l (.l (.r (.r .h)))))))),
  .c none none (.st (nat_lit 4) (.s (.r (.r .h))) (.s (.l (.l (.l (.l (.r (.r .h)))))))),
  .p (.l (.l (.l .h))) none (.mv (.s (.l (.l (.r (.l (.r (.r .h)))))))),
  .p (.r (.l (.l .h))) none (.mv (.c (.a (.i .i64 (.n (nat_lit 0))))))])
 .rt))))))), false, false⟩
noncomputable def rf29 : RF := ⟨[.h, (.l .h), (.r .h)], [.s (.r (.r .h))], (.seq (.reg [.p (.r (.r .h)) none (.mv (.c (.a (.b false))))])
 (.seq (.seq (.drw [⟨.p (.r (.l (.l .h))) none (.mv (.s .h)), (nat_lit 0), [], []⟩,
  ⟨.p (.l (.r (.l .h))) none (.nc (.s (.r (.l (.l .h))))), (nat_lit 1), [(nat_lit 0)], []⟩,
  ⟨.p (.r (.r (.l .h))) none (.fa (nat_lit 1) (.s (.l (.r (.l .h))))), (nat_lit 2), [(nat_lit 0), (nat_lit 1)], []⟩,
  ⟨.r (.l (.l (.r .h))) none (.ld (.s (.r (.r (.l .h))))), (nat_lit 3), [(nat_lit 0), (nat_lit 1), (nat_lit 2)], []⟩,
  ⟨.p (.r (.l (.r .h))) none (.mv (.s (.l .h))), (nat_lit 4), [], []⟩,
  ⟨.p (.l (.r (.r .h))) none (.ar .add (.s (.l (.l (.r .h)))) (.s (.r (.l (.r .h))))), (nat_lit 5), [(nat_lit 0), (nat_lit 1), (nat_lit 2), (nat_lit 3), (nat_lit 4)], []⟩,
  ⟨.p (.r (.r (.r .h))) none (.mv (.s .h)), (nat_lit 6), [], []⟩,
  ⟨.p (.l (.l (.l (.l .h)))) none (.nc (.s (.r (.r (.r .h))))), (nat_lit 7), [(nat_lit 6)], []⟩,
  ⟨.p (.r (.l (.l (.l .h)))) none (.fa (nat_lit 0) (.s (.l (.l (.l (.l .h)))))), (nat_lit 8), [(nat_lit 6), (nat_lit 7)], []⟩,
  ⟨.r (.l (.r (.l (.l .h)))) none (.ld (.s (.r (.l (.l (.l .h)))))), (nat_lit 9), [(nat_lit 6), (nat_lit 7), (nat_lit 8)], []⟩,
  ⟨.p (.r (.r (.l (.l .h)))) none (.ln (.s (.l (.r (.l (.l .h)))))), (nat_lit 10), [(nat_lit 6), (nat_lit 7), (nat_lit 8), (nat_lit 9)], []⟩,
  ⟨.p (.l (.l (.r (.l .h)))) none (.cp .geq (.s (.l (.r (.r .h)))) (.s (.r (.r (.l (.l .h)))))), (nat_lit 11), [(nat_lit 0), (nat_lit 1), (nat_lit 2), (nat_lit 3), (nat_lit 4), (nat_lit 5), (nat_lit 6), (nat_lit 7), (nat_lit 8), (nat_lit 9), (nat_lit 10)], []⟩])
 (.cond (.s (.l (.l (.r (.l .h))))) (.seq (.reg [.p (.r (.r .h)) none (.mv (.c (.a (.b false))))])
 .rt) .skip))
 (.seq (.drw [⟨.p (.r (.l (.r (.l .h)))) none (.mv (.s .h)), (nat_lit 0), [], []⟩,
  ⟨.p (.l (.r (.r (.l .h)))) none (.nc (.s (.r (.l (.r (.l .h)))))), (nat_lit 1), [(nat_lit 0)], []⟩,
  ⟨.p (.r (.r (.r (.l .h)))) none (.fa (nat_lit 0) (.s (.l (.r (.r (.l .h)))))), (nat_lit 2), [(nat_lit 0), (nat_lit 1)], []⟩,
  ⟨.r (.l (.l (.l (.r .h)))) none (.ld (.s (.r (.r (.r (.l .h)))))), (nat_lit 3), [(nat_lit 0), (nat_lit 1), (nat_lit 2)], []⟩,
  ⟨.p (.r (.l (.l (.r .h)))) none (.mv (.s .h)), (nat_lit 4), [], []⟩,
  ⟨.p (.l (.r (.l (.r .h)))) none (.nc (.s (.r (.l (.l (.r .h)))))), (nat_lit 5), [(nat_lit 4)], []⟩,
  ⟨.p (.r (.r (.l (.r .h)))) none (.fa (nat_lit 1) (.s (.l (.r (.l (.r .h)))))), (nat_lit 6), [(nat_lit 4), (nat_lit 5)], []⟩,
  ⟨.r (.l (.l (.r (.r .h)))) none (.ld (.s (.r (.r (.l (.r .h)))))), (nat_lit 7), [(nat_lit 4), (nat_lit 5), (nat_lit 6)], []⟩,
  ⟨.p (.r (.l (.r (.r .h)))) none (.mv (.s (.l .h))), (nat_lit 8), [], []⟩,
  ⟨.p (.l (.r (.r (.r .h)))) none (.ar .add (.s (.l (.l (.r (.r .h))))) (.s (.r (.l (.r (.r .h)))))), (nat_lit 9), [(nat_lit 4), (nat_lit 5), (nat_lit 6), (nat_lit 7), (nat_lit 8)], []⟩,
  ⟨.p (.r (.r (.r (.r .h)))) none (.ix (nat_lit 4) (.s (.l (.l (.l (.r .h))))) (.s (.l (.r (.r (.r .h)))))), (nat_lit 10), [(nat_lit 0), (nat_lit 1), (nat_lit 2), (nat_lit 3), (nat_lit 4), (nat_lit 5), (nat_lit 6), (nat_lit 7), (nat_lit 8), (nat_lit 9)], []⟩,
  ⟨.r (.l (.l (.l (.l (.l .h))))) none (.lg (nat_lit 4) (.s (.r (.r (.r (.r .h)))))), (nat_lit 11), [(nat_lit 0), (nat_lit 1), (nat_lit 2), (nat_lit 3), (nat_lit 4), (nat_lit 5), (nat_lit 6), (nat_lit 7), (nat_lit 8), (nat_lit 9), (nat_lit 10)], []⟩,
  ⟨.a (.l (.l (.l .h))) none (.al (nat_lit 98) (nat_lit 4) (.n (.n (.n .e (.i .i64 (.n (nat_lit 0))) .e) (.i .i64 (.n (nat_lit 0))) .e) (.i .i64 (.n (nat_lit 0))) (.n .e (.t (nat_lit 1)) .e))), (nat_lit 12), [], []⟩,
  ⟨.c none none (.st (nat_lit 4) (.s (.l (.l (.l .h)))) (.s (.l (.l (.l (.l (.l .h))))))), (nat_lit 13), [(nat_lit 0), (nat_lit 1), (nat_lit 2), (nat_lit 3), (nat_lit 4), (nat_lit 5), (nat_lit 6), (nat_lit 7), (nat_lit 8), (nat_lit 9), (nat_lit 10), (nat_lit 11), (nat_lit 12)], []⟩])
 (.seq (.reg [.p (.r (.l (.l (.l (.l .h))))) none (.fa (nat_lit 0) (.s (.l (.l (.l .h))))),
  .r (.l (.r (.l (.l (.l .h))))) none (.ld (.s (.r (.l (.l (.l (.l .h))))))),
  .p (.r (.r (.l (.l (.l .h))))) none (.cp .eql (.s (.l (.r (.l (.l (.l .h)))))) (.c (.a (.i .i64 (.n (nat_lit 3)))))),
  .p (.l (.l (.r (.l (.l .h))))) none (.mv (.s (.r (.r (.l (.l (.l .h))))))),
  .p (.r (.l (.r (.l (.l .h))))) (some ((.l (.l (.r (.l (.l .h))))), false)) (.fa (nat_lit 0) (.s (.l (.l (.l .h))))),
  .r (.l (.r (.r (.l (.l .h))))) (some ((.l (.l (.r (.l (.l .h))))), false)) (.ld (.s (.r (.l (.r (.l (.l .h))))))),
  .p (.r (.r (.r (.l (.l .h))))) (some ((.l (.l (.r (.l (.l .h))))), false)) (.cp .eql (.s (.l (.r (.r (.l (.l .h)))))) (.c (.a (.i .i64 (.n (nat_lit 4)))))),
  .p (.l (.l (.l (.r (.l .h))))) none (.pk (.s (.l (.l (.r (.l (.l .h)))))) (.c (.a (.b true))) (.s (.r (.r (.r (.l (.l .h))))))),
  .p (.r (.l (.l (.r (.l .h))))) none (.mv (.s (.l (.l (.l (.r (.l .h))))))),
  .p (.l (.r (.l (.r (.l .h))))) (some ((.r (.l (.l (.r (.l .h))))), true)) (.fa (nat_lit 2) (.s (.l (.l (.l .h))))),
  .r (.r (.r (.l (.r (.l .h))))) (some ((.r (.l (.l (.r (.l .h))))), true)) (.ld (.s (.l (.r (.l (.r (.l .h))))))),
  .p (.l (.l (.r (.r (.l .h))))) (some ((.r (.l (.l (.r (.l .h))))), true)) (.mv (.s (.r .h))),
  .p (.r (.l (.r (.r (.l .h))))) (some ((.r (.l (.l (.r (.l .h))))), true)) (.eq false false [(nat_lit 2)] (.s (.r (.r (.l (.r (.l .h)))))) (.s (.l (.l (.r (.r (.l .h))))))),
  .p (.l (.r (.r (.r (.l .h))))) none (.pk (.s (.r (.l (.l (.r (.l .h)))))) (.s (.r (.l (.r (.r (.l .h)))))) (.c (.a (.b false)))),
  .p (.r (.r .h)) none (.mv (.s (.l (.r (.r (.r (.l .h)))))))])
 .rt)))), false, false⟩
noncomputable def rf30 : RF := ⟨[.h], [.s (.r .h)], (.seq (.reg [.p (.r .h) none (.mv (.c (.a (.t (nat_lit 1)))))])
 (.seq (.seq (.reg [.p (.l (.l .h)) none (.mv (.s .h)),
  .p (.r (.l .h)) none (.nc (.s (.l (.l .h)))),
  .p (.l (.r .h)) none (.fa (nat_lit 3) (.s (.r (.l .h)))),
  .r (.r (.r .h)) none (.ld (.s (.l (.r .h)))),
  .p (.l (.l (.l .h))) none (.cp .neq (.s (.r (.r .h))) (.c (.a (.i .i64 (.n (nat_lit 0))))))])
 (.cond (.s (.l (.l (.l .h)))) (.seq (.reg [.p (.r .h) none (.mv (.c (.a (.t (nat_lit 1)))))])
 .rt) .skip))
 (.seq (.seq (.reg [.p (.r (.l (.l .h))) none (.mv (.s .h)),
  .k (some (.l (.r (.l .h)))) none (nat_lit 34) (.r (.r (.l (.l (.l .h))))) [(.s (.r (.l (.l .h)))), (.c (.a (.i .i64 (.n (nat_lit 0))))), (.c (.a (.i .i64 (.n (nat_lit 1)))))],
  .p (.r (.r (.l .h))) none (.nt (.s (.l (.r (.l .h)))))])
 (.cond (.s (.r (.r (.l .h)))) (.seq (.reg [.p (.l (.l (.r .h))) none (.mv (.s .h)),
  .k (some (.r (.l (.r .h)))) none (nat_lit 35) (.l (.l (.r (.l (.l .h))))) [(.s (.l (.l (.r .h)))), (.c (.a (.i .i64 (.n (nat_lit 7)))))]])
 (.seq (.reg [.p (.r .h) none (.mv (.c (.a (.t (nat_lit 1)))))])
 .rt)) .skip))
 (.seq (.reg [.p (.l (.r (.r .h))) none (.mv (.s .h)),
  .p (.r (.r (.r .h))) none (.nc (.s (.l (.r (.r .h))))),
  .p (.l (.l (.l (.l .h)))) none (.fa (nat_lit 1) (.s (.r (.r (.r .h))))),
  .r (.r (.l (.l (.l .h)))) none (.ld (.s (.l (.l (.l (.l .h)))))),
  .p (.l (.r (.l (.l .h)))) none (.ar .add (.s (.r (.l (.l (.l .h))))) (.c (.a (.i .i64 (.n (nat_lit 1)))))),
  .p (.r (.r (.l (.l .h)))) none (.nc (.s (.l (.r (.r .h))))),
  .p (.l (.l (.r (.l .h)))) none (.fa (nat_lit 1) (.s (.r (.r (.l (.l .h)))))),
  .c none none (.st (nat_lit 1) (.s (.l (.l (.r (.l .h))))) (.s (.l (.r (.l (.l .h))))))])
 (.seq (.drw [⟨.p (.r (.l (.r (.l .h)))) none (.mv (.s .h)), (nat_lit 0), [], []⟩,
  ⟨.p (.l (.r (.r (.l .h)))) none (.nc (.s (.r (.l (.r (.l .h)))))), (nat_lit 1), [(nat_lit 0)], []⟩,
  ⟨.p (.r (.r (.r (.l .h)))) none (.fa (nat_lit 0) (.s (.l (.r (.r (.l .h)))))), (nat_lit 2), [(nat_lit 0), (nat_lit 1)], []⟩,
  ⟨.r (.l (.l (.l (.r .h)))) none (.ld (.s (.r (.r (.r (.l .h)))))), (nat_lit 3), [(nat_lit 0), (nat_lit 1), (nat_lit 2)], []⟩,
  ⟨.p (.r (.l (.l (.r .h)))) none (.mv (.s .h)), (nat_lit 4), [], []⟩,
  ⟨.p (.l (.r (.l (.r .h)))) none (.nc (.s (.r (.l (.l (.r .h)))))), (nat_lit 5), [(nat_lit 4)], []⟩,
  ⟨.p (.r (.r (.l (.r .h)))) none (.fa (nat_lit 1) (.s (.l (.r (.l (.r .h)))))), (nat_lit 6), [(nat_lit 4), (nat_lit 5)], []⟩,
  ⟨.r (.l (.l (.r (.r .h)))) none (.ld (.s (.r (.r (.l (.r .h)))))), (nat_lit 7), [(nat_lit 4), (nat_lit 5), (nat_lit 6)], []⟩,
  ⟨.p (.r (.l (.r (.r .h)))) none (.ar .sub (.s (.l (.l (.r (.r .h))))) (.c (.a (.i .i64 (.n (nat_lit 1)))))), (nat_lit 8), [(nat_lit 4), (nat_lit 5), (nat_lit 6), (nat_lit 7)], []⟩,
  ⟨.p (.l (.r (.r (.r .h)))) none (.ix (nat_lit 4) (.s (.l (.l (.l (.r .h))))) (.s (.r (.l (.r (.r .h)))))), (nat_lit 9), [(nat_lit 0), (nat_lit 1), (nat_lit 2), (nat_lit 3), (nat_lit 4), (nat_lit 5), (nat_lit 6), (nat_lit 7), (nat_lit 8)], []⟩,
  ⟨.p (.r (.r (.r (.r .h)))) none (.fa (nat_lit 2) (.s (.l (.r (.r (.r .h)))))), (nat_lit 10), [(nat_lit 0), (nat_lit 1), (nat_lit 2), (nat_lit 3), (nat_lit 4), (nat_lit 5), (nat_lit 6), (nat_lit 7), (nat_lit 8), (nat_lit 9)], []⟩,
  ⟨.r (.l (.l (.l (.l (.l .h))))) none (.ld (.s (.r (.r (.r (.r .h)))))), (nat_lit 11), [(nat_lit 0), (nat_lit 1), (nat_lit 2), (nat_lit 3), (nat_lit 4), (nat_lit 5), (nat_lit 6), (nat_lit 7), (nat_lit 8), (nat_lit 9), (nat_lit 10)], []⟩,
  ⟨.p (.r .h) none (.mv (.s (.l (.l (.l (.l (.l .h))))))), (nat_lit 12), [(nat_lit 0), (nat_lit 1), (nat_lit 2), (nat_lit 3), (nat_lit 4), (nat_lit 5), (nat_lit 6), (nat_lit 7), (nat_lit 8), (nat_lit 9), (nat_lit 10), (nat_lit 11)], []⟩])
 .rt))))), false, false⟩
noncomputable def rf31 : RF := ⟨[.h, (.l .h)], [], (.seq (.seq (.reg [.p (.r (.l .h)) none (.mv (.s .h)),
  .p (.l (.r .h)) none (.nc (.s (.r (.l .h)))),
  .p (.r (.r .h)) none (.fa (nat_lit 3) (.s (.l (.r .h)))),
  .r (.l (.l (.l .h))) none (.ld (.s (.r (.r .h)))),
  .p (.r (.l (.l .h))) none (.cp .neq (.s (.l (.l (.l .h)))) (.c (.a (.i .i64 (.n (nat_lit 0))))))])
 (.cond (.s (.r (.l (.l .h)))) .rt .skip))
 (.seq (.seq (.reg [.p (.l (.r (.l .h))) none (.mv (.s .h)),
  .p (.r (.r (.l .h))) none (.mv (.s (.l .h))),
  .k (some (.l (.l (.r .h)))) none (nat_lit 29) (.l (.r (.r (.r .h)))) [(.s (.l (.r (.l .h)))), (.c (.a (.i .i64 (.n (nat_lit 0))))), (.s (.r (.r (.l .h))))],
  .p (.r (.l (.r .h))) none (.nt (.s (.l (.l (.r .h)))))])
 (.cond (.s (.r (.l (.r .h)))) (.seq (.reg [.p (.l (.r (.r .h))) none (.mv (.s .h)),
  .k (some (.r (.r (.r .h)))) none (nat_lit 35) (.l (.l (.r (.l (.l .h))))) [(.s (.l (.r (.r .h)))), (.c (.a (.i .i64 (.n (nat_lit 7)))))]])
 .rt) .skip))
 (.reg [.p (.l (.l (.l (.l .h)))) none (.mv (.s .h)),
  .p (.r (.l (.l (.l .h)))) none (.nc (.s (.l (.l (.l (.l .h)))))),
  .p (.l (.r (.l (.l .h)))) none (.fa (nat_lit 1) (.s (.r (.l (.l (.l .h)))))),
  .r (.r (.r (.l (.l .h)))) none (.ld (.s (.l (.r (.l (.l .h)))))),
  .p (.l (.l (.r (.l .h)))) none (.ar .add (.s (.r (.r (.l (.l .h))))) (.c (.a (.i .i64 (.n (nat_lit 1)))))),
  .p (.r (.l (.r (.l .h)))) none (.nc (.s (.l (.l (.l (.l .h)))))),
  .p (.l (.r (.r (.l .h)))) none (.fa (nat_lit 1) (.s (.r (.l (.r (.l .h)))))),
  .c none none (.st (nat_lit 1) (.s (.l (.r (.r (.l .h))))) (.s (.l (.l (.r (.l .h))))))]))), false, false⟩
noncomputable def rf32 : RF := ⟨[.h], [.s (.r .h)], (.seq (.reg [.p (.r .h) none (.mv (.c (.a .s0)))])
 (.seq (.reg [.p (.r (.l .h)) none (.mv (.s .h)),
  .k (some (.l (.r .h))) none (nat_lit 30) (.r (.r (.r (.r .h)))) [(.s (.r (.l .h)))],
  .a (.r (.r .h)) none (.bs (nat_lit 9) (nat_lit 1) [(.t (nat_lit 1))] [((nat_lit 0), (nat_lit 1), (.s (.l (.r .h))))]),
  .p (.l (.l .h)) none (.mv (.s (.r (.r .h))))])
 (.seq (.blk (nat_lit 0) (.loop (.seq (.seq (.reg [.p (.l (.l (.l .h))) none (.mv (.s .h)),
  .p (.r (.l (.l .h))) none (.nc (.s (.l (.l (.l .h))))),
  .p (.l (.r (.l .h))) none (.fa (nat_lit 3) (.s (.r (.l (.l .h))))),
  .r (.r (.r (.l .h))) none (.ld (.s (.l (.r (.l .h))))),
  .p (.l (.l (.r .h))) none (.cp .eql (.s (.r (.r (.l .h)))) (.c (.a (.i .i64 (.n (nat_lit 0)))))),
  .p (.r (.l (.r .h))) none (.mv (.s (.l (.l (.r .h))))),
  .p (.l (.r (.r .h))) (some ((.r (.l (.r .h))), true)) (.mv (.s .h)),
  .k (some (.r (.r (.r .h)))) (some ((.r (.l (.r .h))), true)) (nat_lit 29) (.l (.r (.r (.r .h)))) [(.s (.l (.r (.r .h)))), (.c (.a (.i .i64 (.n (nat_lit 0))))), (.c (.a (.t (nat_lit 300))))],
  .p (.l (.l (.l (.l .h)))) none (.pk (.s (.r (.l (.r .h)))) (.s (.r (.r (.r .h)))) (.c (.a (.b false))))])
 (.cond (.s (.l (.l (.l (.l .h))))) .skip (.ex (nat_lit 0))))
 (.blk (nat_lit 1) (.seq (.reg [.p (.r (.l (.l (.l .h)))) none (.mv (.s .h)),
  .k (some (.l (.r (.l (.l .h))))) none (nat_lit 31) (.l (.l (.l (.l (.l .h))))) [(.s (.r (.l (.l (.l .h))))), (.c (.a (.t (nat_lit 300))))]])
 (.reg [.p (.r (.r (.l (.l .h)))) none (.mv (.s (.l (.l .h)))),
  .p (.l (.l (.r (.l .h)))) none (.mv (.s .h)),
  .k (some (.r (.l (.r (.l .h))))) none (nat_lit 30) (.r (.r (.r (.r .h)))) [(.s (.l (.l (.r (.l .h)))))],
  .a (.l (.r (.r (.l .h)))) none (.bs (nat_lit 9) (nat_lit 1) [(.t (nat_lit 1))] [((nat_lit 0), (nat_lit 1), (.s (.r (.l (.r (.l .h))))))]),
  .c (some (.r (.r (.r (.l .h))))) none (.ap (nat_lit 9) (nat_lit 1) (nat_lit 16) (.s (.r (.r (.l (.l .h))))) (.s (.l (.r (.r (.l .h)))))),
  .p (.l (.l .h)) none (.mv (.s (.r (.r (.r (.l .h))))))]))))))
 (.seq (.reg [.p (.l (.l (.l (.r .h)))) none (.mv (.s (.l (.l .h)))),
  .p (.r .h) none (.mv (.s (.l (.l (.l (.r .h))))))])
 .rt)))), false, false⟩
noncomputable def rf33 : RF := ⟨[.h, (.l .h)], [.s (.r (.l .h)), .s (.l (.r .h))], (.seq (.reg [.p (.r (.l .h)) none (.mv (.c (.a .s0))),
  .p (.l (.r .h)) none (.mv (.c (.a (.i .i64 (.n (nat_lit 0))))))])
 (.seq (.reg [.p (.r (.r .h)) none (.mv (.c (.a .s0)))])
 (.seq (.reg [.p (.r (.l (.l .h))) none (.mv (.s .h)),
  .k (some (.l (.r (.l .h)))) none (nat_lit 31) (.l (.l (.l (.l (.l .h))))) [(.s (.r (.l (.l .h)))), (.c (.a (.t (nat_lit 379))))]])
 (.seq (.blk (nat_lit 0) (.loop (.seq (.seq (.reg [.p (.r (.r (.l .h))) none (.mv (.s .h)),
  .p (.l (.l (.r .h))) none (.nc (.s (.r (.r (.l .h))))),
  .p (.r (.l (.r .h))) none (.fa (nat_lit 3) (.s (.l (.l (.r .h))))),
  .r (.l (.r (.r .h))) none (.ld (.s (.r (.l (.r .h))))),
  .p (.r (.r (.r .h))) none (.cp .eql (.s (.l (.r (.r .h)))) (.c (.a (.i .i64 (.n (nat_lit 0)))))),
  .p (.l (.l (.l (.l .h)))) none (.mv (.s (.r (.r (.r .h))))),
  .p (.r (.l (.l (.l .h)))) (some ((.l (.l (.l (.l .h)))), true)) (.mv (.s .h)),
  .k (some (.l (.r (.l (.l .h))))) (some ((.l (.l (.l (.l .h)))), true)) (nat_lit 29) (.l (.r (.r (.r .h)))) [(.s (.r (.l (.l (.l .h))))), (.c (.a (.i .i64 (.n (nat_lit 0))))), (.c (.a (.t (nat_lit 381))))],
  .p (.r (.r (.l (.l .h)))) (some ((.l (.l (.l (.l .h)))), true)) (.nt (.s (.l (.r (.l (.l .h)))))),
  .p (.l (.l (.r (.l .h)))) none (.pk (.s (.l (.l (.l (.l .h))))) (.s (.r (.r (.l (.l .h))))) (.c (.a (.b false))))])
 (.cond (.s (.l (.l (.r (.l .h))))) .skip (.ex (nat_lit 0))))
 (.blk (nat_lit 1) (.seq (.reg [.p (.r (.l (.r (.l .h)))) none (.mv (.s .h)),
  .k (some (.l (.r (.r (.l .h))))) none (nat_lit 57) (.l (.r (.l (.r (.r .h))))) [(.s (.r (.l (.r (.l .h)))))],
  .p (.r (.r (.r (.l .h)))) none (.nt (.s (.l (.r (.r (.l .h))))))])
 (.cond (.s (.r (.r (.r (.l .h))))) (.reg [.p (.l (.l (.l (.r .h)))) none (.mv (.s .h)),
  .k (some (.r (.l (.l (.r .h))))) none (nat_lit 35) (.l (.l (.r (.l (.l .h))))) [(.s (.l (.l (.l (.r .h))))), (.c (.a (.i .i64 (.n (nat_lit 7)))))]]) (.seq (.reg [.p (.l (.r (.l (.r .h)))) none (.mv (.s (.l .h))),
  .p (.r (.r (.l (.r .h)))) none (.cp .gtr (.s (.l (.r (.l (.r .h))))) (.c (.a (.i .i64 (.n (nat_lit 8))))))])
 (.cond (.s (.r (.r (.l (.r .h))))) (.reg [.p (.l (.l (.r (.r .h)))) none (.mv (.s .h)),
  .k (some (.r (.l (.r (.r .h))))) none (nat_lit 35) (.l (.l (.r (.l (.l .h))))) [(.s (.l (.l (.r (.r .h))))), (.c (.a (.i .i64 (.n (nat_lit 5)))))]]) (.reg [.p (.l (.r (.r (.r .h)))) none (.mv (.s (.r (.r .h)))),
  .p (.r (.r (.r (.r .h)))) none (.mv (.s .h)),
  .p (.l (.l (.l (.l (.l .h))))) none (.mv (.s (.l .h))),
  .k (some (.r (.l (.l (.l (.l .h)))))) none (nat_lit 58) (.r (.r (.l (.r (.r .h))))) [(.s (.r (.r (.r (.r .h))))), (.s (.l (.l (.l (.l (.l .h))))))],
  .a (.l (.r (.l (.l (.l .h))))) none (.bs (nat_lit 114) (nat_lit 1) [(.i .i64 (.n (nat_lit 0))), (.i .i64 (.n (nat_lit 0))), (.i .i64 (.n (nat_lit 0))), (.t (nat_lit 1)), (.t (nat_lit 1)), (.i .i64 (.n (nat_lit 0))), (.i .i64 (.n (nat_lit 0))), .s0, (.t (nat_lit 1)), (.i .i64 (.n (nat_lit 0))), .s0, .s0, .s0] [((nat_lit 0), (nat_lit 13), (.s (.r (.l (.l (.l (.l .h)))))))]),
  .c (some (.r (.r (.l (.l (.l .h)))))) none (.ap (nat_lit 114) (nat_lit 13) (nat_lit 192) (.s (.l (.r (.r (.r .h))))) (.s (.l (.r (.l (.l (.l .h))))))),
  .p (.r (.r .h)) none (.mv (.s (.r (.r (.l (.l (.l .h)))))))])))))))))
 (.seq (.reg [.p (.l (.l (.l .h))) none (.mv (.c (.a (.i .i64 (.n (nat_lit 0))))))])
 (.seq (.seq (.reg [.p (.l (.l (.r (.l (.l .h))))) none (.mv (.s .h)),
  .p (.r (.l (.r (.l (.l .h))))) none (.nc (.s (.l (.l (.r (.l (.l .h))))))),
  .p (.l (.r (.r (.l (.l .h))))) none (.fa (nat_lit 3) (.s (.r (.l (.r (.l (.l .h))))))),
  .r (.r (.r (.r (.l (.l .h))))) none (.ld (.s (.l (.r (.r (.l (.l .h))))))),
  .p (.l (.l (.l (.r (.l .h))))) none (.cp .eql (.s (.r (.r (.r (.l (.l .h)))))) (.c (.a (.i .i64 (.n (nat_lit 0))))))])
 (.cond (.s (.l (.l (.l (.r (.l .h)))))) (.drw [⟨.p (.r (.l (.l (.r (.l .h))))) none (.mv (.s .h)), (nat_lit 0), [], []⟩,
  ⟨.p (.l (.r (.l (.r (.l .h))))) none (.nc (.s (.r (.l (.l (.r (.l .h))))))), (nat_lit 1), [(nat_lit 0)], []⟩,
  ⟨.p (.r (.r (.l (.r (.l .h))))) none (.fa (nat_lit 0) (.s (.l (.r (.l (.r (.l .h))))))), (nat_lit 2), [(nat_lit 0), (nat_lit 1)], []⟩,
  ⟨.r (.l (.l (.r (.r (.l .h))))) none (.ld (.s (.r (.r (.l (.r (.l .h))))))), (nat_lit 3), [(nat_lit 0), (nat_lit 1), (nat_lit 2)], []⟩,
  ⟨.p (.r (.l (.r (.r (.l .h))))) none (.mv (.s .h)), (nat_lit 4), [], []⟩,
  ⟨.p (.l (.r (.r (.r (.l .h))))) none (.nc (.s (.r (.l (.r (.r (.l .h))))))), (nat_lit 5), [(nat_lit 4)], []⟩,
  ⟨.p (.r (.r (.r (.r (.l .h))))) none (.fa (nat_lit 1) (.s (.l (.r (.r (.r (.l .h))))))), (nat_lit 6), [(nat_lit 4), (nat_lit 5)], []⟩,
  ⟨.r (.l (.l (.l (.l (.r .h))))) none (.ld (.s (.r (.r (.r (.r (.l .h))))))), (nat_lit 7), [(nat_lit 4), (nat_lit 5), (nat_lit 6)], []⟩,
  ⟨.p (.r (.l (.l (.l (.r .h))))) none (.ix (nat_lit 4) (.s (.l (.l (.r (.r (.l .h)))))) (.s (.l (.l (.l (.l (.r .h))))))), (nat_lit 8), [(nat_lit 0), (nat_lit 1), (nat_lit 2), (nat_lit 3), (nat_lit 4), (nat_lit 5), (nat_lit 6), (nat_lit 7)], []⟩,
  ⟨.p (.l (.r (.l (.l (.r .h))))) none (.fa (nat_lit 1) (.s (.r (.l (.l (.l (.r .h))))))), (nat_lit 9), [(nat_lit 0), (nat_lit 1), (nat_lit 2), (nat_lit 3), (nat_lit 4), (nat_lit 5), (nat_lit 6), (nat_lit 7), (nat_lit 8)], []⟩,
  ⟨.r (.r (.r (.l (.l (.r .h))))) none (.ld (.s (.l (.r (.l (.l (.r .h))))))), (nat_lit 10), [(nat_lit 0), (nat_lit 1), (nat_lit 2), (nat_lit 3), (nat_lit 4), (nat_lit 5), (nat_lit 6), (nat_lit 7), (nat_lit 8), (nat_lit 9)], []⟩,
  ⟨.p (.l (.l (.l .h))) none (.mv (.s (.r (.r (.l (.l (.r .h))))))), (nat_lit 11), [(nat_lit 0), (nat_lit 1), (nat_lit 2), (nat_lit 3), (nat_lit 4), (nat_lit 5), (nat_lit 6), (nat_lit 7), (nat_lit 8), (nat_lit 9), (nat_lit 10)], []⟩]) .skip))
 (.seq (.reg [.p (.l (.l (.r (.l (.r .h))))) none (.mv (.s .h)),
  .k (some (.r (.l (.r (.l (.r .h)))))) none (nat_lit 31) (.l (.l (.l (.l (.l .h))))) [(.s (.l (.l (.r (.l (.r .h)))))), (.c (.a (.t (nat_lit 381))))]])
 (.seq (.reg [.p (.l (.r (.r (.l (.r .h))))) none (.mv (.s (.r (.r .h)))),
  .p (.r (.r (.r (.l (.r .h))))) none (.mv (.s (.l (.l (.l .h))))),
  .p (.r (.l .h)) none (.mv (.s (.l (.r (.r (.l (.r .h))))))),
  .p (.l (.r .h)) none (.mv (.s (.r (.r (.r (.l (.r .h)))))))])
 .rt)))))))), false, false⟩
noncomputable def rf34 : RF := ⟨[.h, (.l .h), (.r .h)], [.s (.r (.r .h))], (.seq (.reg [.p (.r (.r .h)) none (.mv (.c (.a (.b false))))])
 (.seq (.drw [⟨.p (.l (.l (.l .h))) none (.mv (.s .h)), (nat_lit 0), [], []⟩,
  ⟨.p (.r (.l (.l .h))) none (.nc (.s (.l (.l (.l .h))))), (nat_lit 1), [(nat_lit 0)], []⟩,
  ⟨.p (.l (.r (.l .h))) none (.fa (nat_lit 1) (.s (.r (.l (.l .h))))), (nat_lit 2), [(nat_lit 0), (nat_lit 1)], []⟩,
  ⟨.r (.r (.r (.l .h))) none (.ld (.s (.l (.r (.l .h))))), (nat_lit 3), [(nat_lit 0), (nat_lit 1), (nat_lit 2)], []⟩,
  ⟨.p (.l (.l (.r .h))) none (.mv (.s (.l .h))), (nat_lit 4), [], []⟩,
  ⟨.p (.r (.l (.r .h))) none (.ar .add (.s (.r (.r (.l .h)))) (.s (.l (.l (.r .h))))), (nat_lit 5), [(nat_lit 0), (nat_lit 1), (nat_lit 2), (nat_lit 3), (nat_lit 4)], []⟩,
  ⟨.p (.l (.r (.r .h))) none (.mv (.s .h)), (nat_lit 6), [], []⟩,
  ⟨.p (.r (.r (.r .h))) none (.nc (.s (.l (.r (.r .h))))), (nat_lit 7), [(nat_lit 6)], []⟩,
  ⟨.p (.l (.l (.l (.l .h)))) none (.fa (nat_lit 0) (.s (.r (.r (.r .h))))), (nat_lit 8), [(nat_lit 6), (nat_lit 7)], []⟩,
  ⟨.r (.r (.l (.l (.l .h)))) none (.ld (.s (.l (.l (.l (.l .h)))))), (nat_lit 9), [(nat_lit 6), (nat_lit 7), (nat_lit 8)], []⟩,
  ⟨.p (.l (.r (.l (.l .h)))) none (.ln (.s (.r (.l (.l (.l .h)))))), (nat_lit 10), [(nat_lit 6), (nat_lit 7), (nat_lit 8), (nat_lit 9)], []⟩,
  ⟨.p (.r (.r (.l (.l .h)))) none (.cp .lss (.s (.r (.l (.r .h)))) (.s (.l (.r (.l (.l .h)))))), (nat_lit 11), [(nat_lit 0), (nat_lit 1), (nat_lit 2), (nat_lit 3), (nat_lit 4), (nat_lit 5), (nat_lit 6), (nat_lit 7), (nat_lit 8), (nat_lit 9), (nat_lit 10)], []⟩,
  ⟨.p (.l (.l (.r (.l .h)))) none (.mv (.s (.r (.r (.l (.l .h)))))), (nat_lit 12), [(nat_lit 0), (nat_lit 1), (nat_lit 2), (nat_lit 3), (nat_lit 4), (nat_lit 5), (nat_lit 6), (nat_lit 7), (nat_lit 8), (nat_lit 9), (nat_lit 10), (nat_lit 11)], []⟩,
  ⟨.p (.r (.l (.r (.l .h)))) (some ((.l (.l (.r (.l .h)))), true)) (.mv (.s .h)), (nat_lit 13), [(nat_lit 0), (nat_lit 1), (nat_lit 2), (nat_lit 3), (nat_lit 4), (nat_lit 5), (nat_lit 6), (nat_lit 7), (nat_lit 8), (nat_lit 9), (nat_lit 10), (nat_lit 11), (nat_lit 12)], []⟩,
  ⟨.p (.l (.r (.r (.l .h)))) (some ((.l (.l (.r (.l .h)))), true)) (.nc (.s (.r (.l (.r (.l .h)))))), (nat_lit 14), [(nat_lit 0), (nat_lit 1), (nat_lit 2), (nat_lit 3), (nat_lit 4), (nat_lit 5), (nat_lit 6), (nat_lit 7), (nat_lit 8), (nat_lit 9), (nat_lit 10), (nat_lit 11), (nat_lit 12), (nat_lit 13)], []⟩,
  ⟨.p (.r (.r (.r (.l .h)))) (some ((.l (.l (.r (.l .h)))), true)) (.fa (nat_lit 0) (.s (.l (.r (.r (.l .h)))))), (nat_lit 15), [(nat_lit 0), (nat_lit 1), (nat_lit 2), (nat_lit 3), (nat_lit 4), (nat_lit 5), (nat_lit 6), (nat_lit 7), (nat_lit 8), (nat_lit 9), (nat_lit 10), (nat_lit 11), (nat_lit 12), (nat_lit 13), (nat_lit 14)], []⟩,
  ⟨.r (.l (.l (.l (.r .h)))) (some ((.l (.l (.r (.l .h)))), true)) (.ld (.s (.r (.r (.r (.l .h)))))), (nat_lit 16), [(nat_lit 0), (nat_lit 1), (nat_lit 2), (nat_lit 3), (nat_lit 4), (nat_lit 5), (nat_lit 6), (nat_lit 7), (nat_lit 8), (nat_lit 9), (nat_lit 10), (nat_lit 11), (nat_lit 12), (nat_lit 13), (nat_lit 14), (nat_lit 15)], []⟩,
  ⟨.p (.r (.l (.l (.r .h)))) (some ((.l (.l (.r (.l .h)))), true)) (.mv (.s .h)), (nat_lit 17), [(nat_lit 0), (nat_lit 1), (nat_lit 2), (nat_lit 3), (nat_lit 4), (nat_lit 5), (nat_lit 6), (nat_lit 7), (nat_lit 8), (nat_lit 9), (nat_lit 10), (nat_lit 11), (nat_lit 12)], []⟩,
  ⟨.p (.l (.r (.l (.r .h)))) (some ((.l (.l (.r (.l .h)))), true)) (.nc (.s (.r (.l (.l (.r .h)))))), (nat_lit 18), [(nat_lit 0), (nat_lit 1), (nat_lit 2), (nat_lit 3), (nat_lit 4), (nat_lit 5), (nat_lit 6), (nat_lit 7), (nat_lit 8), (nat_lit 9), (nat_lit 10), (nat_lit 11), (nat_lit 12), (nat_lit 17)], []⟩,
  ⟨.p (.r (.r (.l (.r .h)))) (some ((.l (.l (.r (.l .h)))), true)) (.fa (nat_lit 1) (.s (.l (.r (.l (.r .h)))))), (nat_lit 19), [(nat_lit 0), (nat_lit 1), (nat_lit 2), (nat_lit 3), (nat_lit 4), (nat_lit 5), (nat_lit 6), (nat_lit 7), (nat_lit 8), (nat_lit 9), (nat_lit 10), (nat_lit 11), (nat_lit 12), (nat_lit 17), (nat_lit 18)], []⟩,
  ⟨.r (.l (.l (.r (.r .h)))) (some ((.l (.l (.r (.l .h)))), true)) (.ld (.s (.r (.r (.l (.r .h)))))), (nat_lit 20), [(nat_lit 0), (nat_lit 1), (nat_lit 2), (nat_lit 3), (nat_lit 4), (nat_lit 5), (nat_lit 6), (nat_lit 7), (nat_lit 8), (nat_lit 9), (nat_lit 10), (nat_lit 11), (nat_lit 12), (nat_lit 17), (nat_lit 18), (nat_lit 19)], []⟩,
  ⟨.p (.r (.l (.r (.r .h)))) (some ((.l (.l (.r (.l .h)))), true)) (.mv (.s (.l .h))), (nat_lit 21), [(nat_lit 0), (nat_lit 1), (nat_lit 2), (nat_lit 3), (nat_lit 4), (nat_lit 5), (nat_lit 6), (nat_lit 7), (nat_lit 8), (nat_lit 9), (nat_lit 10), (nat_lit 11), (nat_lit 12)], []⟩,
  ⟨.p (.l (.r (.r (.r .h)))) (some ((.l (.l (.r (.l .h)))), true)) (.ar .add (.s (.l (.l (.r (.r .h))))) (.s (.r (.l (.r (.r .h)))))), (nat_lit 22), [(nat_lit 0), (nat_lit 1), (nat_lit 2), (nat_lit 3), (nat_lit 4), (nat_lit 5), (nat_lit 6), (nat_lit 7), (nat_lit 8), (nat_lit 9), (nat_lit 10), (nat_lit 11), (nat_lit 12), (nat_lit 17), (nat_lit 18), (nat_lit 19), (nat_lit 20), (nat_lit 21)], []⟩,
  ⟨.p (.r (.r (.r (.r .h)))) (some ((.l (.l (.r (.l .h)))), true)) (.ix (nat_lit 4) (.s (.l (.l (.l (.r .h))))) (.s (.l (.r (.r (.r .h)))))), (nat_lit 23), [(nat_lit 0), (nat_lit 1), (nat_lit 2), (nat_lit 3), (nat_lit 4), (nat_lit 5), (nat_lit 6), (nat_lit 7), (nat_lit 8), (nat_lit 9), (nat_lit 10), (nat_lit 11), (nat_lit 12), (nat_lit 13), (nat_lit 14), (nat_lit 15), (nat_lit 16), (nat_lit 17), (nat_lit 18), (nat_lit 19), (nat_lit 20), (nat_lit 21), (nat_lit 22)], []⟩,
  ⟨.p (.l (.l (.l (.l (.l .h))))) (some ((.l (.l (.r (.l .h)))), true)) (.fa (nat_lit 0) (.s (.r (.r (.r (.r .h)))))), (nat_lit 24), [(nat_lit 0), (nat_lit 1), (nat_lit 2), (nat_lit 3), (nat_lit 4), (nat_lit 5), (nat_lit 6), (nat_lit 7), (nat_lit 8), (nat_lit 9), (nat_lit 10), (nat_lit 11), (nat_lit 12), (nat_lit 13), (nat_lit 14), (nat_lit 15), (nat_lit 16), (nat_lit 17), (nat_lit 18), (nat_lit 19), (nat_lit 20), (nat_lit 21), (nat_lit 22), (nat_lit 23)], []⟩,
  ⟨.r (.r (.l (.l (.l (.l .h))))) (some ((.l (.l (.r (.l .h)))), true)) (.ld (.s (.l (.l (.l (.l (.l .h))))))), (nat_lit 25), [(nat_lit 0), (nat_lit 1), (nat_lit 2), (nat_lit 3), (nat_lit 4), (nat_lit 5), (nat_lit 6), (nat_lit 7), (nat_lit 8), (nat_lit 9), (nat_lit 10), (nat_lit 11), (nat_lit 12), (nat_lit 13), (nat_lit 14), (nat_lit 15), (nat_lit 16), (nat_lit 17), (nat_lit 18), (nat_lit 19), (nat_lit 20), (nat_lit 21), (nat_lit 22), (nat_lit 23), (nat_lit 24)], []⟩,
  ⟨.p (.l (.r (.l (.l (.l .h))))) (some ((.l (.l (.r (.l .h)))), true)) (.mv (.s (.r .h))), (nat_lit 26), [(nat_lit 0), (nat_lit 1), (nat_lit 2), (nat_lit 3), (nat_lit 4), (nat_lit 5), (nat_lit 6), (nat_lit 7), (nat_lit 8), (nat_lit 9), (nat_lit 10), (nat_lit 11), (nat_lit 12)], []⟩,
  ⟨.p (.r (.r (.l (.l (.l .h))))) (some ((.l (.l (.r (.l .h)))), true)) (.cp .eql (.s (.r (.l (.l (.l (.l .h)))))) (.s (.l (.r (.l (.l (.l .h))))))), (nat_lit 27), [(nat_lit 0), (nat_lit 1), (nat_lit 2), (nat_lit 3), (nat_lit 4), (nat_lit 5), (nat_lit 6), (nat_lit 7), (nat_lit 8), (nat_lit 9), (nat_lit 10), (nat_lit 11), (nat_lit 12), (nat_lit 13), (nat_lit 14), (nat_lit 15), (nat_lit 16), (nat_lit 17), (nat_lit 18), (nat_lit 19), (nat_lit 20), (nat_lit 21), (nat_lit 22), (nat_lit 23), (nat_lit 24), (nat_lit 25), (nat_lit 26)], []⟩,
  ⟨.p (.l (.l (.r (.l (.l .h))))) none (.pk (.s (.l (.l (.r (.l .h))))) (.s (.r (.r (.l (.l (.l .h)))))) (.c (.a (.b false)))), (nat_lit 28), [(nat_lit 0), (nat_lit 1), (nat_lit 2), (nat_lit 3), (nat_lit 4), (nat_lit 5), (nat_lit 6), (nat_lit 7), (nat_lit 8), (nat_lit 9), (nat_lit 10), (nat_lit 11), (nat_lit 12), (nat_lit 13), (nat_lit 14), (nat_lit 15), (nat_lit 16), (nat_lit 17), (nat_lit 18), (nat_lit 19), (nat_lit 20), (nat_lit 21), (nat_lit 22), (nat_lit 23), (nat_lit 24), (nat_lit 25), (nat_lit 26), (nat_lit 27)], []⟩,
  ⟨.p (.r (.r .h)) none (.mv (.s (.l (.l (.r (.l (.l .h))))))), (nat_lit 29), [(nat_lit 0), (nat_lit 1), (nat_lit 2), (nat_lit 3), (nat_lit 4), (nat_lit 5), (nat_lit 6), (nat_lit 7), (nat_lit 8), (nat_lit 9), (nat_lit 10), (nat_lit 11), (nat_lit 12), (nat_lit 13), (nat_lit 14), (nat_lit 15), (nat_lit 16), (nat_lit 17), (nat_lit 18), (nat_lit 19), (nat_lit 20), (nat_lit 21), (nat_lit 22), (nat_lit 23), (nat_lit 24), (nat_lit 25), (nat_lit 26), (nat_lit 27), (nat_lit 28)], []⟩])
 .rt)), false, false⟩
noncomputable def rf35 : RF := ⟨[.h, (.l .h)], [], (.seq (.reg [.p (.r (.l .h)) none (.mv (.s .h)),
  .p (.l (.r .h)) none (.nc (.s (.r (.l .h)))),
  .p (.r (.r .h)) none (.fa (nat_lit 3) (.s (.l (.r .h)))),
  .r (.l (.l (.l .h))) none (.ld (.s (.r (.r .h)))),
  .p (.r (.l (.l .h))) none (.cp .eql (.s (.l (.l (.l .h)))) (.c (.a (.i .i64 (.n (nat_lit 0))))))])
 (.cond (.s (.r (.l (.l .h)))) (.drw [⟨.p (.l (.r (.l .h))) none (.mv (.s .h)), (nat_lit 0), [], []⟩,
  ⟨.p (.r (.r (.l .h))) none (.mv (.s .h)), (nat_lit 1), [], []⟩,
  ⟨.p (.l (.l (.r .h))) none (.mv (.s (.l .h))), (nat_lit 2), [], []⟩,
  ⟨.p (.r (.l (.r .h))) none (.mv (.s .h)), (nat_lit 3), [], []⟩,
  ⟨.p (.l (.r (.r .h))) none (.nc (.s (.r (.l (.r .h))))), (nat_lit 4), [(nat_lit 3)], []⟩,
  ⟨.p (.r (.r (.r .h))) none (.fa (nat_lit 0) (.s (.l (.r (.r .h))))), (nat_lit 5), [(nat_lit 3), (nat_lit 4)], []⟩,
  ⟨.r (.l (.l (.l (.l .h)))) none (.ld (.s (.r (.r (.r .h))))), (nat_lit 6), [(nat_lit 3), (nat_lit 4), (nat_lit 5)], []⟩,
  ⟨.p (.r (.l (.l (.l .h)))) none (.mv (.s .h)), (nat_lit 7), [], []⟩,
  ⟨.p (.l (.r (.l (.l .h)))) none (.nc (.s (.r (.l (.l (.l .h)))))), (nat_lit 8), [(nat_lit 7)], []⟩,
  ⟨.p (.r (.r (.l (.l .h)))) none (.fa (nat_lit 1) (.s (.l (.r (.l (.l .h)))))), (nat_lit 9), [(nat_lit 7), (nat_lit 8)], []⟩,
  ⟨.r (.l (.l (.r (.l .h)))) none (.ld (.s (.r (.r (.l (.l .h)))))), (nat_lit 10), [(nat_lit 7), (nat_lit 8), (nat_lit 9)], []⟩,
  ⟨.p (.r (.l (.r (.l .h)))) none (.ix (nat_lit 4) (.s (.l (.l (.l (.l .h))))) (.s (.l (.l (.r (.l .h)))))), (nat_lit 11), [(nat_lit 3), (nat_lit 4), (nat_lit 5), (nat_lit 6), (nat_lit 7), (nat_lit 8), (nat_lit 9), (nat_lit 10)], []⟩,
  ⟨.p (.l (.r (.r (.l .h)))) none (.fa (nat_lit 1) (.s (.r (.l (.r (.l .h)))))), (nat_lit 12), [(nat_lit 3), (nat_lit 4), (nat_lit 5), (nat_lit 6), (nat_lit 7), (nat_lit 8), (nat_lit 9), (nat_lit 10), (nat_lit 11)], []⟩,
  ⟨.r (.r (.r (.r (.l .h)))) none (.ld (.s (.l (.r (.r (.l .h)))))), (nat_lit 13), [(nat_lit 3), (nat_lit 4), (nat_lit 5), (nat_lit 6), (nat_lit 7), (nat_lit 8), (nat_lit 9), (nat_lit 10), (nat_lit 11), (nat_lit 12)], []⟩,
  ⟨.p (.l (.l (.l (.r .h)))) none (.nc (.s (.l (.r (.l .h))))), (nat_lit 14), [(nat_lit 0), (nat_lit 2), (nat_lit 3), (nat_lit 4), (nat_lit 5), (nat_lit 6), (nat_lit 7), (nat_lit 8), (nat_lit 9), (nat_lit 10), (nat_lit 11), (nat_lit 12), (nat_lit 13)], []⟩,
  ⟨.p (.r (.l (.l (.r .h)))) none (.fa (nat_lit 3) (.s (.l (.l (.l (.r .h)))))), (nat_lit 15), [(nat_lit 0), (nat_lit 2), (nat_lit 3), (nat_lit 4), (nat_lit 5), (nat_lit 6), (nat_lit 7), (nat_lit 8), (nat_lit 9), (nat_lit 10), (nat_lit 11), (nat_lit 12), (nat_lit 13), (nat_lit 14)], []⟩,
  ⟨.c none none (.st (nat_lit 1) (.s (.r (.l (.l (.r .h))))) (.s (.l (.l (.r .h))))), (nat_lit 16), [(nat_lit 0), (nat_lit 2), (nat_lit 3), (nat_lit 4), (nat_lit 5), (nat_lit 6), (nat_lit 7), (nat_lit 8), (nat_lit 9), (nat_lit 10), (nat_lit 11), (nat_lit 12), (nat_lit 13), (nat_lit 14), (nat_lit 15)], []⟩,
  ⟨.p (.l (.r (.l (.r .h)))) none (.nc (.s (.r (.r (.l .h))))), (nat_lit 17), [(nat_lit 0), (nat_lit 1), (nat_lit 2), (nat_lit 3), (nat_lit 4), (nat_lit 5), (nat_lit 6), (nat_lit 7), (nat_lit 8), (nat_lit 9), (nat_lit 10), (nat_lit 11), (nat_lit 12), (nat_lit 13), (nat_lit 14), (nat_lit 15), (nat_lit 16)], []⟩,
  ⟨.p (.r (.r (.l (.r .h)))) none (.fa (nat_lit 2) (.s (.l (.r (.l (.r .h)))))), (nat_lit 18), [(nat_lit 0), (nat_lit 1), (nat_lit 2), (nat_lit 3), (nat_lit 4), (nat_lit 5), (nat_lit 6), (nat_lit 7), (nat_lit 8), (nat_lit 9), (nat_lit 10), (nat_lit 11), (nat_lit 12), (nat_lit 13), (nat_lit 14), (nat_lit 15), (nat_lit 16), (nat_lit 17)], []⟩,
  ⟨.c none none (.st (nat_lit 1) (.s (.r (.r (.l (.r .h))))) (.s (.r (.r (.r (.l .h)))))), (nat_lit 19), [(nat_lit 0), (nat_lit 1), (nat_lit 2), (nat_lit 3), (nat_lit 4), (nat_lit 5), (nat_lit 6), (nat_lit 7), (nat_lit 8), (nat_lit 9), (nat_lit 10), (nat_lit 11), (nat_lit 12), (nat_lit 13), (nat_lit 14), (nat_lit 15), (nat_lit 16), (nat_lit 17), (nat_lit 18)], []⟩]) .skip)), false, false⟩
noncomputable def rf36 : RF := ⟨[.h], [.s (.r .h)], (.seq (.reg [.p (.r .h) none (.mv (.c (.a (.b false))))])
 (.seq (.reg [.a (.r (.r .h)) none (.mm),
  .p (.l (.l .h)) none (.mv (.s (.r (.r .h))))])
 (.seq (.seq (.reg [.p (.l (.l (.l .h))) none (.mv (.s .h)),
  .p (.r (.l (.l .h))) none (.ln (.s (.l (.l (.l .h))))),
  .p (.l (.r (.l .h))) none (.mv (.c (.a (.i .i64 (.n (nat_lit 0))))))])
 (.blk (nat_lit 0) (.loop (.seq (.reg [.p (.r (.r (.l .h))) none (.cp .lss (.s (.l (.r (.l .h)))) (.s (.r (.l (.l .h)))))])
 (.seq (.cond (.s (.r (.r (.l .h)))) .skip (.ex (nat_lit 0)))
 (.seq (.blk (nat_lit 1) (.seq (.reg [.p (.l (.l (.r .h))) none (.ix (nat_lit 1) (.s (.l (.l (.l .h)))) (.s (.l (.r (.l .h))))),
  .r (.r (.l (.r .h))) none (.ld (.s (.l (.l (.r .h))))),
  .p (.l (.r .h)) none (.mv (.s (.r (.l (.r .h)))))])
 (.seq (.seq (.reg [.p (.l (.r (.r .h))) none (.mv (.s (.l (.l .h)))),
  .p (.r (.r (.r .h))) none (.mv (.s (.l (.r .h)))),
  .r (.l (.l (.l (.l .h)))) none (.lk false false [(nat_lit 2)] (.a (.b false)) (.s (.l (.r (.r .h)))) (.s (.r (.r (.r .h)))))])
 (.cond (.s (.l (.l (.l (.l .h))))) (.seq (.reg [.p (.r .h) none (.mv (.c (.a (.b true))))])
 .rt) .skip))
 (.reg [.p (.r (.l (.l (.l .h)))) none (.mv (.s (.l (.l .h)))),
  .p (.l (.r (.l (.l .h)))) none (.mv (.s (.l (.r .h)))),
  .c none none (.mu false [(nat_lit 2)] (.s (.r (.l (.l (.l .h))))) (.s (.l (.r (.l (.l .h))))) (.c (.a (.b true))))]))))
 (.reg [.p (.r (.r (.l (.l .h)))) none (.ar .add (.s (.l (.r (.l .h)))) (.c (.a (.i .i64 (.n (nat_lit 1)))))),
  .p (.l (.r (.l .h))) none (.mv (.s (.r (.r (.l (.l .h))))))])))))))
 (.seq (.reg [.p (.r .h) none (.mv (.c (.a (.b false))))])
 .rt)))), false, false⟩
noncomputable def rf37 : RF := ⟨[.h], [.s (.r .h)], (.seq (.reg [.p (.r .h) none (.mv (.c (.a .s0)))])
 (.seq (.seq (.reg [.p (.l (.l .h)) none (.mv (.s .h)),
  .p (.r (.l .h)) none (.ne false (.s (.l (.l .h))))])
 (.cond (.s (.r (.l .h))) (.seq (.reg [.p (.r .h) none (.mv (.c (.a .s0)))])
 .rt) .skip))
 (.seq (.reg [.a (.l (.r .h)) none (.bs (nat_lit 9) (nat_lit 0) [] []),
  .p (.r (.r .h)) none (.mv (.s .h)),
  .c (some (.l (.l (.l .h)))) none (.ap (nat_lit 9) (nat_lit 1) (nat_lit 16) (.s (.l (.r .h))) (.s (.r (.r .h)))),
  .p (.r .h) none (.mv (.s (.l (.l (.l .h)))))])
 .rt))), false, false⟩
noncomputable def rf38 : RF := ⟨[.h, (.l .h), (.r .h)], [.s (.r (.r .h))], (.seq (.reg [.a (.l (.r .h)) none (.bx (nat_lit 109) (nat_lit 4) (.s (.r .h))),
  .p (.r (.r .h)) none (.mv (.c (.a (.i .i64 (.n (nat_lit 0))))))])
 (.seq (.reg [.p (.l (.l (.r .h))) none (.mv (.s .h)),
  .p (.r (.l (.r .h))) none (.fa (nat_lit 1) (.s (.l (.r .h)))),
  .r (.l (.r (.r .h))) none (.ld (.s (.r (.l (.r .h))))),
  .p (.r (.r (.r .h))) none (.nc (.s (.l (.l (.r .h))))),
  .p (.l (.l (.l (.l .h)))) none (.fa (nat_lit 10) (.s (.r (.r (.r .h))))),
  .c none none (.st (nat_lit 1) (.s (.l (.l (.l (.l .h))))) (.s (.l (.r (.r .h)))))])
 (.seq (.seq (.reg [.p (.r (.l (.l (.l .h)))) none (.fa (nat_lit 2) (.s (.l (.r .h)))),
  .r (.l (.r (.l (.l .h)))) none (.ld (.s (.r (.l (.l (.l .h)))))),
  .p (.r (.r (.l (.l .h)))) none (.ln (.s (.l (.r (.l (.l .h)))))),
  .p (.l (.l (.r (.l .h)))) none (.cp .gtr (.s (.r (.r (.l (.l .h))))) (.c (.a (.i .i64 (.n (nat_lit 4))))))])
 (.cond (.s (.l (.l (.r (.l .h))))) (.seq (.reg [.p (.r (.r .h)) none (.mv (.c (.a (.i .i64 (.n (nat_lit 5))))))])
 .rt) .skip))
 (.seq (.seq (.reg [.p (.r (.l (.r (.l .h)))) none (.fa (nat_lit 2) (.s (.l (.r .h)))),
  .r (.l (.r (.r (.l .h)))) none (.ld (.s (.r (.l (.r (.l .h)))))),
  .k (some (.r (.r (.r (.l .h))))) none (nat_lit 36) (.r (.l (.r (.l (.l .h))))) [(.s (.l (.r (.r (.l .h)))))]])
 (.cond (.s (.r (.r (.r (.l .h))))) (.seq (.reg [.p (.r (.r .h)) none (.mv (.c (.a (.i .i64 (.n (nat_lit 9))))))])
 .rt) .skip))
 (.seq (.reg [.p (.l (.l (.l (.r .h)))) none (.mv (.s .h)),
  .p (.r (.l (.l (.r .h)))) none (.mv (.s .h)),
  .p (.l (.r (.l (.r .h)))) none (.mv (.s .h)),
  .p (.r (.r (.l (.r .h)))) none (.mv (.s (.l .h))),
  .p (.l (.l (.r (.r .h)))) none (.nc (.s (.l (.l (.l (.r .h)))))),
  .p (.r (.l (.r (.r .h)))) none (.fa (nat_lit 9) (.s (.l (.l (.r (.r .h)))))),
  .c none none (.st (nat_lit 1) (.s (.r (.l (.r (.r .h))))) (.s (.r (.r (.l (.r .h)))))),
  .p (.l (.r (.r (.r .h)))) none (.nc (.s (.r (.l (.l (.r .h)))))),
  .p (.r (.r (.r (.r .h)))) none (.fa (nat_lit 7) (.s (.l (.r (.r (.r .h)))))),
  .c none none (.st (nat_lit 1) (.s (.r (.r (.r (.r .h))))) (.c (.a .s0))),
  .p (.l (.l (.l (.l (.l .h))))) none (.nc (.s (.l (.r (.l (.r .h)))))),
  .p (.r (.l (.l (.l (.l .h))))) none (.fa (nat_lit 8) (.s (.l (.l (.l (.l (.l .h))))))),
  .c none none (.st (nat_lit 1) (.s (.r (.l (.l (.l (.l .h)))))) (.c (.a .s0)))])
 (.seq (.seq (.reg [.p (.l (.r (.l (.l (.l .h))))) none (.fa (nat_lit 2) (.s (.l (.r .h)))),
  .r (.r (.r (.l (.l (.l .h))))) none (.ld (.s (.l (.r (.l (.l (.l .h))))))),
  .p (.l (.l (.r (.l (.l .h))))) none (.ln (.s (.r (.r (.l (.l (.l .h))))))),
  .p (.r (.l (.r (.l (.l .h))))) none (.mv (.c (.a (.i .i64 (.n (nat_lit 0))))))])
 (.blk (nat_lit 0) (.loop (.seq (.reg [.p (.l (.r (.r (.l (.l .h))))) none (.cp .lss (.s (.r (.l (.r (.l (.l .h)))))) (.s (.l (.l (.r (.l (.l .h)))))))])
 (.seq (.cond (.s (.l (.r (.r (.l (.l .h)))))) .skip (.ex (nat_lit 0)))
 (.seq (.blk (nat_lit 1) (.seq (.reg [.p (.r (.r (.r (.l (.l .h))))) none (.ix (nat_lit 1) (.s (.r (.r (.l (.l (.l .h)))))) (.s (.r (.l (.r (.l (.l .h))))))),
  .r (.l (.l (.l (.r (.l .h))))) none (.ld (.s (.r (.r (.r (.l (.l .h))))))),
  .p (.r (.l (.l .h))) none (.mv (.s (.l (.l (.l (.r (.l .h)))))))])
 (.reg [.p (.r (.l (.l (.r (.l .h))))) none (.mv (.s .h)),
  .p (.l (.r (.l (.r (.l .h))))) none (.mv (.s (.r (.l (.l .h))))),
  .p (.r (.r (.l (.r (.l .h))))) none (.bd [(.t (nat_lit 1)), (.i .i64 (.n (nat_lit 0))), (.i .i64 (.n (nat_lit 0))), (.i .i64 (.n (nat_lit 0))), (.b false), (.i .i64 (.n (nat_lit 0))), (.i .i64 (.n (nat_lit 0)))] [((nat_lit 0), (nat_lit 1), (.s (.l (.r (.l (.r (.l .h))))))), ((nat_lit 1), (nat_lit 1), (.c (.a (.i .i64 (.n (nat_lit 1)))))), ((nat_lit 2), (nat_lit 1), (.c (.a (.i .i64 (.g (nat_lit 0)))))), ((nat_lit 3), (nat_lit 1), (.c (.a (.i .i64 (.n (nat_lit 1)))))), ((nat_lit 4), (nat_lit 1), (.c (.a (.b true))))]),
  .k (some (.l (.l (.r (.r (.l .h)))))) none (nat_lit 59) (.l (.l (.r (.r (.r .h))))) [(.s (.r (.l (.l (.r (.l .h)))))), (.s (.r (.r (.l (.r (.l .h))))))]])))
 (.reg [.p (.r (.l (.r (.r (.l .h))))) none (.ar .add (.s (.r (.l (.r (.l (.l .h)))))) (.c (.a (.i .i64 (.n (nat_lit 1)))))),
  .p (.r (.l (.r (.l (.l .h))))) none (.mv (.s (.r (.l (.r (.r (.l .h)))))))])))))))
 (.seq (.reg [.p (.r (.r (.r (.r (.l .h))))) none (.mv (.s .h)),
  .p (.l (.l (.l (.l (.r .h))))) none (.fa (nat_lit 3) (.s (.l (.r .h)))),
  .r (.r (.l (.l (.l (.r .h))))) none (.ld (.s (.l (.l (.l (.l (.r .h))))))),
  .k (some (.l (.r (.l (.l (.r .h)))))) none (nat_lit 60) (.r (.l (.r (.r (.r .h))))) [(.s (.r (.r (.r (.r (.l .h)))))), (.s (.r (.l (.l (.l (.r .h))))))],
  .p (.l (.r (.r (.r (.l .h))))) none (.mv (.s (.l (.r (.l (.l (.r .h))))))),
  .p (.r (.r (.l (.l (.r .h))))) none (.ex (nat_lit 0) (.s (.l (.r (.r (.r (.l .h))))))),
  .p (.l (.l (.r (.l (.r .h))))) none (.ex (nat_lit 1) (.s (.l (.r (.r (.r (.l .h))))))),
  .p (.l (.r (.l .h))) none (.mv (.s (.r (.r (.l (.l (.r .h))))))),
  .p (.r (.r (.l .h))) none (.mv (.s (.l (.l (.r (.l (.r .h)))))))])
 (.seq (.seq (.reg [.p (.r (.l (.r (.l (.r .h))))) none (.mv (.s (.r (.r (.l .h))))),
  .p (.l (.r (.r (.l (.r .h))))) none (.cp .neq (.s (.r (.l (.r (.l (.r .h)))))) (.c (.a (.i .i64 (.n (nat_lit 0))))))])
 (.cond (.s (.l (.r (.r (.l (.r .h)))))) (.seq (.reg [.p (.r (.r (.r (.l (.r .h))))) none (.mv (.s (.r (.r (.l .h))))),
  .p (.r (.r .h)) none (.mv (.s (.r (.r (.r (.l (.r .h)))))))])
 .rt) .skip))
 (.seq (.reg [.p (.l (.l (.l (.r (.r .h))))) none (.mv (.s .h)),
  .k (some (.r (.l (.l (.r (.r .h)))))) none (nat_lit 61) (.l (.r (.r (.r (.r .h))))) [(.s (.l (.l (.l (.r (.r .h)))))), (.c (.a (.i .i64 (.n (nat_lit 0)))))]])
 (.seq (.reg [.p (.l (.r (.l (.r (.r .h))))) none (.fa (nat_lit 2) (.s (.l (.r .h)))),
  .r (.r (.r (.l (.r (.r .h))))) none (.ld (.s (.l (.r (.l (.r (.r .h))))))),
  .k (some (.l (.l (.r (.r (.r .h)))))) none (nat_lit 37) (.l (.r (.r (.l (.l .h))))) [(.s (.r (.r (.l (.r (.r .h))))))],
  .p (.r (.l (.r (.r (.r .h))))) none (.mv (.s (.l (.r (.l .h))))),
  .p (.l (.r (.r (.r (.r .h))))) none (.fa (nat_lit 2) (.s (.l (.r .h)))),
  .c none none (.st (nat_lit 1) (.s (.l (.r (.r (.r (.r .h)))))) (.s (.l (.l (.r (.r (.r .h))))))),
  .p (.r (.r (.r (.r (.r .h))))) none (.fa (nat_lit 3) (.s (.l (.r .h)))),
  .c none none (.st (nat_lit 1) (.s (.r (.r (.r (.r (.r .h)))))) (.s (.r (.l (.r (.r (.r .h)))))))])
 (.seq (.drw [⟨.p (.l (.l (.l (.l (.l (.l .h)))))) none (.mv (.s .h)), (nat_lit 0), [], []⟩,
  ⟨.p (.r (.l (.l (.l (.l (.l .h)))))) none (.mv (.s .h)), (nat_lit 1), [], []⟩,
  ⟨.p (.l (.r (.l (.l (.l (.l .h)))))) none (.nc (.s (.r (.l (.l (.l (.l (.l .h)))))))), (nat_lit 2), [(nat_lit 1)], []⟩,
  ⟨.p (.r (.r (.l (.l (.l (.l .h)))))) none (.fa (nat_lit 2) (.s (.l (.r (.l (.l (.l (.l .h)))))))), (nat_lit 3), [(nat_lit 1), (nat_lit 2)], []⟩,
  ⟨.p (.l (.l (.r (.l (.l (.l .h)))))) none (.fa (nat_lit 0) (.s (.r (.r (.l (.l (.l (.l .h)))))))), (nat_lit 4), [(nat_lit 1), (nat_lit 2), (nat_lit 3)], []⟩,
  ⟨.p (.r (.l (.r (.l (.l (.l .h)))))) none (.fa (nat_lit 1) (.s (.l (.l (.r (.l (.l (.l .h)))))))), (nat_lit 5), [(nat_lit 1), (nat_lit 2), (nat_lit 3), (nat_lit 4)], []⟩,
  ⟨.r (.l (.r (.r (.l (.l (.l .h)))))) none (.ld (.s (.r (.l (.r (.l (.l (.l .h)))))))), (nat_lit 6), [(nat_lit 1), (nat_lit 2), (nat_lit 3), (nat_lit 4), (nat_lit 5)], []⟩,
  ⟨.r (.r (.r (.r (.l (.l (.l .h)))))) none (.lg (nat_lit 4) (.s (.l (.r .h)))), (nat_lit 7), [], []⟩,
  ⟨.a (.l (.l (.l (.r (.l (.l .h)))))) none (.bs (nat_lit 109) (nat_lit 1) [(.t (nat_lit 1)), (.i .i64 (.n (nat_lit 0))), .s0, .s0] [((nat_lit 0), (nat_lit 4), (.s (.r (.r (.r (.l (.l (.l .h))))))))]), (nat_lit 8), [(nat_lit 7)], []⟩,
  ⟨.c (some (.r (.l (.l (.r (.l (.l .h))))))) none (.ap (nat_lit 109) (nat_lit 4) (nat_lit 72) (.s (.l (.r (.r (.l (.l (.l .h))))))) (.s (.l (.l (.l (.r (.l (.l .h)))))))), (nat_lit 9), [(nat_lit 1), (nat_lit 2), (nat_lit 3), (nat_lit 4), (nat_lit 5), (nat_lit 6), (nat_lit 7), (nat_lit 8)], []⟩,
  ⟨.p (.l (.r (.l (.r (.l (.l .h)))))) none (.nc (.s (.l (.l (.l (.l (.l (.l .h)))))))), (nat_lit 10), [(nat_lit 0), (nat_lit 1), (nat_lit 2), (nat_lit 3), (nat_lit 4), (nat_lit 5), (nat_lit 6), (nat_lit 7), (nat_lit 8), (nat_lit 9)], []⟩,
  ⟨.p (.r (.r (.l (.r (.l (.l .h)))))) none (.fa (nat_lit 2) (.s (.l (.r (.l (.r (.l (.l .h)))))))), (nat_lit 11), [(nat_lit 0), (nat_lit 1), (nat_lit 2), (nat_lit 3), (nat_lit 4), (nat_lit 5), (nat_lit 6), (nat_lit 7), (nat_lit 8), (nat_lit 9), (nat_lit 10)], []⟩,
  ⟨.p (.l (.l (.r (.r (.l (.l .h)))))) none (.fa (nat_lit 0) (.s (.r (.r (.l (.r (.l (.l .h)))))))), (nat_lit 12), [(nat_lit 0), (nat_lit 1), (nat_lit 2), (nat_lit 3), (nat_lit 4), (nat_lit 5), (nat_lit 6), (nat_lit 7), (nat_lit 8), (nat_lit 9), (nat_lit 10), (nat_lit 11)], []⟩,
  ⟨.p (.r (.l (.r (.r (.l (.l .h)))))) none (.fa (nat_lit 1) (.s (.l (.l (.r (.r (.l (.l .h)))))))), (nat_lit 13), [(nat_lit 0), (nat_lit 1), (nat_lit 2), (nat_lit 3), (nat_lit 4), (nat_lit 5), (nat_lit 6), (nat_lit 7), (nat_lit 8), (nat_lit 9), (nat_lit 10), (nat_lit 11), (nat_lit 12)], []⟩,
  ⟨.c none none (.st (nat_lit 1) (.s (.r (.l (.r (.r (.l (.l .h))))))) (.s (.r (.l (.l (.r (.l (.l .h)))))))), (nat_lit 14), [(nat_lit 0), (nat_lit 1), (nat_lit 2), (nat_lit 3), (nat_lit 4), (nat_lit 5), (nat_lit 6), (nat_lit 7), (nat_lit 8), (nat_lit 9), (nat_lit 10), (nat_lit 11), (nat_lit 12), (nat_lit 13)], []⟩])
 (.seq (.drw [⟨.p (.l (.r (.r (.r (.l (.l .h)))))) none (.mv (.s .h)), (nat_lit 0), [], []⟩,
  ⟨.p (.r (.r (.r (.r (.l (.l .h)))))) none (.mv (.s .h)), (nat_lit 1), [], []⟩,
  ⟨.p (.l (.l (.l (.l (.r (.l .h)))))) none (.nc (.s (.r (.r (.r (.r (.l (.l .h)))))))), (nat_lit 2), [(nat_lit 1)], []⟩,
  ⟨.p (.r (.l (.l (.l (.r (.l .h)))))) none (.fa (nat_lit 2) (.s (.l (.l (.l (.l (.r (.l .h)))))))), (nat_lit 3), [(nat_lit 1), (nat_lit 2)], []⟩,
  ⟨.p (.l (.r (.l (.l (.r (.l .h)))))) none (.fa (nat_lit 2) (.s (.r (.l (.l (.l (.r (.l .h)))))))), (nat_lit 4), [(nat_lit 1), (nat_lit 2), (nat_lit 3)], []⟩,
  ⟨.r (.r (.r (.l (.l (.r (.l .h)))))) none (.ld (.s (.l (.r (.l (.l (.r (.l .h)))))))), (nat_lit 5), [(nat_lit 1), (nat_lit 2), (nat_lit 3), (nat_lit 4)], []⟩,
  ⟨.p (.l (.l (.r (.l (.r (.l .h)))))) none (.mv (.s .h)), (nat_lit 6), [], []⟩,
  ⟨.p (.r (.l (.r (.l (.r (.l .h)))))) none (.nc (.s (.l (.l (.r (.l (.r (.l .h)))))))), (nat_lit 7), [(nat_lit 6)], []⟩,
  ⟨.p (.l (.r (.r (.l (.r (.l .h)))))) none (.fa (nat_lit 7) (.s (.r (.l (.r (.l (.r (.l .h)))))))), (nat_lit 8), [(nat_lit 6), (nat_lit 7)], []⟩,
  ⟨.r (.r (.r (.r (.l (.r (.l .h)))))) none (.ld (.s (.l (.r (.r (.l (.r (.l .h)))))))), (nat_lit 9), [(nat_lit 6), (nat_lit 7), (nat_lit 8)], []⟩,
  ⟨.a (.l (.l (.l (.r (.r (.l .h)))))) none (.bs (nat_lit 73) (nat_lit 1) [.s0] [((nat_lit 0), (nat_lit 1), (.s (.r (.r (.r (.l (.r (.l .h))))))))]), (nat_lit 10), [(nat_lit 6), (nat_lit 7), (nat_lit 8), (nat_lit 9)], []⟩,
  ⟨.c (some (.r (.l (.l (.r (.r (.l .h))))))) none (.ap (nat_lit 73) (nat_lit 1) (nat_lit 24) (.s (.r (.r (.l (.l (.r (.l .h))))))) (.s (.l (.l (.l (.r (.r (.l .h)))))))), (nat_lit 11), [(nat_lit 1), (nat_lit 2), (nat_lit 3), (nat_lit 4), (nat_lit 5), (nat_lit 6), (nat_lit 7), (nat_lit 8), (nat_lit 9), (nat_lit 10)], []⟩,
  ⟨.p (.l (.r (.l (.r (.r (.l .h)))))) none (.nc (.s (.l (.r (.r (.r (.l (.l .h)))))))), (nat_lit 12), [(nat_lit 0), (nat_lit 1), (nat_lit 2), (nat_lit 3), (nat_lit 4), (nat_lit 5), (nat_lit 6), (nat_lit 7), (nat_lit 8), (nat_lit 9), (nat_lit 10), (nat_lit 11)], []⟩,
  ⟨.p (.r (.r (.l (.r (.r (.l .h)))))) none (.fa (nat_lit 2) (.s (.l (.r (.l (.r (.r (.l .h)))))))), (nat_lit 13), [(nat_lit 0), (nat_lit 1), (nat_lit 2), (nat_lit 3), (nat_lit 4), (nat_lit 5), (nat_lit 6), (nat_lit 7), (nat_lit 8), (nat_lit 9), (nat_lit 10), (nat_lit 11), (nat_lit 12)], []⟩,
  ⟨.p (.l (.l (.r (.r (.r (.l .h)))))) none (.fa (nat_lit 2) (.s (.r (.r (.l (.r (.r (.l .h)))))))), (nat_lit 14), [(nat_lit 0), (nat_lit 1), (nat_lit 2), (nat_lit 3), (nat_lit 4), (nat_lit 5), (nat_lit 6), (nat_lit 7), (nat_lit 8), (nat_lit 9), (nat_lit 10), (nat_lit 11), (nat_lit 12), (nat_lit 13)], []⟩,
  ⟨.c none none (.st (nat_lit 1) (.s (.l (.l (.r (.r (.r (.l .h))))))) (.s (.r (.l (.l (.r (.r (.l .h)))))))), (nat_lit 15), [(nat_lit 0), (nat_lit 1), (nat_lit 2), (nat_lit 3), (nat_lit 4), (nat_lit 5), (nat_lit 6), (nat_lit 7), (nat_lit 8), (nat_lit 9), (nat_lit 10), (nat_lit 11), (nat_lit 12), (nat_lit 13), (nat_lit 14)], []⟩])
 (.seq (.reg [.p (.r (.r .h)) none (.mv (.c (.a (.i .i64 (.n (nat_lit 0))))))])
 .rt))))))))))))), false, false⟩
noncomputable def rf53 : RF := ⟨[.h], [.s (.r .h)], (.seq (.reg [.p (.r .h) none (.mv (.c (.a (.b false))))])
 (.seq (.reg [.p (.l (.l .h)) none (.mv (.s .h)),
  .p (.r (.l .h)) none (.cp .geq (.s (.l (.l .h))) (.c (.a (.i .u8 (.n (nat_lit 97)))))),
  .p (.l (.r .h)) none (.mv (.s (.r (.l .h)))),
  .p (.r (.r .h)) (some ((.l (.r .h)), true)) (.mv (.s .h)),
  .p (.l (.l (.l .h))) (some ((.l (.r .h)), true)) (.cp .leq (.s (.r (.r .h))) (.c (.a (.i .u8 (.n (nat_lit 122)))))),
  .p (.r (.l (.l .h))) none (.pk (.s (.l (.r .h))) (.s (.l (.l (.l .h)))) (.c (.a (.b false)))),
  .p (.l (.r (.l .h))) none (.mv (.s (.r (.l (.l .h))))),
  .p (.r (.r (.l .h))) (some ((.l (.r (.l .h))), false)) (.mv (.s .h)),
  .p (.l (.l (.r .h))) (some ((.l (.r (.l .h))), false)) (.cp .geq (.s (.r (.r (.l .h)))) (.c (.a (.i .u8 (.n (nat_lit 65)))))),
  .p (.r (.l (.r .h))) (some ((.l (.r (.l .h))), false)) (.mv (.s (.l (.l (.r .h))))),
  .p (.l (.r (.r .h))) (some ((.r (.l (.r .h))), true)) (.mv (.s .h)),
  .p (.r (.r (.r .h))) (some ((.r (.l (.r .h))), true)) (.cp .leq (.s (.l (.r (.r .h)))) (.c (.a (.i .u8 (.n (nat_lit 90)))))),
  .p (.l (.l (.l (.l .h)))) (some ((.l (.r (.l .h))), false)) (.pk (.s (.r (.l (.r .h)))) (.s (.r (.r (.r .h)))) (.c (.a (.b false)))),
  .p (.r (.l (.l (.l .h)))) none (.pk (.s (.l (.r (.l .h)))) (.c (.a (.b true))) (.s (.l (.l (.l (.l .h)))))),
  .p (.l (.r (.l (.l .h)))) none (.mv (.s (.r (.l (.l (.l .h)))))),
  .p (.r (.r (.l (.l .h)))) (some ((.l (.r (.l (.l .h)))), false)) (.mv (.s .h)),
  .p (.l (.l (.r (.l .h)))) (some ((.l (.r (.l (.l .h)))), false)) (.cp .eql (.s (.r (.r (.l (.l .h))))) (.c (.a (.i .u8 (.n (nat_lit 95)))))),
  .p (.r (.l (.r (.l .h)))) none (.pk (.s (.l (.r (.l (.l .h))))) (.c (.a (.b true))) (.s (.l (.l (.r (.l .h)))))),
  .p (.r .h) none (.mv (.s (.r (.l (.r (.l .h))))))])
 .rt)), false, false⟩
noncomputable def rf54 : RF := ⟨[.h], [.s (.r .h)], (.seq (.reg [.p (.r .h) none (.mv (.c (.a (.b false))))])
 (.seq (.reg [.p (.l (.l .h)) none (.mv (.s .h)),
  .p (.r (.l .h)) none (.cp .geq (.s (.l (.l .h))) (.c (.a (.i .u8 (.n (nat_lit 48)))))),
  .p (.l (.r .h)) none (.mv (.s (.r (.l .h)))),
  .p (.r (.r .h)) (some ((.l (.r .h)), true)) (.mv (.s .h)),
  .p (.l (.l (.l .h))) (some ((.l (.r .h)), true)) (.cp .leq (.s (.r (.r .h))) (.c (.a (.i .u8 (.n (nat_lit 57)))))),
  .p (.r (.l (.l .h))) none (.pk (.s (.l (.r .h))) (.s (.l (.l (.l .h)))) (.c (.a (.b false)))),
  .p (.r .h) none (.mv (.s (.r (.l (.l .h)))))])
 .rt)), false, false⟩
noncomputable def rf55 : RF := ⟨[.h], [.s (.r .h)], (.seq (.reg [.p (.r .h) none (.mv (.c (.a (.b false))))])
 (.seq (.seq (.reg [.a (.l (.r .h)) none (.bs (nat_lit 9) (nat_lit 12) [(.t (nat_lit 1)), (.t (nat_lit 1)), (.t (nat_lit 1)), (.t (nat_lit 1)), (.t (nat_lit 1)), (.t (nat_lit 1)), (.t (nat_lit 1)), (.t (nat_lit 1)), (.t (nat_lit 1)), (.t (nat_lit 1)), (.t (nat_lit 1)), (.t (nat_lit 1))] [((nat_lit 0), (nat_lit 1), (.c (.a (.t (nat_lit 391917634545010))))), ((nat_lit 1), (nat_lit 1), (.c (.a (.t (nat_lit 5963150694))))), ((nat_lit 2), (nat_lit 1), (.c (.a (.t (nat_lit 24273270))))), ((nat_lit 3), (nat_lit 1), (.c (.a (.t (nat_lit 24407657))))), ((nat_lit 4), (nat_lit 1), (.c (.a (.t (nat_lit 91753))))), ((nat_lit 5), (nat_lit 1), (.c (.a (.t (nat_lit 5997030501))))), ((nat_lit 6), (nat_lit 1), (.c (.a (.t (nat_lit 1535122172023))))), ((nat_lit 7), (nat_lit 1), (.c (.a (.t (nat_lit 402912852600178))))), ((nat_lit 8), (nat_lit 1), (.c (.a (.t (nat_lit 1612482504820))))), ((nat_lit 9), (nat_lit 1), (.c (.a (.t (nat_lit 24736372))))), ((nat_lit 10), (nat_lit 1), (.c (.a (.t (nat_lit 1547856798051))))), ((nat_lit 11), (nat_lit 1), (.c (.a (.t (nat_lit 1599580238448)))))]),
  .p (.r (.r .h)) none (.ln (.s (.l (.r .h)))),
  .p (.l (.l (.l .h))) none (.mv (.c (.a (.i .i64 (.n (nat_lit 0))))))])
 (.blk (nat_lit 0) (.loop (.seq (.reg [.p (.r (.l (.l .h))) none (.cp .lss (.s (.l (.l (.l .h)))) (.s (.r (.r .h))))])
 (.seq (.cond (.s (.r (.l (.l .h)))) .skip (.ex (nat_lit 0)))
 (.seq (.blk (nat_lit 1) (.seq (.reg [.p (.l (.r (.l .h))) none (.ix (nat_lit 1) (.s (.l (.r .h))) (.s (.l (.l (.l .h))))),
  .r (.r (.r (.l .h))) none (.ld (.s (.l (.r (.l .h))))),
  .p (.r (.l .h)) none (.mv (.s (.r (.r (.l .h)))))])
 (.seq (.reg [.p (.l (.l (.r .h))) none (.mv (.s (.r (.l .h)))),
  .p (.r (.l (.r .h))) none (.mv (.s .h)),
  .p (.l (.r (.r .h))) none (.eq false false [(nat_lit 2)] (.s (.l (.l (.r .h)))) (.s (.r (.l (.r .h)))))])
 (.cond (.s (.l (.r (.r .h)))) (.seq (.reg [.p (.r .h) none (.mv (.c (.a (.b true))))])
 .rt) .skip))))
 (.reg [.p (.r (.r (.r .h))) none (.ar .add (.s (.l (.l (.l .h)))) (.c (.a (.i .i64 (.n (nat_lit 1)))))),
  .p (.l (.l (.l .h))) none (.mv (.s (.r (.r (.r .h)))))])))))))
 (.seq (.reg [.p (.r .h) none (.mv (.c (.a (.b false))))])
 .rt))), false, false⟩
noncomputable def rf56 : RF := ⟨[.h, (.l .h)], [.s (.r (.l .h))], (.seq (.reg [.p (.r (.l .h)) none (.mv (.c (.a (.t (nat_lit 1)))))])
 (.seq (.seq (.reg [.p (.l (.r (.l .h))) none (.mv (.s (.l .h))),
  .p (.r (.r (.l .h))) none (.ar .add (.s (.l (.r (.l .h)))) (.c (.a (.i .i64 (.n (nat_lit 1)))))),
  .p (.l (.l (.r .h))) none (.mv (.s .h)),
  .p (.r (.l (.r .h))) none (.sn (.s (.l (.l (.r .h))))),
  .p (.l (.r (.r .h))) none (.cp .lss (.s (.r (.r (.l .h)))) (.s (.r (.l (.r .h)))))])
 (.cond (.s (.l (.r (.r .h)))) (.seq (.reg [.a (.r (.r (.r .h))) none (.bs (nat_lit 9) (nat_lit 3) [(.t (nat_lit 1)), (.t (nat_lit 1)), (.t (nat_lit 1))] [((nat_lit 0), (nat_lit 1), (.c (.a (.t (nat_lit 81212))))), ((nat_lit 1), (nat_lit 1), (.c (.a (.t (nat_lit 81213))))), ((nat_lit 2), (nat_lit 1), (.c (.a (.t (nat_lit 81185)))))]),
  .p (.l (.l (.l (.l .h)))) none (.ln (.s (.r (.r (.r .h))))),
  .p (.r (.l (.l (.l .h)))) none (.mv (.c (.a (.i .i64 (.n (nat_lit 0))))))])
 (.blk (nat_lit 0) (.loop (.seq (.reg [.p (.l (.r (.l (.l .h)))) none (.cp .lss (.s (.r (.l (.l (.l .h))))) (.s (.l (.l (.l (.l .h))))))])
 (.seq (.cond (.s (.l (.r (.l (.l .h))))) .skip (.ex (nat_lit 0)))
 (.seq (.blk (nat_lit 1) (.seq (.reg [.p (.r (.r (.l (.l .h)))) none (.ix (nat_lit 1) (.s (.r (.r (.r .h)))) (.s (.r (.l (.l (.l .h)))))),
  .r (.l (.l (.r (.l .h)))) none (.ld (.s (.r (.r (.l (.l .h)))))),
  .p (.r (.r .h)) none (.mv (.s (.l (.l (.r (.l .h))))))])
 (.seq (.reg [.p (.r (.l (.r (.l .h)))) none (.mv (.s .h)),
  .p (.l (.r (.r (.l .h)))) none (.mv (.s (.l .h))),
  .p (.r (.r (.r (.l .h)))) none (.mv (.s (.l .h))),
  .p (.l (.l (.l (.r .h)))) none (.ar .add (.s (.r (.r (.r (.l .h))))) (.c (.a (.i .i64 (.n (nat_lit 2)))))),
  .p (.r (.l (.l (.r .h)))) none (.ss (.s (.r (.l (.r (.l .h))))) (some (.s (.l (.r (.r (.l .h)))))) (some (.s (.l (.l (.l (.r .h))))))),
  .p (.l (.r (.l (.r .h)))) none (.mv (.s (.r (.r .h)))),
  .p (.r (.r (.l (.r .h)))) none (.eq false false [(nat_lit 2)] (.s (.r (.l (.l (.r .h))))) (.s (.l (.r (.l (.r .h))))))])
 (.cond (.s (.r (.r (.l (.r .h))))) (.seq (.reg [.p (.l (.l (.r (.r .h)))) none (.mv (.s (.r (.r .h)))),
  .p (.r (.l .h)) none (.mv (.s (.l (.l (.r (.r .h))))))])
 .rt) .skip))))
 (.reg [.p (.r (.l (.r (.r .h)))) none (.ar .add (.s (.r (.l (.l (.l .h))))) (.c (.a (.i .i64 (.n (nat_lit 1)))))),
  .p (.r (.l (.l (.l .h)))) none (.mv (.s (.r (.l (.r (.r .h))))))]))))))) .skip))
 (.seq (.seq (.reg [.a (.l (.r (.r (.r .h)))) none (.bs (nat_lit 5) (nat_lit 21) [(.i .u8 (.n (nat_lit 0))), (.i .u8 (.n (nat_lit 0))), (.i .u8 (.n (nat_lit 0))), (.i .u8 (.n (nat_lit 0))), (.i .u8 (.n (nat_lit 0))), (.i .u8 (.n (nat_lit 0))), (.i .u8 (.n (nat_lit 0))), (.i .u8 (.n (nat_lit 0))), (.i .u8 (.n (nat_lit 0))), (.i .u8 (.n (nat_lit 0))), (.i .u8 (.n (nat_lit 0))), (.i .u8 (.n (nat_lit 0))), (.i .u8 (.n (nat_lit 0))), (.i .u8 (.n (nat_lit 0))), (.i .u8 (.n (nat_lit 0))), (.i .u8 (.n (nat_lit 0))), (.i .u8 (.n (nat_lit 0))), (.i .u8 (.n (nat_lit 0))), (.i .u8 (.n (nat_lit 0))), (.i .u8 (.n (nat_lit 0))), (.i .u8 (.n (nat_lit 0)))] [((nat_lit 0), (nat_lit 1), (.c (.a (.i .u8 (.n (nat_lit 40)))))), ((nat_lit 1), (nat_lit 1), (.c (.a (.i .u8 (.n (nat_lit 41)))))), ((nat_lit 2), (nat_lit 1), (.c (.a (.i .u8 (.n (nat_lit 123)))))), ((nat_lit 3), (nat_lit 1), (.c (.a (.i .u8 (.n (nat_lit 125)))))), ((nat_lit 4), (nat_lit 1), (.c (.a (.i .u8 (.n (nat_lit 91)))))), ((nat_lit 5), (nat_lit 1), (.c (.a (.i .u8 (.n (nat_lit 93)))))), ((nat_lit 6), (nat_lit 1), (.c (.a (.i .u8 (.n (nat_lit 44)))))), ((nat_lit 7), (nat_lit 1), (.c (.a (.i .u8 (.n (nat_lit 59)))))), ((nat_lit 8), (nat_lit 1), (.c (.a (.i .u8 (.n (nat_lit 58)))))), ((nat_lit 9), (nat_lit 1), (.c (.a (.i .u8 (.n (nat_lit 46)))))), ((nat_lit 10), (nat_lit 1), (.c (.a (.i .u8 (.n (nat_lit 43)))))), ((nat_lit 11), (nat_lit 1), (.c (.a (.i .u8 (.n (nat_lit 45)))))), ((nat_lit 12), (nat_lit 1), (.c (.a (.i .u8 (.n (nat_lit 42)))))), ((nat_lit 13), (nat_lit 1), (.c (.a (.i .u8 (.n (nat_lit 47)))))), ((nat_lit 14), (nat_lit 1), (.c (.a (.i .u8 (.n (nat_lit 37)))))), ((nat_lit 15), (nat_lit 1), (.c (.a (.i .u8 (.n (nat_lit 38)))))), ((nat_lit 16), (nat_lit 1), (.c (.a (.i .u8 (.n (nat_lit 124)))))), ((nat_lit 17), (nat_lit 1), (.c (.a (.i .u8 (.n (nat_lit 94)))))), ((nat_lit 18), (nat_lit 1), (.c (.a (.i .u8 (.n (nat_lit 60)))))), ((nat_lit 19), (nat_lit 1), (.c (.a (.i .u8 (.n (nat_lit 61)))))), ((nat_lit 20), (nat_lit 1), (.c (.a (.i .u8 (.n (nat_lit 33))))))]),
  .c (some (.r (.r (.r (.r .h))))) none (.sm (.s (.l (.r (.r (.r .h)))))),
  .p (.l (.l (.l (.l (.l .h))))) none (.ln (.s (.r (.r (.r (.r .h)))))),
  .p (.r (.l (.l (.l (.l .h))))) none (.mv (.c (.a (.i .i64 (.n (nat_lit 0))))))])
 (.blk (nat_lit 2) (.loop (.seq (.reg [.p (.l (.r (.l (.l (.l .h))))) none (.cp .lss (.s (.r (.l (.l (.l (.l .h)))))) (.s (.l (.l (.l (.l (.l .h)))))))])
 (.seq (.cond (.s (.l (.r (.l (.l (.l .h)))))) .skip (.ex (nat_lit 2)))
 (.seq (.blk (nat_lit 3) (.seq (.reg [.p (.r (.r (.l (.l (.l .h))))) none (.ix (nat_lit 1) (.s (.r (.r (.r (.r .h))))) (.s (.r (.l (.l (.l (.l .h))))))),
  .r (.l (.l (.r (.l (.l .h))))) none (.ld (.s (.r (.r (.l (.l (.l .h))))))),
  .p (.r (.l (.l .h))) none (.mv (.s (.l (.l (.r (.l (.l .h)))))))])
 (.seq (.reg [.p (.r (.l (.r (.l (.l .h))))) none (.mv (.s .h)),
  .p (.l (.r (.r (.l (.l .h))))) none (.mv (.s (.l .h))),
  .p (.r (.r (.r (.l (.l .h))))) none (.sx (.s (.r (.l (.r (.l (.l .h)))))) (.s (.l (.r (.r (.l (.l .h))))))),
  .p (.l (.l (.l (.r (.l .h))))) none (.mv (.s (.r (.l (.l .h))))),
  .p (.r (.l (.l (.r (.l .h))))) none (.cp .eql (.s (.r (.r (.r (.l (.l .h)))))) (.s (.l (.l (.l (.r (.l .h)))))))])
 (.cond (.s (.r (.l (.l (.r (.l .h)))))) (.seq (.reg [.p (.l (.r (.l (.r (.l .h))))) none (.mv (.s .h)),
  .p (.r (.r (.l (.r (.l .h))))) none (.mv (.s (.l .h))),
  .p (.l (.l (.r (.r (.l .h))))) none (.mv (.s (.l .h))),
  .p (.r (.l (.r (.r (.l .h))))) none (.ar .add (.s (.l (.l (.r (.r (.l .h)))))) (.c (.a (.i .i64 (.n (nat_lit 1)))))),
  .p (.l (.r (.r (.r (.l .h))))) none (.ss (.s (.l (.r (.l (.r (.l .h)))))) (some (.s (.r (.r (.l (.r (.l .h))))))) (some (.s (.r (.l (.r (.r (.l .h)))))))),
  .p (.r (.l .h)) none (.mv (.s (.l (.r (.r (.r (.l .h)))))))])
 .rt) .skip))))
 (.reg [.p (.r (.r (.r (.r (.l .h))))) none (.ar .add (.s (.r (.l (.l (.l (.l .h)))))) (.c (.a (.i .i64 (.n (nat_lit 1)))))),
  .p (.r (.l (.l (.l (.l .h))))) none (.mv (.s (.r (.r (.r (.r (.l .h)))))))])))))))
 (.seq (.reg [.p (.r (.l .h)) none (.mv (.c (.a (.t (nat_lit 1)))))])
 .rt)))), false, false⟩
noncomputable def rf57 : RF := ⟨[.h], [.s (.r .h)], (.seq (.reg [.p (.r .h) none (.mv (.c (.a (.b false))))])
 (.seq (.seq (.reg [.a (.l (.r .h)) none (.bs (nat_lit 9) (nat_lit 7) [(.t (nat_lit 1)), (.t (nat_lit 1)), (.t (nat_lit 1)), (.t (nat_lit 1)), (.t (nat_lit 1)), (.t (nat_lit 1)), (.t (nat_lit 1))] [((nat_lit 0), (nat_lit 1), (.c (.a (.t (nat_lit 24273270))))), ((nat_lit 1), (nat_lit 1), (.c (.a (.t (nat_lit 91753))))), ((nat_lit 2), (nat_lit 1), (.c (.a (.t (nat_lit 1535122172023))))), ((nat_lit 3), (nat_lit 1), (.c (.a (.t (nat_lit 402912852600178))))), ((nat_lit 4), (nat_lit 1), (.c (.a (.t (nat_lit 1612482504820))))), ((nat_lit 5), (nat_lit 1), (.c (.a (.t (nat_lit 24736372))))), ((nat_lit 6), (nat_lit 1), (.c (.a (.t (nat_lit 1599580238448)))))]),
  .p (.r (.r .h)) none (.ln (.s (.l (.r .h)))),
  .p (.l (.l (.l .h))) none (.mv (.c (.a (.i .i64 (.n (nat_lit 0))))))])
 (.blk (nat_lit 0) (.loop (.seq (.reg [.p (.r (.l (.l .h))) none (.cp .lss (.s (.l (.l (.l .h)))) (.s (.r (.r .h))))])
 (.seq (.cond (.s (.r (.l (.l .h)))) .skip (.ex (nat_lit 0)))
 (.seq (.blk (nat_lit 1) (.seq (.reg [.p (.l (.r (.l .h))) none (.ix (nat_lit 1) (.s (.l (.r .h))) (.s (.l (.l (.l .h))))),
  .r (.r (.r (.l .h))) none (.ld (.s (.l (.r (.l .h))))),
  .p (.r (.l .h)) none (.mv (.s (.r (.r (.l .h)))))])
 (.seq (.reg [.p (.l (.l (.r .h))) none (.mv (.s .h)),
  .p (.r (.l (.r .h))) none (.mv (.s (.r (.l .h)))),
  .k (some (.l (.r (.r .h)))) none (nat_lit 29) (.l (.r (.r (.r .h)))) [(.s (.l (.l (.r .h)))), (.c (.a (.i .i64 (.n (nat_lit 0))))), (.s (.r (.l (.r .h))))]])
 (.cond (.s (.l (.r (.r .h)))) (.seq (.reg [.p (.r .h) none (.mv (.c (.a (.b true))))])
 .rt) .skip))))
 (.reg [.p (.r (.r (.r .h))) none (.ar .add (.s (.l (.l (.l .h)))) (.c (.a (.i .i64 (.n (nat_lit 1)))))),
  .p (.l (.l (.l .h))) none (.mv (.s (.r (.r (.r .h)))))])))))))
 (.seq (.reg [.p (.l (.l (.l (.l .h)))) none (.mv (.s .h)),
  .k (some (.r (.l (.l (.l .h))))) none (nat_lit 34) (.r (.r (.l (.l (.l .h))))) [(.s (.l (.l (.l (.l .h))))), (.c (.a (.i .i64 (.n (nat_lit 0))))), (.c (.a (.i .i64 (.n (nat_lit 1)))))],
  .p (.r .h) none (.mv (.s (.r (.l (.l (.l .h))))))])
 .rt))), false, false⟩
noncomputable def rf58 : RF := ⟨[.h, (.l .h)], [.g (.r (.l .h)) (nat_lit 13)], (.seq (.reg [.a (.r (.l .h)) none (.al (nat_lit 114) (nat_lit 13) (.n (.n (.n (.n .e .s0 .e) (.t (nat_lit 1)) (.n .e .s0 .e)) (.i .i64 (.n (nat_lit 0))) (.n (.n .e (.i .i64 (.n (nat_lit 0))) .e) (.i .i64 (.n (nat_lit 0))) .e)) (.i .i64 (.n (nat_lit 0))) (.n (.n (.n .e (.t (nat_lit 1)) .e) (.t (nat_lit 1)) (.n .e .s0 .e)) (.i .i64 (.n (nat_lit 0))) (.n (.n .e .s0 .e) (.i .i64 (.n (nat_lit 0))) .e))))])
 (.seq (.drw [⟨.p (.l (.l (.l .h))) none (.mv (.s .h)), (nat_lit 0), [], []⟩,
  ⟨.p (.r (.l (.l .h))) none (.nc (.s (.l (.l (.l .h))))), (nat_lit 1), [(nat_lit 0)], []⟩,
  ⟨.p (.l (.r (.l .h))) none (.fa (nat_lit 0) (.s (.r (.l (.l .h))))), (nat_lit 2), [(nat_lit 0), (nat_lit 1)], []⟩,
  ⟨.r (.r (.r (.l .h))) none (.ld (.s (.l (.r (.l .h))))), (nat_lit 3), [(nat_lit 0), (nat_lit 1), (nat_lit 2)], []⟩,
  ⟨.p (.l (.l (.r .h))) none (.mv (.s .h)), (nat_lit 4), [], []⟩,
  ⟨.p (.r (.l (.r .h))) none (.nc (.s (.l (.l (.r .h))))), (nat_lit 5), [(nat_lit 4)], []⟩,
  ⟨.p (.l (.r (.r .h))) none (.fa (nat_lit 1) (.s (.r (.l (.r .h))))), (nat_lit 6), [(nat_lit 4), (nat_lit 5)], []⟩,
  ⟨.r (.r (.r (.r .h))) none (.ld (.s (.l (.r (.r .h))))), (nat_lit 7), [(nat_lit 4), (nat_lit 5), (nat_lit 6)], []⟩,
  ⟨.p (.l (.l (.l (.l .h)))) none (.ix (nat_lit 4) (.s (.r (.r (.l .h)))) (.s (.r (.r (.r .h))))), (nat_lit 8), [(nat_lit 0), (nat_lit 1), (nat_lit 2), (nat_lit 3), (nat_lit 4), (nat_lit 5), (nat_lit 6), (nat_lit 7)], []⟩,
  ⟨.p (.r (.l (.l (.l .h)))) none (.fa (nat_lit 1) (.s (.l (.l (.l (.l .h)))))), (nat_lit 9), [(nat_lit 0), (nat_lit 1), (nat_lit 2), (nat_lit 3), (nat_lit 4), (nat_lit 5), (nat_lit 6), (nat_lit 7), (nat_lit 8)], []⟩,
  ⟨.r (.l (.r (.l (.l .h)))) none (.ld (.s (.r (.l (.l (.l .h)))))), (nat_lit 10), [(nat_lit 0), (nat_lit 1), (nat_lit 2), (nat_lit 3), (nat_lit 4), (nat_lit 5), (nat_lit 6), (nat_lit 7), (nat_lit 8), (nat_lit 9)], []⟩,
  ⟨.p (.r (.r (.l (.l .h)))) none (.bd [(.i .i64 (.n (nat_lit 0))), (.i .i64 (.n (nat_lit 0))), (.i .i64 (.n (nat_lit 0))), (.t (nat_lit 1)), (.t (nat_lit 1)), (.i .i64 (.n (nat_lit 0))), (.i .i64 (.n (nat_lit 0))), .s0, (.t (nat_lit 1)), (.i .i64 (.n (nat_lit 0))), .s0, .s0, .s0] [((nat_lit 1), (nat_lit 1), (.s (.l (.r (.l (.l .h))))))]), (nat_lit 11), [(nat_lit 0), (nat_lit 1), (nat_lit 2), (nat_lit 3), (nat_lit 4), (nat_lit 5), (nat_lit 6), (nat_lit 7), (nat_lit 8), (nat_lit 9), (nat_lit 10)], []⟩,
  ⟨.a (.l (.r .h)) none (.al (nat_lit 114) (nat_lit 13) (.n (.n (.n (.n .e .s0 .e) (.t (nat_lit 1)) (.n .e .s0 .e)) (.i .i64 (.n (nat_lit 0))) (.n (.n .e (.i .i64 (.n (nat_lit 0))) .e) (.i .i64 (.n (nat_lit 0))) .e)) (.i .i64 (.n (nat_lit 0))) (.n (.n (.n .e (.t (nat_lit 1)) .e) (.t (nat_lit 1)) (.n .e .s0 .e)) (.i .i64 (.n (nat_lit 0))) (.n (.n .e .s0 .e) (.i .i64 (.n (nat_lit 0))) .e)))), (nat_lit 12), [], []⟩,
  ⟨.c none none (.st (nat_lit 13) (.s (.l (.r .h))) (.s (.r (.r (.l (.l .h)))))), (nat_lit 13), [(nat_lit 0), (nat_lit 1), (nat_lit 2), (nat_lit 3), (nat_lit 4), (nat_lit 5), (nat_lit 6), (nat_lit 7), (nat_lit 8), (nat_lit 9), (nat_lit 10), (nat_lit 11), (nat_lit 12)], []⟩])
 (.seq (.reg [.p (.r (.r .h)) none (.mv (.c (.a (.t (nat_lit 1)))))])
 (.seq (.seq (.reg [.p (.l (.l (.r (.l .h)))) none (.mv (.s .h)),
  .k (some (.r (.l (.r (.l .h))))) none (nat_lit 34) (.r (.r (.l (.l (.l .h))))) [(.s (.l (.l (.r (.l .h))))), (.c (.a (.i .i64 (.n (nat_lit 0))))), (.c (.a (.i .i64 (.n (nat_lit 3)))))]])
 (.cond (.s (.r (.l (.r (.l .h))))) (.seq (.drw [⟨.p (.l (.r (.r (.l .h)))) none (.mv (.s .h)), (nat_lit 0), [], []⟩,
  ⟨.p (.r (.r (.r (.l .h)))) none (.nc (.s (.l (.r (.r (.l .h)))))), (nat_lit 1), [(nat_lit 0)], []⟩,
  ⟨.p (.l (.l (.l (.r .h)))) none (.fa (nat_lit 0) (.s (.r (.r (.r (.l .h)))))), (nat_lit 2), [(nat_lit 0), (nat_lit 1)], []⟩,
  ⟨.r (.r (.l (.l (.r .h)))) none (.ld (.s (.l (.l (.l (.r .h)))))), (nat_lit 3), [(nat_lit 0), (nat_lit 1), (nat_lit 2)], []⟩,
  ⟨.p (.l (.r (.l (.r .h)))) none (.mv (.s .h)), (nat_lit 4), [], []⟩,
  ⟨.p (.r (.r (.l (.r .h)))) none (.nc (.s (.l (.r (.l (.r .h)))))), (nat_lit 5), [(nat_lit 4)], []⟩,
  ⟨.p (.l (.l (.r (.r .h)))) none (.fa (nat_lit 1) (.s (.r (.r (.l (.r .h)))))), (nat_lit 6), [(nat_lit 4), (nat_lit 5)], []⟩,
  ⟨.r (.r (.l (.r (.r .h)))) none (.ld (.s (.l (.l (.r (.r .h)))))), (nat_lit 7), [(nat_lit 4), (nat_lit 5), (nat_lit 6)], []⟩,
  ⟨.p (.l (.r (.r (.r .h)))) none (.ix (nat_lit 4) (.s (.r (.l (.l (.r .h))))) (.s (.r (.l (.r (.r .h)))))), (nat_lit 8), [(nat_lit 0), (nat_lit 1), (nat_lit 2), (nat_lit 3), (nat_lit 4), (nat_lit 5), (nat_lit 6), (nat_lit 7)], []⟩,
  ⟨.p (.r (.r (.r (.r .h)))) none (.fa (nat_lit 2) (.s (.l (.r (.r (.r .h)))))), (nat_lit 9), [(nat_lit 0), (nat_lit 1), (nat_lit 2), (nat_lit 3), (nat_lit 4), (nat_lit 5), (nat_lit 6), (nat_lit 7), (nat_lit 8)], []⟩,
  ⟨.r (.l (.l (.l (.l (.l .h))))) none (.ld (.s (.r (.r (.r (.r .h)))))), (nat_lit 10), [(nat_lit 0), (nat_lit 1), (nat_lit 2), (nat_lit 3), (nat_lit 4), (nat_lit 5), (nat_lit 6), (nat_lit 7), (nat_lit 8), (nat_lit 9)], []⟩,
  ⟨.p (.r (.r .h)) none (.mv (.s (.l (.l (.l (.l (.l .h))))))), (nat_lit 11), [(nat_lit 0), (nat_lit 1), (nat_lit 2), (nat_lit 3), (nat_lit 4), (nat_lit 5), (nat_lit 6), (nat_lit 7), (nat_lit 8), (nat_lit 9), (nat_lit 10)], []⟩])
 (.reg [.p (.r (.l (.l (.l (.l .h))))) none (.mv (.s .h)),
  .p (.l (.r (.l (.l (.l .h))))) none (.nc (.s (.r (.l (.l (.l (.l .h))))))),
  .p (.r (.r (.l (.l (.l .h))))) none (.fa (nat_lit 1) (.s (.l (.r (.l (.l (.l .h))))))),
  .r (.l (.l (.r (.l (.l .h))))) none (.ld (.s (.r (.r (.l (.l (.l .h))))))),
  .p (.r (.l (.r (.l (.l .h))))) none (.ar .add (.s (.l (.l (.r (.l (.l .h)))))) (.c (.a (.i .i64 (.n (nat_lit 1)))))),
  .p (.l (.r (.r (.l (.l .h))))) none (.nc (.s (.r (.l (.l (.l (.l .h))))))),
  .p (.r (.r (.r (.l (.l .h))))) none (.fa (nat_lit 1) (.s (.l (.r (.r (.l (.l .h))))))),
  .c none none (.st (nat_lit 1) (.s (.r (.r (.r (.l (.l .h)))))) (.s (.r (.l (.r (.l (.l .h)))))))])) .skip))
 (.seq (.seq (.reg [.p (.l (.l (.l (.r (.l .h))))) none (.mv (.s (.r (.r .h))))])
 (.blk (nat_lit 0) (.seq (.reg [.p (.l (.r (.r (.r (.l .h))))) none (.eq false false [(nat_lit 2)] (.s (.l (.l (.l (.r (.l .h)))))) (.c (.a (.t (nat_lit 24273270))))),
  .p (.r (.l (.r (.r (.l .h))))) none (.mv (.s (.l (.r (.r (.r (.l .h)))))))])
 (.cond (.s (.r (.l (.r (.r (.l .h)))))) (.seq (.reg [.p (.r (.r (.r (.r (.l .h))))) none (.mv (.s .h)),
  .k (some (.l (.l (.l (.l (.r .h)))))) none (nat_lit 30) (.r (.r (.r (.r .h)))) [(.s (.r (.r (.r (.r (.l .h))))))],
  .p (.r (.l (.l (.l (.r .h))))) none (.fa (nat_lit 0) (.s (.l (.r .h)))),
  .c none none (.st (nat_lit 1) (.s (.r (.l (.l (.l (.r .h)))))) (.c (.a (.i .i64 (.n (nat_lit 1)))))),
  .p (.l (.r (.l (.l (.r .h))))) none (.fa (nat_lit 3) (.s (.l (.r .h)))),
  .c none none (.st (nat_lit 1) (.s (.l (.r (.l (.l (.r .h)))))) (.s (.l (.l (.l (.l (.r .h)))))))])
 (.seq (.reg [.p (.r (.r (.l (.l (.r .h))))) none (.mv (.s .h)),
  .k (some (.l (.l (.r (.l (.r .h)))))) none (nat_lit 31) (.l (.l (.l (.l (.l .h))))) [(.s (.r (.r (.l (.l (.r .h)))))), (.c (.a (.t (nat_lit 314))))]])
 (.seq (.reg [.p (.r (.l (.r (.l (.r .h))))) none (.mv (.s .h)),
  .k (some (.l (.r (.r (.l (.r .h)))))) none (nat_lit 69) (.l (.r (.r (.l (.l (.l .h)))))) [(.s (.r (.l (.r (.l (.r .h)))))), (.s (.l (.r .h)))]])
 (.reg [.p (.r (.r (.r (.l (.r .h))))) none (.mv (.s .h)),
  .k (some (.l (.l (.l (.r (.r .h)))))) none (nat_lit 31) (.l (.l (.l (.l (.l .h))))) [(.s (.r (.r (.r (.l (.r .h)))))), (.c (.a (.t (nat_lit 315))))]])))) (.seq (.reg [.p (.l (.r (.l (.r (.r .h))))) none (.eq false false [(nat_lit 2)] (.s (.l (.l (.l (.r (.l .h)))))) (.c (.a (.t (nat_lit 91753))))),
  .p (.r (.l (.l (.r (.r .h))))) none (.mv (.s (.l (.r (.l (.r (.r .h)))))))])
 (.cond (.s (.r (.l (.l (.r (.r .h)))))) (.seq (.reg [.p (.r (.r (.l (.r (.r .h))))) none (.mv (.s .h)),
  .k (some (.l (.l (.r (.r (.r .h)))))) none (nat_lit 70) (.r (.r (.r (.l (.l (.l .h)))))) [(.s (.r (.r (.l (.r (.r .h)))))), (.c (.a (.i .i64 (.n (nat_lit 1))))), (.c (.a (.i .i64 (.n (nat_lit 0)))))],
  .a (.r (.l (.r (.r (.r .h))))) none (.bs (nat_lit 168) (nat_lit 1) [(.i .i64 (.n (nat_lit 0))), (.i .i64 (.n (nat_lit 0))), (.i .i64 (.n (nat_lit 0))), (.t (nat_lit 1)), (.t (nat_lit 1)), .s0] [((nat_lit 0), (nat_lit 6), (.s (.l (.l (.r (.r (.r .h)))))))]),
  .p (.l (.r (.r (.r (.r .h))))) none (.fa (nat_lit 0) (.s (.l (.r .h)))),
  .c none none (.st (nat_lit 1) (.s (.l (.r (.r (.r (.r .h)))))) (.c (.a (.i .i64 (.n (nat_lit 4)))))),
  .p (.r (.r (.r (.r (.r .h))))) none (.fa (nat_lit 10) (.s (.l (.r .h)))),
  .c none none (.st (nat_lit 1) (.s (.r (.r (.r (.r (.r .h)))))) (.s (.r (.l (.r (.r (.r .h)))))))])
 (.seq (.reg [.p (.r (.l (.l (.l (.l (.l .h)))))) none (.mv (.s .h)),
  .p (.l (.r (.l (.l (.l (.l .h)))))) none (.mv (.s (.l .h))),
  .p (.r (.r (.l (.l (.l (.l .h)))))) none (.ar .add (.s (.l (.r (.l (.l (.l (.l .h))))))) (.c (.a (.i .i64 (.n (nat_lit 1)))))),
  .k (some (.l (.l (.r (.l (.l (.l .h))))))) none (nat_lit 33) (.l (.r (.l (.l (.l .h))))) [(.s (.r (.l (.l (.l (.l (.l .h))))))), (.s (.r (.r (.l (.l (.l (.l .h)))))))],
  .p (.l (.l (.l (.l (.l (.l .h)))))) none (.mv (.s (.l (.l (.r (.l (.l (.l .h)))))))),
  .p (.r (.l (.r (.l (.l (.l .h)))))) none (.ex (nat_lit 0) (.s (.l (.l (.l (.l (.l (.l .h)))))))),
  .p (.l (.r (.r (.l (.l (.l .h)))))) none (.ex (nat_lit 1) (.s (.l (.l (.l (.l (.l (.l .h)))))))),
  .p (.r (.r (.r (.l (.l (.l .h)))))) none (.fa (nat_lit 11) (.s (.l (.r .h)))),
  .c none none (.st (nat_lit 1) (.s (.r (.r (.r (.l (.l (.l .h))))))) (.s (.r (.l (.r (.l (.l (.l .h))))))))])
 (.seq (.reg [.p (.l (.l (.l (.r (.l (.l .h)))))) none (.mv (.s .h)),
  .p (.r (.l (.l (.r (.l (.l .h)))))) none (.nc (.s (.l (.l (.l (.r (.l (.l .h)))))))),
  .p (.l (.r (.l (.r (.l (.l .h)))))) none (.fa (nat_lit 3) (.s (.r (.l (.l (.r (.l (.l .h)))))))),
  .r (.r (.r (.l (.r (.l (.l .h)))))) none (.ld (.s (.l (.r (.l (.r (.l (.l .h)))))))),
  .p (.l (.l (.r (.r (.l (.l .h)))))) none (.cp .eql (.s (.r (.r (.l (.r (.l (.l .h))))))) (.c (.a (.i .i64 (.n (nat_lit 0)))))),
  .p (.r (.l (.r (.r (.l (.l .h)))))) none (.mv (.s (.l (.l (.r (.r (.l (.l .h)))))))),
  .p (.l (.r (.r (.r (.l (.l .h)))))) (some ((.r (.l (.r (.r (.l (.l .h)))))), true)) (.mv (.s .h)),
  .k (some (.r (.r (.r (.r (.l (.l .h))))))) (some ((.r (.l (.r (.r (.l (.l .h)))))), true)) (nat_lit 29) (.l (.r (.r (.r .h)))) [(.s (.l (.r (.r (.r (.l (.l .h))))))), (.c (.a (.i .i64 (.n (nat_lit 0))))), (.c (.a (.t (nat_lit 5997030501))))],
  .p (.l (.l (.l (.l (.r (.l .h)))))) none (.pk (.s (.r (.l (.r (.r (.l (.l .h))))))) (.s (.r (.r (.r (.r (.l (.l .h))))))) (.c (.a (.b false))))])
 (.cond (.s (.l (.l (.l (.l (.r (.l .h))))))) (.seq (.reg [.p (.r (.l (.l (.l (.r (.l .h)))))) none (.mv (.s .h)),
  .p (.l (.r (.l (.l (.r (.l .h)))))) none (.nc (.s (.r (.l (.l (.l (.r (.l .h)))))))),
  .p (.r (.r (.l (.l (.r (.l .h)))))) none (.fa (nat_lit 1) (.s (.l (.r (.l (.l (.r (.l .h)))))))),
  .r (.l (.l (.r (.l (.r (.l .h)))))) none (.ld (.s (.r (.r (.l (.l (.r (.l .h)))))))),
  .p (.r (.l (.r (.l (.r (.l .h)))))) none (.ar .add (.s (.l (.l (.r (.l (.r (.l .h))))))) (.c (.a (.i .i64 (.n (nat_lit 1)))))),
  .p (.l (.r (.r (.l (.r (.l .h)))))) none (.nc (.s (.r (.l (.l (.l (.r (.l .h)))))))),
  .p (.r (.r (.r (.l (.r (.l .h)))))) none (.fa (nat_lit 1) (.s (.l (.r (.r (.l (.r (.l .h)))))))),
  .c none none (.st (nat_lit 1) (.s (.r (.r (.r (.l (.r (.l .h))))))) (.s (.r (.l (.r (.l (.r (.l .h))))))))])
 (.reg [.p (.r (.l (.l (.r (.r (.l .h)))))) none (.mv (.s .h)),
  .p (.l (.r (.l (.r (.r (.l .h)))))) none (.mv (.s (.l .h))),
  .p (.r (.r (.l (.r (.r (.l .h)))))) none (.ar .add (.s (.l (.r (.l (.r (.r (.l .h))))))) (.c (.a (.i .i64 (.n (nat_lit 1)))))),
  .k (some (.l (.l (.r (.r (.r (.l .h))))))) none (nat_lit 33) (.l (.r (.l (.l (.l .h))))) [(.s (.r (.l (.l (.r (.r (.l .h))))))), (.s (.r (.r (.l (.r (.r (.l .h)))))))],
  .p (.l (.l (.l (.r (.r (.l .h)))))) none (.mv (.s (.l (.l (.r (.r (.r (.l .h)))))))),
  .p (.r (.l (.r (.r (.r (.l .h)))))) none (.ex (nat_lit 0) (.s (.l (.l (.l (.r (.r (.l .h)))))))),
  .p (.l (.r (.r (.r (.r (.l .h)))))) none (.ex (nat_lit 1) (.s (.l (.l (.l (.r (.r (.l .h)))))))),
  .p (.r (.r (.r (.r (.r (.l .h)))))) none (.fa (nat_lit 12) (.s (.l (.r .h)))),
  .c none none (.st (nat_lit 1) (.s (.r (.r (.r (.r (.r (.l .h))))))) (.s (.r (.l (.r (.r (.r (.l .h))))))))])) .skip)))) (.seq (.reg [.p (.r (.l (.l (.l (.l (.r .h)))))) none (.eq false false [(nat_lit 2)] (.s (.l (.l (.l (.r (.l .h)))))) (.c (.a (.t (nat_lit 1535122172023))))),
  .p (.l (.l (.l (.l (.l (.r .h)))))) none (.mv (.s (.r (.l (.l (.l (.l (.r .h))))))))])
 (.cond (.s (.l (.l (.l (.l (.l (.r .h))))))) (.seq (.reg [.p (.l (.r (.l (.l (.l (.r .h)))))) none (.mv (.s .h)),
  .k (some (.r (.r (.l (.l (.l (.r .h))))))) none (nat_lit 70) (.r (.r (.r (.l (.l (.l .h)))))) [(.s (.l (.r (.l (.l (.l (.r .h))))))), (.c (.a (.i .i64 (.n (nat_lit 1))))), (.c (.a (.i .i64 (.n (nat_lit 0)))))],
  .a (.l (.l (.r (.l (.l (.r .h)))))) none (.bs (nat_lit 168) (nat_lit 1) [(.i .i64 (.n (nat_lit 0))), (.i .i64 (.n (nat_lit 0))), (.i .i64 (.n (nat_lit 0))), (.t (nat_lit 1)), (.t (nat_lit 1)), .s0] [((nat_lit 0), (nat_lit 6), (.s (.r (.r (.l (.l (.l (.r .h))))))))]),
  .p (.r (.l (.r (.l (.l (.r .h)))))) none (.fa (nat_lit 0) (.s (.l (.r .h)))),
  .c none none (.st (nat_lit 1) (.s (.r (.l (.r (.l (.l (.r .h))))))) (.c (.a (.i .i64 (.n (nat_lit 5)))))),
  .p (.l (.r (.r (.l (.l (.r .h)))))) none (.fa (nat_lit 10) (.s (.l (.r .h)))),
  .c none none (.st (nat_lit 1) (.s (.l (.r (.r (.l (.l (.r .h))))))) (.s (.l (.l (.r (.l (.l (.r .h))))))))])
 (.reg [.p (.l (.l (.l (.r (.l (.r .h)))))) none (.mv (.s .h)),
  .p (.r (.l (.l (.r (.l (.r .h)))))) none (.mv (.s (.l .h))),
  .p (.l (.r (.l (.r (.l (.r .h)))))) none (.ar .add (.s (.r (.l (.l (.r (.l (.r .h))))))) (.c (.a (.i .i64 (.n (nat_lit 1)))))),
  .k (some (.r (.r (.l (.r (.l (.r .h))))))) none (nat_lit 33) (.l (.r (.l (.l (.l .h))))) [(.s (.l (.l (.l (.r (.l (.r .h))))))), (.s (.l (.r (.l (.r (.l (.r .h)))))))],
  .p (.r (.r (.r (.l (.l (.r .h)))))) none (.mv (.s (.r (.r (.l (.r (.l (.r .h)))))))),
  .p (.l (.l (.r (.r (.l (.r .h)))))) none (.ex (nat_lit 0) (.s (.r (.r (.r (.l (.l (.r .h)))))))),
  .p (.r (.l (.r (.r (.l (.r .h)))))) none (.ex (nat_lit 1) (.s (.r (.r (.r (.l (.l (.r .h)))))))),
  .p (.l (.r (.r (.r (.l (.r .h)))))) none (.fa (nat_lit 11) (.s (.l (.r .h)))),
  .c none none (.st (nat_lit 1) (.s (.l (.r (.r (.r (.l (.r .h))))))) (.s (.l (.l (.r (.r (.l (.r .h))))))))])) (.seq (.reg [.p (.l (.l (.l (.l (.r (.r .h)))))) none (.eq false false [(nat_lit 2)] (.s (.l (.l (.l (.r (.l .h)))))) (.c (.a (.t (nat_lit 24736372))))),
  .p (.r (.r (.r (.r (.l (.r .h)))))) none (.mv (.s (.l (.l (.l (.l (.r (.r .h))))))))])
 (.cond (.s (.r (.r (.r (.r (.l (.r .h))))))) (.seq (.reg [.p (.r (.l (.l (.l (.r (.r .h)))))) none (.fa (nat_lit 0) (.s (.l (.r .h)))),
  .c none none (.st (nat_lit 1) (.s (.r (.l (.l (.l (.r (.r .h))))))) (.c (.a (.i .i64 (.n (nat_lit 8))))))])
 (.seq (.reg [.p (.r (.r (.l (.l (.r (.r .h)))))) none (.mv (.s .h)),
  .p (.l (.l (.r (.l (.r (.r .h)))))) none (.mv (.s (.l .h))),
  .p (.r (.l (.r (.l (.r (.r .h)))))) none (.ar .add (.s (.l (.l (.r (.l (.r (.r .h))))))) (.c (.a (.i .i64 (.n (nat_lit 1)))))),
  .k (some (.l (.r (.r (.l (.r (.r .h))))))) none (nat_lit 33) (.l (.r (.l (.l (.l .h))))) [(.s (.r (.r (.l (.l (.r (.r .h))))))), (.s (.r (.l (.r (.l (.r (.r .h)))))))],
  .p (.l (.r (.l (.l (.r (.r .h)))))) none (.mv (.s (.l (.r (.r (.l (.r (.r .h)))))))),
  .p (.r (.r (.r (.l (.r (.r .h)))))) none (.ex (nat_lit 0) (.s (.l (.r (.l (.l (.r (.r .h)))))))),
  .p (.l (.l (.l (.r (.r (.r .h)))))) none (.ex (nat_lit 1) (.s (.l (.r (.l (.l (.r (.r .h)))))))),
  .p (.r (.l (.l (.r (.r (.r .h)))))) none (.fa (nat_lit 11) (.s (.l (.r .h)))),
  .c none none (.st (nat_lit 1) (.s (.r (.l (.l (.r (.r (.r .h))))))) (.s (.r (.r (.r (.l (.r (.r .h))))))))])
 (.seq (.reg [.p (.l (.r (.l (.r (.r (.r .h)))))) none (.mv (.s .h)),
  .k (some (.r (.r (.l (.r (.r (.r .h))))))) none (nat_lit 31) (.l (.l (.l (.l (.l .h))))) [(.s (.l (.r (.l (.r (.r (.r .h))))))), (.c (.a (.t (nat_lit 1547856798051))))]])
 (.seq (.reg [.p (.l (.l (.r (.r (.r (.r .h)))))) none (.mv (.s .h)),
  .k (some (.r (.l (.r (.r (.r (.r .h))))))) none (nat_lit 30) (.r (.r (.r (.r .h)))) [(.s (.l (.l (.r (.r (.r (.r .h)))))))],
  .p (.l (.r (.r (.r (.r (.r .h)))))) none (.fa (nat_lit 3) (.s (.l (.r .h)))),
  .c none none (.st (nat_lit 1) (.s (.l (.r (.r (.r (.r (.r .h))))))) (.s (.r (.l (.r (.r (.r (.r .h))))))))])
 (.reg [.p (.l (.l (.l (.l (.l (.l (.l .h))))))) none (.mv (.s .h)),
  .p (.r (.l (.l (.l (.l (.l (.l .h))))))) none (.mv (.s (.l .h))),
  .p (.l (.r (.l (.l (.l (.l (.l .h))))))) none (.ar .add (.s (.r (.l (.l (.l (.l (.l (.l .h)))))))) (.c (.a (.i .i64 (.n (nat_lit 1)))))),
  .k (some (.r (.r (.l (.l (.l (.l (.l .h)))))))) none (nat_lit 33) (.l (.r (.l (.l (.l .h))))) [(.s (.l (.l (.l (.l (.l (.l (.l .h)))))))), (.s (.l (.r (.l (.l (.l (.l (.l .h))))))))],
  .p (.r (.r (.r (.r (.r (.r .h)))))) none (.mv (.s (.r (.r (.l (.l (.l (.l (.l .h))))))))),
  .p (.l (.l (.r (.l (.l (.l (.l .h))))))) none (.ex (nat_lit 0) (.s (.r (.r (.r (.r (.r (.r .h)))))))),
  .p (.r (.l (.r (.l (.l (.l (.l .h))))))) none (.ex (nat_lit 1) (.s (.r (.r (.r (.r (.r (.r .h)))))))),
  .p (.l (.r (.r (.l (.l (.l (.l .h))))))) none (.fa (nat_lit 12) (.s (.l (.r .h)))),
  .c none none (.st (nat_lit 1) (.s (.l (.r (.r (.l (.l (.l (.l .h)))))))) (.s (.l (.l (.r (.l (.l (.l (.l .h)))))))))]))))) (.seq (.reg [.p (.l (.l (.l (.r (.l (.l (.l .h))))))) none (.eq false false [(nat_lit 2)] (.s (.l (.l (.l (.r (.l .h)))))) (.c (.a (.t (nat_lit 402912852600178))))),
  .p (.r (.r (.r (.l (.l (.l (.l .h))))))) none (.mv (.s (.l (.l (.l (.r (.l (.l (.l .h)))))))))])
 (.cond (.s (.r (.r (.r (.l (.l (.l (.l .h)))))))) (.seq (.reg [.p (.r (.l (.l (.r (.l (.l (.l .h))))))) none (.fa (nat_lit 0) (.s (.l (.r .h)))),
  .c none none (.st (nat_lit 1) (.s (.r (.l (.l (.r (.l (.l (.l .h)))))))) (.c (.a (.i .i64 (.n (nat_lit 6))))))])
 (.seq (.reg [.p (.l (.r (.l (.r (.l (.l (.l .h))))))) none (.mv (.s .h)),
  .k (some (.r (.r (.l (.r (.l (.l (.l .h)))))))) none (nat_lit 71) (.l (.l (.l (.r (.l (.l .h)))))) [(.s (.l (.r (.l (.r (.l (.l (.l .h)))))))), (.s (.l (.r .h))), (.c (.a (.b true)))]])
 (.reg [.p (.l (.l (.r (.r (.l (.l (.l .h))))))) none (.mv (.s .h)),
  .k (some (.r (.l (.r (.r (.l (.l (.l .h)))))))) none (nat_lit 31) (.l (.l (.l (.l (.l .h))))) [(.s (.l (.l (.r (.r (.l (.l (.l .h)))))))), (.c (.a (.t (nat_lit 315))))]]))) (.seq (.reg [.p (.r (.r (.r (.r (.l (.l (.l .h))))))) none (.eq false false [(nat_lit 2)] (.s (.l (.l (.l (.r (.l .h)))))) (.c (.a (.t (nat_lit 1612482504820))))),
  .p (.l (.r (.r (.r (.l (.l (.l .h))))))) none (.mv (.s (.r (.r (.r (.r (.l (.l (.l .h)))))))))])
 (.cond (.s (.l (.r (.r (.r (.l (.l (.l .h)))))))) (.seq (.reg [.p (.l (.l (.l (.l (.r (.l (.l .h))))))) none (.fa (nat_lit 0) (.s (.l (.r .h)))),
  .c none none (.st (nat_lit 1) (.s (.l (.l (.l (.l (.r (.l (.l .h)))))))) (.c (.a (.i .i64 (.n (nat_lit 7))))))])
 (.seq (.reg [.p (.r (.l (.l (.l (.r (.l (.l .h))))))) none (.mv (.s .h)),
  .k (some (.l (.r (.l (.l (.r (.l (.l .h)))))))) none (nat_lit 71) (.l (.l (.l (.r (.l (.l .h)))))) [(.s (.r (.l (.l (.l (.r (.l (.l .h)))))))), (.s (.l (.r .h))), (.c (.a (.b false)))]])
 (.reg [.p (.r (.r (.l (.l (.r (.l (.l .h))))))) none (.mv (.s .h)),
  .k (some (.l (.l (.r (.l (.r (.l (.l .h)))))))) none (nat_lit 31) (.l (.l (.l (.l (.l .h))))) [(.s (.r (.r (.l (.l (.r (.l (.l .h)))))))), (.c (.a (.t (nat_lit 315))))]]))) (.seq (.reg [.p (.l (.r (.r (.l (.r (.l (.l .h))))))) none (.eq false false [(nat_lit 2)] (.s (.l (.l (.l (.r (.l .h)))))) (.c (.a (.t (nat_lit 1599580238448))))),
  .p (.r (.l (.r (.l (.r (.l (.l .h))))))) none (.mv (.s (.l (.r (.r (.l (.r (.l (.l .h)))))))))])
 (.cond (.s (.r (.l (.r (.l (.r (.l (.l .h)))))))) (.seq (.reg [.p (.r (.r (.r (.l (.r (.l (.l .h))))))) none (.fa (nat_lit 0) (.s (.l (.r .h)))),
  .c none none (.st (nat_lit 1) (.s (.r (.r (.r (.l (.r (.l (.l .h)))))))) (.c (.a (.i .i64 (.n (nat_lit 9))))))])
 (.seq (.reg [.p (.l (.l (.l (.r (.r (.l (.l .h))))))) none (.mv (.s .h)),
  .k (some (.r (.l (.l (.r (.r (.l (.l .h)))))))) none (nat_lit 71) (.l (.l (.l (.r (.l (.l .h)))))) [(.s (.l (.l (.l (.r (.r (.l (.l .h)))))))), (.s (.l (.r .h))), (.c (.a (.b false)))]])
 (.reg [.p (.l (.r (.l (.r (.r (.l (.l .h))))))) none (.mv (.s .h)),
  .k (some (.r (.r (.l (.r (.r (.l (.l .h)))))))) none (nat_lit 31) (.l (.l (.l (.l (.l .h))))) [(.s (.l (.r (.l (.r (.r (.l (.l .h)))))))), (.c (.a (.t (nat_lit 315))))]]))) (.seq (.reg [.p (.r (.l (.l (.r (.l .h))))) none (.mv (.s .h)),
  .k (some (.l (.r (.l (.r (.l .h)))))) none (nat_lit 72) (.r (.l (.l (.r (.l (.l .h)))))) [(.s (.r (.l (.l (.r (.l .h)))))), (.s (.l (.r .h)))]])
 (.reg [.p (.r (.r (.l (.r (.l .h))))) none (.mv (.s .h)),
  .k (some (.l (.l (.r (.r (.l .h)))))) none (nat_lit 31) (.l (.l (.l (.l (.l .h))))) [(.s (.r (.r (.l (.r (.l .h)))))), (.c (.a (.t (nat_lit 315))))]]))))))))))))))))))
 (.seq (.reg [.r (.l (.l (.r (.r (.r (.l (.l .h))))))) none (.lg (nat_lit 13) (.s (.l (.r .h)))),
  .c none none (.st (nat_lit 13) (.s (.r (.l .h))) (.s (.l (.l (.r (.r (.r (.l (.l .h)))))))))])
 .rt)))))), false, false⟩
noncomputable def rf59 : RF := ⟨[.h, (.l .h)], [.s (.r (.l .h))], (.seq (.reg [.a (.l (.l .h)) none (.bx (nat_lit 80) (nat_lit 7) (.s (.l .h))),
  .p (.r (.l .h)) none (.mv (.c (.a (.i .i64 (.n (nat_lit 0))))))])
 (.seq (.reg [.p (.l (.r .h)) none (.mv (.s .h)),
  .p (.r (.r .h)) none (.nc (.s (.l (.r .h)))),
  .p (.l (.l (.l .h))) none (.fa (nat_lit 2) (.s (.r (.r .h)))),
  .p (.r (.l (.l .h))) none (.fa (nat_lit 3) (.s (.l (.l (.l .h))))),
  .r (.l (.r (.l .h))) none (.ld (.s (.r (.l (.l .h))))),
  .p (.r (.r (.l .h))) none (.ln (.s (.l (.r (.l .h))))),
  .p (.l (.l (.r .h))) none (.fa (nat_lit 5) (.s (.l (.l .h)))),
  .c none none (.st (nat_lit 1) (.s (.l (.l (.r .h)))) (.s (.r (.r (.l .h)))))])
 (.seq (.drw [⟨.p (.r (.l (.r .h))) none (.mv (.s .h)), (nat_lit 0), [], []⟩,
  ⟨.p (.l (.r (.r .h))) none (.mv (.s .h)), (nat_lit 1), [], []⟩,
  ⟨.p (.r (.r (.r .h))) none (.nc (.s (.l (.r (.r .h))))), (nat_lit 2), [(nat_lit 1)], []⟩,
  ⟨.p (.l (.l (.l (.l .h)))) none (.fa (nat_lit 7) (.s (.r (.r (.r .h))))), (nat_lit 3), [(nat_lit 1), (nat_lit 2)], []⟩,
  ⟨.r (.r (.l (.l (.l .h)))) none (.ld (.s (.l (.l (.l (.l .h)))))), (nat_lit 4), [(nat_lit 1), (nat_lit 2), (nat_lit 3)], []⟩,
  ⟨.r (.l (.r (.l (.l .h)))) none (.lg (nat_lit 7) (.s (.l (.l .h)))), (nat_lit 5), [], []⟩,
  ⟨.a (.r (.r (.l (.l .h)))) none (.bs (nat_lit 80) (nat_lit 1) [(.t (nat_lit 1)), (.i .i64 (.n (nat_lit 0))), (.i .i64 (.n (nat_lit 0))), (.i .i64 (.n (nat_lit 0))), (.b false), (.i .i64 (.n (nat_lit 0))), (.i .i64 (.n (nat_lit 0)))] [((nat_lit 0), (nat_lit 7), (.s (.l (.r (.l (.l .h))))))]), (nat_lit 6), [(nat_lit 5)], []⟩,
  ⟨.c (some (.l (.l (.r (.l .h))))) none (.ap (nat_lit 80) (nat_lit 7) (nat_lit 64) (.s (.r (.l (.l (.l .h))))) (.s (.r (.r (.l (.l .h)))))), (nat_lit 7), [(nat_lit 1), (nat_lit 2), (nat_lit 3), (nat_lit 4), (nat_lit 5), (nat_lit 6)], []⟩,
  ⟨.p (.r (.l (.r (.l .h)))) none (.nc (.s (.r (.l (.r .h))))), (nat_lit 8), [(nat_lit 0), (nat_lit 1), (nat_lit 2), (nat_lit 3), (nat_lit 4), (nat_lit 5), (nat_lit 6), (nat_lit 7)], []⟩,
  ⟨.p (.l (.r (.r (.l .h)))) none (.fa (nat_lit 7) (.s (.r (.l (.r (.l .h)))))), (nat_lit 9), [(nat_lit 0), (nat_lit 1), (nat_lit 2), (nat_lit 3), (nat_lit 4), (nat_lit 5), (nat_lit 6), (nat_lit 7), (nat_lit 8)], []⟩,
  ⟨.c none none (.st (nat_lit 1) (.s (.l (.r (.r (.l .h))))) (.s (.l (.l (.r (.l .h)))))), (nat_lit 10), [(nat_lit 0), (nat_lit 1), (nat_lit 2), (nat_lit 3), (nat_lit 4), (nat_lit 5), (nat_lit 6), (nat_lit 7), (nat_lit 8), (nat_lit 9)], []⟩])
 (.seq (.drw [⟨.p (.r (.r (.r (.l .h)))) none (.mv (.s .h)), (nat_lit 0), [], []⟩,
  ⟨.p (.l (.l (.l (.r .h)))) none (.mv (.s .h)), (nat_lit 1), [], []⟩,
  ⟨.p (.r (.l (.l (.r .h)))) none (.nc (.s (.l (.l (.l (.r .h)))))), (nat_lit 2), [(nat_lit 1)], []⟩,
  ⟨.p (.l (.r (.l (.r .h)))) none (.fa (nat_lit 8) (.s (.r (.l (.l (.r .h)))))), (nat_lit 3), [(nat_lit 1), (nat_lit 2)], []⟩,
  ⟨.r (.r (.r (.l (.r .h)))) none (.ld (.s (.l (.r (.l (.r .h)))))), (nat_lit 4), [(nat_lit 1), (nat_lit 2), (nat_lit 3)], []⟩,
  ⟨.p (.l (.l (.r (.r .h)))) none (.mv (.s .h)), (nat_lit 5), [], []⟩,
  ⟨.p (.r (.l (.r (.r .h)))) none (.nc (.s (.l (.l (.r (.r .h)))))), (nat_lit 6), [(nat_lit 5)], []⟩,
  ⟨.p (.l (.r (.r (.r .h)))) none (.fa (nat_lit 7) (.s (.r (.l (.r (.r .h)))))), (nat_lit 7), [(nat_lit 5), (nat_lit 6)], []⟩,
  ⟨.r (.r (.r (.r (.r .h)))) none (.ld (.s (.l (.r (.r (.r .h)))))), (nat_lit 8), [(nat_lit 5), (nat_lit 6), (nat_lit 7)], []⟩,
  ⟨.p (.l (.l (.l (.l (.l .h))))) none (.ln (.s (.r (.r (.r (.r .h)))))), (nat_lit 9), [(nat_lit 5), (nat_lit 6), (nat_lit 7), (nat_lit 8)], []⟩,
  ⟨.p (.r (.l (.l (.l (.l .h))))) none (.ar .sub (.s (.l (.l (.l (.l (.l .h)))))) (.c (.a (.i .i64 (.n (nat_lit 1)))))), (nat_lit 10), [(nat_lit 5), (nat_lit 6), (nat_lit 7), (nat_lit 8), (nat_lit 9)], []⟩,
  ⟨.a (.l (.r (.l (.l (.l .h))))) none (.bs (nat_lit 3) (nat_lit 1) [(.i .i64 (.n (nat_lit 0)))] [((nat_lit 0), (nat_lit 1), (.s (.r (.l (.l (.l (.l .h)))))))]), (nat_lit 11), [(nat_lit 5), (nat_lit 6), (nat_lit 7), (nat_lit 8), (nat_lit 9), (nat_lit 10)], []⟩,
  ⟨.c (some (.r (.r (.l (.l (.l .h)))))) none (.ap (nat_lit 3) (nat_lit 1) (nat_lit 8) (.s (.r (.r (.l (.r .h))))) (.s (.l (.r (.l (.l (.l .h))))))), (nat_lit 12), [(nat_lit 1), (nat_lit 2), (nat_lit 3), (nat_lit 4), (nat_lit 5), (nat_lit 6), (nat_lit 7), (nat_lit 8), (nat_lit 9), (nat_lit 10), (nat_lit 11)], []⟩,
  ⟨.p (.l (.l (.r (.l (.l .h))))) none (.nc (.s (.r (.r (.r (.l .h)))))), (nat_lit 13), [(nat_lit 0), (nat_lit 1), (nat_lit 2), (nat_lit 3), (nat_lit 4), (nat_lit 5), (nat_lit 6), (nat_lit 7), (nat_lit 8), (nat_lit 9), (nat_lit 10), (nat_lit 11), (nat_lit 12)], []⟩,
  ⟨.p (.r (.l (.r (.l (.l .h))))) none (.fa (nat_lit 8) (.s (.l (.l (.r (.l (.l .h))))))), (nat_lit 14), [(nat_lit 0), (nat_lit 1), (nat_lit 2), (nat_lit 3), (nat_lit 4), (nat_lit 5), (nat_lit 6), (nat_lit 7), (nat_lit 8), (nat_lit 9), (nat_lit 10), (nat_lit 11), (nat_lit 12), (nat_lit 13)], []⟩,
  ⟨.c none none (.st (nat_lit 1) (.s (.r (.l (.r (.l (.l .h)))))) (.s (.r (.r (.l (.l (.l .h))))))), (nat_lit 15), [(nat_lit 0), (nat_lit 1), (nat_lit 2), (nat_lit 3), (nat_lit 4), (nat_lit 5), (nat_lit 6), (nat_lit 7), (nat_lit 8), (nat_lit 9), (nat_lit 10), (nat_lit 11), (nat_lit 12), (nat_lit 13), (nat_lit 14)], []⟩])
 (.seq (.reg [.p (.l (.r (.r (.l (.l .h))))) none (.mv (.s .h)),
  .p (.r (.r (.r (.l (.l .h))))) none (.nc (.s (.l (.r (.r (.l (.l .h))))))),
  .p (.l (.l (.l (.r (.l .h))))) none (.fa (nat_lit 7) (.s (.r (.r (.r (.l (.l .h))))))),
  .r (.r (.l (.l (.r (.l .h))))) none (.ld (.s (.l (.l (.l (.r (.l .h))))))),
  .p (.l (.r (.l (.r (.l .h))))) none (.ln (.s (.r (.l (.l (.r (.l .h))))))),
  .p (.r (.r (.l (.r (.l .h))))) none (.ar .sub (.s (.l (.r (.l (.r (.l .h)))))) (.c (.a (.i .i64 (.n (nat_lit 1)))))),
  .p (.r (.l .h)) none (.mv (.s (.r (.r (.l (.r (.l .h)))))))])
 .rt))))), false, false⟩
end
end Go.Proofs.Ytikafojlhinonaa
