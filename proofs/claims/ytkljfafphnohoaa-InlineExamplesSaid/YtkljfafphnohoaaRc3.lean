/- The program's functions in the evaluator's form, part 3. -/
import Derived.Test.YtkljfafphnohoaaRows
import Derived.Test.YtkljfafphnohoaaE27
set_option linter.unusedVariables false
set_option maxRecDepth 100000
namespace Go.Proofs.Ytkljfafphnohoaa
open Go.Ev
noncomputable section
noncomputable def rf170 : RF := ⟨[.h], [.s (.r .h)], (.seq (.reg [.p (.r .h) none (.mv (.c (.a (.b false))))])
 (.seq (.reg [.p (.l (.l .h)) none (.mv (.s .h)),
  .p (.r (.l .h)) none (.mv (.s .h)),
  .p (.l (.r .h)) none (.cp .neq (.s (.l (.l .h))) (.s (.r (.l .h)))),
  .p (.r .h) none (.mv (.s (.l (.r .h))))])
 .rt)), false, false⟩
noncomputable def rf171 : RF := ⟨[.h, (.l .h), (.r .h)], [.s (.r (.r .h))], (.seq (.reg [.a (.l (.l .h)) none (.bx (nat_lit 206) (nat_lit 16) (.s .h)),
  .a (.r (.l .h)) none (.bx (nat_lit 59) (nat_lit 10) (.s (.l .h))),
  .p (.r (.r .h)) none (.mv (.c (.a (.i .i64 (.n (nat_lit 0))))))])
 (.seq (.seq (.reg [.p (.l (.l (.l .h))) none (.mv (.s (.r .h))),
  .p (.r (.l (.l .h))) none (.fa (nat_lit 0) (.s (.r (.l .h)))),
  .r (.l (.r (.l .h))) none (.ld (.s (.r (.l (.l .h))))),
  .p (.r (.r (.l .h))) none (.cp .geq (.s (.l (.l (.l .h)))) (.s (.l (.r (.l .h)))))])
 (.cond (.s (.r (.r (.l .h)))) (.seq (.reg [.p (.l (.l (.r .h))) none (.mv (.s (.r .h))),
  .p (.r (.l (.r .h))) none (.fa (nat_lit 0) (.s (.l (.l .h)))),
  .p (.l (.r (.r .h))) none (.fa (nat_lit 11) (.s (.r (.l (.r .h))))),
  .r (.r (.r (.r .h))) none (.ld (.s (.l (.r (.r .h))))),
  .p (.l (.l (.l (.l .h)))) none (.ln (.s (.r (.r (.r .h))))),
  .p (.r (.l (.l (.l .h)))) none (.ar .add (.s (.l (.l (.r .h)))) (.s (.l (.l (.l (.l .h)))))),
  .p (.r (.r .h)) none (.mv (.s (.r (.l (.l (.l .h))))))])
 .rt) .skip))
 (.seq (.reg [.p (.l (.r (.l (.l .h)))) none (.mv (.s (.r .h))),
  .p (.r (.r .h)) none (.mv (.s (.l (.r (.l (.l .h))))))])
 .rt))), false, false⟩
noncomputable def rf172 : RF := ⟨[.h, (.l .h), (.r .h), (.l (.l .h))], [.g (.r (.l (.l .h))) (nat_lit 2)], (.seq (.reg [.a (.r (.l .h)) none (.bx (nat_lit 206) (nat_lit 16) (.s .h)),
  .a (.l (.r .h)) none (.bx (nat_lit 59) (nat_lit 10) (.s (.l .h))),
  .a (.l (.l (.l .h))) none (.bx (nat_lit 54) (nat_lit 2) (.s (.l (.l .h)))),
  .a (.r (.l (.l .h))) none (.al (nat_lit 54) (nat_lit 2) (.n (.n .e .s0 .e) (.i .i64 (.n (nat_lit 0))) .e))])
 (.seq (.reg [.p (.r (.l (.r .h))) none (.mv (.s (.r .h))),
  .a (.l (.r (.r .h))) none (.bs (nat_lit 3) (nat_lit 1) [(.i .i64 (.n (nat_lit 0)))] [((nat_lit 0), (nat_lit 1), (.s (.r (.l (.r .h)))))]),
  .p (.l (.r (.l .h))) none (.mv (.s (.l (.r (.r .h)))))])
 (.seq (.seq (.reg [.p (.r (.r (.r .h))) none (.fa (nat_lit 1) (.s (.l (.l (.l .h))))),
  .r (.l (.l (.l (.l .h)))) none (.ld (.s (.r (.r (.r .h))))),
  .p (.r (.l (.l (.l .h)))) none (.ln (.s (.l (.l (.l (.l .h)))))),
  .p (.l (.r (.l (.l .h)))) none (.mv (.c (.a (.i .i64 (.n (nat_lit 0))))))])
 (.blk (nat_lit 0) (.loop (.seq (.reg [.p (.r (.r (.l (.l .h)))) none (.cp .lss (.s (.l (.r (.l (.l .h))))) (.s (.r (.l (.l (.l .h))))))])
 (.seq (.cond (.s (.r (.r (.l (.l .h))))) .skip (.ex (nat_lit 0)))
 (.seq (.blk (nat_lit 1) (.seq (.reg [.p (.l (.l (.r (.l .h)))) none (.ix (nat_lit 1) (.s (.l (.l (.l (.l .h))))) (.s (.l (.r (.l (.l .h)))))),
  .r (.r (.l (.r (.l .h)))) none (.ld (.s (.l (.l (.r (.l .h)))))),
  .p (.l (.l (.r .h))) none (.mv (.s (.r (.l (.r (.l .h))))))])
 (.reg [.p (.l (.r (.r (.l .h)))) none (.mv (.s (.l (.r (.l .h))))),
  .p (.r (.r (.r (.l .h)))) none (.fa (nat_lit 0) (.s (.l (.r .h)))),
  .r (.l (.l (.l (.r .h)))) none (.ld (.s (.r (.r (.r (.l .h)))))),
  .p (.r (.l (.l (.r .h)))) none (.fa (nat_lit 0) (.s (.r (.l .h)))),
  .p (.l (.r (.l (.r .h)))) none (.fa (nat_lit 12) (.s (.r (.l (.l (.r .h)))))),
  .r (.r (.r (.l (.r .h)))) none (.ld (.s (.l (.r (.l (.r .h)))))),
  .p (.l (.l (.r (.r .h)))) none (.mv (.s (.l (.l (.r .h))))),
  .r (.r (.l (.r (.r .h)))) none (.lk false false [(nat_lit 0)] (.a (.i .i64 (.n (nat_lit 0)))) (.s (.r (.r (.l (.r .h))))) (.s (.l (.l (.r (.r .h)))))),
  .p (.l (.r (.r (.r .h)))) none (.ar .add (.s (.l (.l (.l (.r .h))))) (.s (.r (.l (.r (.r .h)))))),
  .a (.r (.r (.r (.r .h)))) none (.bs (nat_lit 3) (nat_lit 1) [(.i .i64 (.n (nat_lit 0)))] [((nat_lit 0), (nat_lit 1), (.s (.l (.r (.r (.r .h))))))]),
  .c (some (.l (.l (.l (.l (.l .h)))))) none (.ap (nat_lit 3) (nat_lit 1) (nat_lit 8) (.s (.l (.r (.r (.l .h))))) (.s (.r (.r (.r (.r .h)))))),
  .p (.l (.r (.l .h))) none (.mv (.s (.l (.l (.l (.l (.l .h)))))))])))
 (.reg [.p (.r (.l (.l (.l (.l .h))))) none (.ar .add (.s (.l (.r (.l (.l .h))))) (.c (.a (.i .i64 (.n (nat_lit 1)))))),
  .p (.l (.r (.l (.l .h)))) none (.mv (.s (.r (.l (.l (.l (.l .h)))))))])))))))
 (.seq (.reg [.p (.l (.r (.l (.l (.l .h))))) none (.fa (nat_lit 0) (.s (.l (.l (.l .h))))),
  .r (.r (.r (.l (.l (.l .h))))) none (.ld (.s (.l (.r (.l (.l (.l .h))))))),
  .p (.l (.l (.r (.l (.l .h))))) none (.mv (.s (.l (.r (.l .h))))),
  .p (.r (.l (.r (.l (.l .h))))) none (.bd [(.i .i64 (.n (nat_lit 0))), .s0] [((nat_lit 0), (nat_lit 1), (.s (.r (.r (.l (.l (.l .h))))))), ((nat_lit 1), (nat_lit 1), (.s (.l (.l (.r (.l (.l .h)))))))]),
  .c none none (.st (nat_lit 2) (.s (.r (.l (.l .h)))) (.s (.r (.l (.r (.l (.l .h)))))))])
 .rt)))), false, false⟩
noncomputable def rf173 : RF := ⟨[.h, (.l .h), (.r .h)], [.g (.r (.r .h)) (nat_lit 2)], (.seq (.reg [.a (.l (.l .h)) none (.bx (nat_lit 206) (nat_lit 16) (.s .h)),
  .a (.r (.l .h)) none (.bx (nat_lit 59) (nat_lit 10) (.s (.l .h))),
  .a (.l (.r .h)) none (.bx (nat_lit 54) (nat_lit 2) (.s (.r .h))),
  .a (.r (.r .h)) none (.al (nat_lit 54) (nat_lit 2) (.n (.n .e .s0 .e) (.i .i64 (.n (nat_lit 0))) .e))])
 (.seq (.reg [.a (.l (.l (.r .h))) none (.bs (nat_lit 3) (nat_lit 0) [] []),
  .p (.l (.l (.l .h))) none (.mv (.s (.l (.l (.r .h)))))])
 (.seq (.seq (.reg [.p (.r (.l (.r .h))) none (.fa (nat_lit 1) (.s (.l (.r .h)))),
  .r (.l (.r (.r .h))) none (.ld (.s (.r (.l (.r .h))))),
  .p (.r (.r (.r .h))) none (.ln (.s (.l (.r (.r .h))))),
  .p (.l (.l (.l (.l .h)))) none (.mv (.c (.a (.i .i64 (.n (nat_lit 0))))))])
 (.blk (nat_lit 0) (.loop (.seq (.reg [.p (.r (.l (.l (.l .h)))) none (.cp .lss (.s (.l (.l (.l (.l .h))))) (.s (.r (.r (.r .h)))))])
 (.seq (.cond (.s (.r (.l (.l (.l .h))))) .skip (.ex (nat_lit 0)))
 (.seq (.blk (nat_lit 1) (.seq (.reg [.p (.l (.r (.l (.l .h)))) none (.ix (nat_lit 1) (.s (.l (.r (.r .h)))) (.s (.l (.l (.l (.l .h)))))),
  .r (.r (.r (.l (.l .h)))) none (.ld (.s (.l (.r (.l (.l .h)))))),
  .p (.l (.r (.l .h))) none (.mv (.s (.r (.r (.l (.l .h))))))])
 (.reg [.p (.l (.l (.r (.l .h)))) none (.mv (.s (.l (.l (.l .h))))),
  .r (.r (.l (.r (.l .h)))) none (.lg (nat_lit 16) (.s (.l (.l .h)))),
  .r (.l (.r (.r (.l .h)))) none (.lg (nat_lit 10) (.s (.r (.l .h)))),
  .p (.r (.r (.r (.l .h)))) none (.mv (.s (.l (.r (.l .h))))),
  .k (some (.l (.l (.l (.r .h))))) none (nat_lit 171) (.l (.l (.r (.r (.l (.r (.l .h))))))) [(.s (.r (.l (.r (.l .h))))), (.s (.l (.r (.r (.l .h))))), (.s (.r (.r (.r (.l .h)))))],
  .a (.r (.l (.l (.r .h)))) none (.bs (nat_lit 3) (nat_lit 1) [(.i .i64 (.n (nat_lit 0)))] [((nat_lit 0), (nat_lit 1), (.s (.l (.l (.l (.r .h))))))]),
  .c (some (.l (.r (.l (.r .h))))) none (.ap (nat_lit 3) (nat_lit 1) (nat_lit 8) (.s (.l (.l (.r (.l .h))))) (.s (.r (.l (.l (.r .h)))))),
  .p (.l (.l (.l .h))) none (.mv (.s (.l (.r (.l (.r .h))))))])))
 (.reg [.p (.r (.r (.l (.r .h)))) none (.ar .add (.s (.l (.l (.l (.l .h))))) (.c (.a (.i .i64 (.n (nat_lit 1)))))),
  .p (.l (.l (.l (.l .h)))) none (.mv (.s (.r (.r (.l (.r .h))))))])))))))
 (.seq (.seq (.reg [.p (.l (.l (.r (.r .h)))) none (.fa (nat_lit 0) (.s (.l (.l .h)))),
  .p (.r (.l (.r (.r .h)))) none (.fa (nat_lit 11) (.s (.l (.l (.r (.r .h)))))),
  .r (.l (.r (.r (.r .h)))) none (.ld (.s (.r (.l (.r (.r .h)))))),
  .p (.r (.r (.r (.r .h)))) none (.ln (.s (.l (.r (.r (.r .h)))))),
  .p (.l (.l (.l (.l (.l .h))))) none (.mv (.c (.a (.i .i64 (.n (nat_lit 0))))))])
 (.blk (nat_lit 2) (.loop (.seq (.reg [.p (.r (.l (.l (.l (.l .h))))) none (.cp .lss (.s (.l (.l (.l (.l (.l .h)))))) (.s (.r (.r (.r (.r .h))))))])
 (.seq (.cond (.s (.r (.l (.l (.l (.l .h)))))) .skip (.ex (nat_lit 2)))
 (.seq (.blk (nat_lit 3) (.seq (.reg [.p (.l (.r (.l (.l (.l .h))))) none (.mv (.s (.l (.l (.l (.l (.l .h))))))),
  .p (.r (.r (.l .h))) none (.mv (.s (.l (.r (.l (.l (.l .h)))))))])
 (.reg [.p (.r (.r (.l (.l (.l .h))))) none (.mv (.s (.l (.l (.l .h))))),
  .p (.l (.l (.r (.l (.l .h))))) none (.fa (nat_lit 0) (.s (.r (.l .h)))),
  .r (.r (.l (.r (.l (.l .h))))) none (.ld (.s (.l (.l (.r (.l (.l .h))))))),
  .p (.l (.r (.r (.l (.l .h))))) none (.mv (.s (.r (.r (.l .h))))),
  .p (.r (.r (.r (.l (.l .h))))) none (.ar .add (.s (.r (.l (.r (.l (.l .h)))))) (.s (.l (.r (.r (.l (.l .h))))))),
  .a (.l (.l (.l (.r (.l .h))))) none (.bs (nat_lit 3) (nat_lit 1) [(.i .i64 (.n (nat_lit 0)))] [((nat_lit 0), (nat_lit 1), (.s (.r (.r (.r (.l (.l .h)))))))]),
  .c (some (.r (.l (.l (.r (.l .h)))))) none (.ap (nat_lit 3) (nat_lit 1) (nat_lit 8) (.s (.r (.r (.l (.l (.l .h)))))) (.s (.l (.l (.l (.r (.l .h))))))),
  .p (.l (.l (.l .h))) none (.mv (.s (.r (.l (.l (.r (.l .h)))))))])))
 (.reg [.p (.l (.r (.l (.r (.l .h))))) none (.ar .add (.s (.l (.l (.l (.l (.l .h)))))) (.c (.a (.i .i64 (.n (nat_lit 1)))))),
  .p (.l (.l (.l (.l (.l .h))))) none (.mv (.s (.l (.r (.l (.r (.l .h)))))))])))))))
 (.seq (.reg [.p (.r (.r (.l (.r (.l .h))))) none (.fa (nat_lit 0) (.s (.l (.r .h)))),
  .r (.l (.l (.r (.r (.l .h))))) none (.ld (.s (.r (.r (.l (.r (.l .h))))))),
  .p (.r (.l (.r (.r (.l .h))))) none (.fa (nat_lit 13) (.s (.l (.l .h)))),
  .r (.l (.r (.r (.r (.l .h))))) none (.ld (.s (.r (.l (.r (.r (.l .h))))))),
  .p (.r (.r (.r (.r (.l .h))))) none (.ar .add (.s (.l (.l (.r (.r (.l .h)))))) (.s (.l (.r (.r (.r (.l .h))))))),
  .p (.l (.l (.l (.l (.r .h))))) none (.mv (.s (.l (.l (.l .h))))),
  .p (.r (.l (.l (.l (.r .h))))) none (.bd [(.i .i64 (.n (nat_lit 0))), .s0] [((nat_lit 0), (nat_lit 1), (.s (.r (.r (.r (.r (.l .h))))))), ((nat_lit 1), (nat_lit 1), (.s (.l (.l (.l (.l (.r .h)))))))]),
  .c none none (.st (nat_lit 2) (.s (.r (.r .h))) (.s (.r (.l (.l (.l (.r .h)))))))])
 .rt))))), false, false⟩
noncomputable def rf174 : RF := ⟨[.h, (.l .h), (.r .h)], [.s (.r (.r .h))], (.seq (.reg [.a (.l (.l .h)) none (.bx (nat_lit 35) (nat_lit 4) (.s .h)),
  .p (.r (.r .h)) none (.mv (.c (.a .s0)))])
 (.seq (.reg [.p (.l (.l (.l .h))) none (.mv (.c (.a .s0)))])
 (.seq (.seq (.reg [.p (.r (.r (.l .h))) none (.mv (.s (.l .h))),
  .p (.l (.l (.r .h))) none (.cp .lss (.s (.r (.r (.l .h)))) (.c (.a (.i .i64 (.n (nat_lit 0)))))),
  .p (.r (.l (.r .h))) none (.mv (.s (.l (.l (.r .h))))),
  .p (.l (.r (.r .h))) (some ((.r (.l (.r .h))), false)) (.mv (.s (.l .h))),
  .p (.r (.r (.r .h))) (some ((.r (.l (.r .h))), false)) (.fa (nat_lit 2) (.s (.l (.l .h)))),
  .r (.l (.l (.l (.l .h)))) (some ((.r (.l (.r .h))), false)) (.ld (.s (.r (.r (.r .h))))),
  .p (.r (.l (.l (.l .h)))) (some ((.r (.l (.r .h))), false)) (.ln (.s (.l (.l (.l (.l .h)))))),
  .p (.l (.r (.l (.l .h)))) (some ((.r (.l (.r .h))), false)) (.cp .geq (.s (.l (.r (.r .h)))) (.s (.r (.l (.l (.l .h)))))),
  .p (.r (.r (.l (.l .h)))) none (.pk (.s (.r (.l (.r .h)))) (.c (.a (.b true))) (.s (.l (.r (.l (.l .h))))))])
 (.cond (.s (.r (.r (.l (.l .h))))) (.seq (.reg [.p (.r (.r .h)) none (.mv (.c (.a .s0)))])
 .rt) .skip))
 (.seq (.seq (.reg [.p (.l (.l (.r (.l .h)))) none (.fa (nat_lit 2) (.s (.l (.l .h)))),
  .r (.r (.l (.r (.l .h)))) none (.ld (.s (.l (.l (.r (.l .h)))))),
  .p (.l (.r (.r (.l .h)))) none (.mv (.s (.l .h))),
  .p (.r (.r (.r (.l .h)))) none (.ix (nat_lit 1) (.s (.r (.l (.r (.l .h))))) (.s (.l (.r (.r (.l .h)))))),
  .r (.l (.l (.l (.r .h)))) none (.ld (.s (.r (.r (.r (.l .h)))))),
  .p (.r (.l (.l (.r .h)))) none (.ln (.s (.l (.l (.l (.r .h)))))),
  .p (.l (.r (.l (.r .h)))) none (.mv (.c (.a (.i .i64 (.n (nat_lit 0))))))])
 (.blk (nat_lit 0) (.loop (.seq (.reg [.p (.r (.r (.l (.r .h)))) none (.cp .lss (.s (.l (.r (.l (.r .h))))) (.s (.r (.l (.l (.r .h))))))])
 (.seq (.cond (.s (.r (.r (.l (.r .h))))) .skip (.ex (nat_lit 0)))
 (.seq (.blk (nat_lit 1) (.seq (.reg [.p (.l (.l (.r (.r .h)))) none (.mv (.s (.l (.r (.l (.r .h)))))),
  .p (.r (.l (.r (.r .h)))) none (.ix (nat_lit 7) (.s (.l (.l (.l (.r .h))))) (.s (.l (.r (.l (.r .h)))))),
  .r (.l (.r (.r (.r .h)))) none (.lg (nat_lit 7) (.s (.r (.l (.r (.r .h)))))),
  .a (.l (.r (.l .h))) none (.al (nat_lit 62) (nat_lit 7) (.n (.n (.n .e (.i .i64 (.n (nat_lit 0))) .e) (.i .i64 (.n (nat_lit 0))) (.n .e (.i .i64 (.n (nat_lit 0))) .e)) (.t (nat_lit 1)) (.n (.n .e (.b false) .e) (.i .i64 (.n (nat_lit 0))) (.n .e (.i .i64 (.n (nat_lit 0))) .e)))),
  .p (.r (.l (.l .h))) none (.mv (.s (.l (.l (.r (.r .h)))))),
  .c none none (.st (nat_lit 7) (.s (.l (.r (.l .h)))) (.s (.l (.r (.r (.r .h))))))])
 (.seq (.reg [.p (.r (.r (.r (.r .h)))) none (.fa (nat_lit 5) (.s (.l (.r (.l .h))))),
  .r (.l (.l (.l (.l (.l .h))))) none (.ld (.s (.r (.r (.r (.r .h)))))),
  .p (.r (.l (.l (.l (.l .h))))) none (.mv (.s (.r .h))),
  .p (.l (.r (.l (.l (.l .h))))) none (.cp .leq (.s (.l (.l (.l (.l (.l .h)))))) (.s (.r (.l (.l (.l (.l .h))))))),
  .p (.r (.r (.l (.l (.l .h))))) none (.mv (.s (.l (.r (.l (.l (.l .h))))))),
  .p (.l (.l (.r (.l (.l .h))))) (some ((.r (.r (.l (.l (.l .h))))), true)) (.mv (.s (.r .h))),
  .p (.r (.l (.r (.l (.l .h))))) (some ((.r (.r (.l (.l (.l .h))))), true)) (.fa (nat_lit 6) (.s (.l (.r (.l .h))))),
  .r (.l (.r (.r (.l (.l .h))))) (some ((.r (.r (.l (.l (.l .h))))), true)) (.ld (.s (.r (.l (.r (.l (.l .h))))))),
  .p (.r (.r (.r (.l (.l .h))))) (some ((.r (.r (.l (.l (.l .h))))), true)) (.cp .leq (.s (.l (.l (.r (.l (.l .h)))))) (.s (.l (.r (.r (.l (.l .h))))))),
  .p (.l (.l (.l (.r (.l .h))))) none (.pk (.s (.r (.r (.l (.l (.l .h)))))) (.s (.r (.r (.r (.l (.l .h)))))) (.c (.a (.b false))))])
 (.cond (.s (.l (.l (.l (.r (.l .h)))))) (.reg [.p (.r (.l (.l (.r (.l .h))))) none (.mv (.s (.l (.l (.l .h))))),
  .p (.l (.r (.l (.r (.l .h))))) none (.mv (.s (.r (.l (.l .h))))),
  .a (.r (.r (.l (.r (.l .h))))) none (.bs (nat_lit 3) (nat_lit 1) [(.i .i64 (.n (nat_lit 0)))] [((nat_lit 0), (nat_lit 1), (.s (.l (.r (.l (.r (.l .h)))))))]),
  .c (some (.l (.l (.r (.r (.l .h)))))) none (.ap (nat_lit 3) (nat_lit 1) (nat_lit 8) (.s (.r (.l (.l (.r (.l .h)))))) (.s (.r (.r (.l (.r (.l .h))))))),
  .p (.l (.l (.l .h))) none (.mv (.s (.l (.l (.r (.r (.l .h)))))))]) .skip))))
 (.reg [.p (.r (.l (.r (.r (.l .h))))) none (.ar .add (.s (.l (.r (.l (.r .h))))) (.c (.a (.i .i64 (.n (nat_lit 1)))))),
  .p (.l (.r (.l (.r .h)))) none (.mv (.s (.r (.l (.r (.r (.l .h)))))))])))))))
 (.seq (.reg [.p (.l (.r (.r (.r (.l .h))))) none (.mv (.s (.l (.l (.l .h))))),
  .p (.r (.r .h)) none (.mv (.s (.l (.r (.r (.r (.l .h)))))))])
 .rt))))), false, false⟩
noncomputable def rf175 : RF := ⟨[.h, (.l .h), (.r .h), (.l (.l .h)), (.r (.l .h))], [.g (.r (.r (.l .h))) (nat_lit 3)], (.seq (.reg [.a (.r (.r (.l .h))) none (.al (nat_lit 79) (nat_lit 3) (.n (.n .e .s0 .e) (.i .i64 (.n (nat_lit 0))) (.n .e .s0 .e)))])
 (.seq (.reg [.p (.r (.r (.l (.l .h)))) none (.mv (.s .h)),
  .p (.l (.l (.r (.l .h)))) none (.nc (.s (.r (.r (.l (.l .h)))))),
  .p (.r (.l (.r (.l .h)))) none (.fa (nat_lit 0) (.s (.l (.l (.r (.l .h)))))),
  .p (.l (.r (.r (.l .h)))) none (.fa (nat_lit 2) (.s (.r (.l (.r (.l .h)))))),
  .r (.r (.r (.r (.l .h)))) none (.ld (.s (.l (.r (.r (.l .h)))))),
  .p (.l (.l (.l (.r .h)))) none (.mv (.s (.l (.l .h)))),
  .p (.r (.l (.l (.r .h)))) none (.ix (nat_lit 1) (.s (.r (.r (.r (.l .h))))) (.s (.l (.l (.l (.r .h)))))),
  .r (.l (.r (.l (.r .h)))) none (.ld (.s (.r (.l (.l (.r .h)))))),
  .p (.r (.r (.l (.r .h)))) none (.mv (.s (.r (.l .h)))),
  .p (.l (.l (.r (.r .h)))) none (.ix (nat_lit 7) (.s (.l (.r (.l (.r .h))))) (.s (.r (.r (.l (.r .h)))))),
  .r (.r (.l (.r (.r .h)))) none (.lg (nat_lit 7) (.s (.l (.l (.r (.r .h)))))),
  .a (.l (.l (.r .h))) none (.al (nat_lit 62) (nat_lit 7) (.n (.n (.n .e (.i .i64 (.n (nat_lit 0))) .e) (.i .i64 (.n (nat_lit 0))) (.n .e (.i .i64 (.n (nat_lit 0))) .e)) (.t (nat_lit 1)) (.n (.n .e (.b false) .e) (.i .i64 (.n (nat_lit 0))) (.n .e (.i .i64 (.n (nat_lit 0))) .e)))),
  .c none none (.st (nat_lit 7) (.s (.l (.l (.r .h)))) (.s (.r (.l (.r (.r .h))))))])
 (.seq (.reg [.p (.l (.r (.r (.r .h)))) none (.mv (.s (.r (.l .h)))),
  .p (.r (.r (.r (.r .h)))) none (.bd [(.i .i64 (.n (nat_lit 0))), .s0, .s0] [((nat_lit 0), (nat_lit 1), (.s (.l (.r (.r (.r .h))))))]),
  .a (.r (.l (.r .h))) none (.al (nat_lit 79) (nat_lit 3) (.n (.n .e .s0 .e) (.i .i64 (.n (nat_lit 0))) (.n .e .s0 .e))),
  .c none none (.st (nat_lit 3) (.s (.r (.l (.r .h)))) (.s (.r (.r (.r (.r .h))))))])
 (.seq (.seq (.reg [.p (.l (.r (.r .h))) none (.mv (.c (.a (.i .i64 (.n (nat_lit 0))))))])
 (.blk (nat_lit 0) (.loop (.seq (.seq (.reg [.p (.l (.l (.l (.l (.l .h))))) none (.mv (.s (.l (.r (.r .h))))),
  .p (.r (.l (.l (.l (.l .h))))) none (.fa (nat_lit 3) (.s (.l (.l (.r .h))))),
  .r (.l (.r (.l (.l (.l .h))))) none (.ld (.s (.r (.l (.l (.l (.l .h))))))),
  .p (.r (.r (.l (.l (.l .h))))) none (.cp .lss (.s (.l (.l (.l (.l (.l .h)))))) (.s (.l (.r (.l (.l (.l .h)))))))])
 (.cond (.s (.r (.r (.l (.l (.l .h)))))) .skip (.ex (nat_lit 0))))
 (.seq (.blk (nat_lit 1) (.seq (.reg [.p (.r (.r (.r .h))) none (.mv (.c (.a (.i .i64 (.n (nat_lit 0)))))),
  .p (.l (.l (.l (.l .h)))) none (.mv (.c (.a (.b false))))])
 (.seq (.seq (.reg [.p (.l (.r (.r (.l (.l .h))))) none (.fa (nat_lit 1) (.s (.l (.l (.r .h))))),
  .r (.r (.r (.r (.l (.l .h))))) none (.ld (.s (.l (.r (.r (.l (.l .h))))))),
  .p (.l (.l (.l (.r (.l .h))))) none (.cp .eql (.s (.r (.r (.r (.l (.l .h)))))) (.c (.a (.i .i64 (.n (nat_lit 3))))))])
 (.cond (.s (.l (.l (.l (.r (.l .h)))))) (.seq (.drw [⟨.p (.r (.l (.l (.r (.l .h))))) none (.mv (.s .h)), (nat_lit 0), [], []⟩,
  ⟨.p (.l (.r (.l (.r (.l .h))))) none (.nc (.s (.r (.l (.l (.r (.l .h))))))), (nat_lit 1), [(nat_lit 0)], []⟩,
  ⟨.p (.r (.r (.l (.r (.l .h))))) none (.fa (nat_lit 4) (.s (.l (.r (.l (.r (.l .h))))))), (nat_lit 2), [(nat_lit 0), (nat_lit 1)], []⟩,
  ⟨.p (.l (.l (.r (.r (.l .h))))) none (.fa (nat_lit 0) (.s (.r (.r (.l (.r (.l .h))))))), (nat_lit 3), [(nat_lit 0), (nat_lit 1), (nat_lit 2)], []⟩,
  ⟨.r (.r (.l (.r (.r (.l .h))))) none (.ld (.s (.l (.l (.r (.r (.l .h))))))), (nat_lit 4), [(nat_lit 0), (nat_lit 1), (nat_lit 2), (nat_lit 3)], []⟩,
  ⟨.p (.l (.r (.r (.r (.l .h))))) none (.mv (.s (.l .h))), (nat_lit 5), [], []⟩,
  ⟨.p (.r (.r (.r (.r (.l .h))))) none (.nc (.s (.l (.r (.r (.r (.l .h))))))), (nat_lit 6), [(nat_lit 5)], []⟩,
  ⟨.p (.l (.l (.l (.l (.r .h))))) none (.fa (nat_lit 0) (.s (.r (.r (.r (.r (.l .h))))))), (nat_lit 7), [(nat_lit 5), (nat_lit 6)], []⟩,
  ⟨.r (.r (.l (.l (.l (.r .h))))) none (.ld (.s (.l (.l (.l (.l (.r .h))))))), (nat_lit 8), [(nat_lit 5), (nat_lit 6), (nat_lit 7)], []⟩,
  ⟨.p (.l (.r (.l (.l (.r .h))))) none (.ix (nat_lit 4) (.s (.r (.l (.r (.r (.l .h)))))) (.s (.r (.l (.l (.l (.r .h))))))), (nat_lit 9), [(nat_lit 0), (nat_lit 1), (nat_lit 2), (nat_lit 3), (nat_lit 4), (nat_lit 5), (nat_lit 6), (nat_lit 7), (nat_lit 8)], []⟩,
  ⟨.p (.r (.r (.l (.l (.r .h))))) none (.fa (nat_lit 3) (.s (.l (.r (.l (.l (.r .h))))))), (nat_lit 10), [(nat_lit 0), (nat_lit 1), (nat_lit 2), (nat_lit 3), (nat_lit 4), (nat_lit 5), (nat_lit 6), (nat_lit 7), (nat_lit 8), (nat_lit 9)], []⟩,
  ⟨.r (.l (.l (.r (.l (.r .h))))) none (.ld (.s (.r (.r (.l (.l (.r .h))))))), (nat_lit 11), [(nat_lit 0), (nat_lit 1), (nat_lit 2), (nat_lit 3), (nat_lit 4), (nat_lit 5), (nat_lit 6), (nat_lit 7), (nat_lit 8), (nat_lit 9), (nat_lit 10)], []⟩,
  ⟨.p (.r (.l (.r (.l (.r .h))))) none (.ln (.s (.l (.l (.r (.l (.r .h))))))), (nat_lit 12), [(nat_lit 0), (nat_lit 1), (nat_lit 2), (nat_lit 3), (nat_lit 4), (nat_lit 5), (nat_lit 6), (nat_lit 7), (nat_lit 8), (nat_lit 9), (nat_lit 10), (nat_lit 11)], []⟩,
  ⟨.p (.l (.r (.r (.l (.r .h))))) none (.mv (.c (.a (.i .i64 (.n (nat_lit 0)))))), (nat_lit 13), [], []⟩])
 (.blk (nat_lit 2) (.loop (.seq (.reg [.p (.r (.r (.r (.l (.r .h))))) none (.cp .lss (.s (.l (.r (.r (.l (.r .h)))))) (.s (.r (.l (.r (.l (.r .h)))))))])
 (.seq (.cond (.s (.r (.r (.r (.l (.r .h)))))) .skip (.ex (nat_lit 2)))
 (.seq (.blk (nat_lit 3) (.seq (.reg [.p (.l (.l (.l (.r (.r .h))))) none (.mv (.s (.l (.r (.r (.l (.r .h))))))),
  .p (.r (.l (.l (.r (.r .h))))) none (.ix (nat_lit 3) (.s (.l (.l (.r (.l (.r .h)))))) (.s (.l (.r (.r (.l (.r .h))))))),
  .r (.l (.r (.l (.r (.r .h))))) none (.lg (nat_lit 3) (.s (.r (.l (.l (.r (.r .h))))))),
  .a (.l (.r (.l (.l .h)))) none (.al (nat_lit 145) (nat_lit 3) (.n (.n .e (.i .i64 (.n (nat_lit 0))) .e) (.i .i64 (.n (nat_lit 0))) (.n .e (.i .i64 (.n (nat_lit 0))) .e))),
  .p (.r (.l (.l (.l .h)))) none (.mv (.s (.l (.l (.l (.r (.r .h))))))),
  .c none none (.st (nat_lit 3) (.s (.l (.r (.l (.l .h))))) (.s (.l (.r (.l (.r (.r .h)))))))])
 (.seq (.reg [.p (.r (.r (.l (.r (.r .h))))) none (.fa (nat_lit 0) (.s (.l (.r (.l (.l .h)))))),
  .r (.l (.l (.r (.r (.r .h))))) none (.ld (.s (.r (.r (.l (.r (.r .h))))))),
  .p (.r (.l (.r (.r (.r .h))))) none (.mv (.s (.r .h))),
  .p (.l (.r (.r (.r (.r .h))))) none (.cp .eql (.s (.l (.l (.r (.r (.r .h)))))) (.s (.r (.l (.r (.r (.r .h))))))),
  .p (.r (.r (.r (.r (.r .h))))) none (.mv (.s (.l (.r (.r (.r (.r .h))))))),
  .p (.l (.l (.l (.l (.l (.l .h)))))) (some ((.r (.r (.r (.r (.r .h))))), true)) (.fa (nat_lit 1) (.s (.l (.r (.l (.l .h)))))),
  .r (.r (.l (.l (.l (.l (.l .h)))))) (some ((.r (.r (.r (.r (.r .h))))), true)) (.ld (.s (.l (.l (.l (.l (.l (.l .h)))))))),
  .p (.l (.r (.l (.l (.l (.l .h)))))) (some ((.r (.r (.r (.r (.r .h))))), true)) (.mv (.s (.r (.l .h)))),
  .p (.r (.r (.l (.l (.l (.l .h)))))) (some ((.r (.r (.r (.r (.r .h))))), true)) (.cp .eql (.s (.r (.l (.l (.l (.l (.l .h))))))) (.s (.l (.r (.l (.l (.l (.l .h)))))))),
  .p (.l (.l (.r (.l (.l (.l .h)))))) none (.pk (.s (.r (.r (.r (.r (.r .h)))))) (.s (.r (.r (.l (.l (.l (.l .h))))))) (.c (.a (.b false)))),
  .p (.r (.l (.r (.l (.l (.l .h)))))) none (.mv (.s (.l (.l (.r (.l (.l (.l .h)))))))),
  .p (.l (.r (.r (.l (.l (.l .h)))))) (some ((.r (.l (.r (.l (.l (.l .h)))))), true)) (.mv (.s (.l (.r (.r .h))))),
  .p (.r (.r (.r (.l (.l (.l .h)))))) (some ((.r (.l (.r (.l (.l (.l .h)))))), true)) (.fa (nat_lit 2) (.s (.l (.r (.l (.l .h)))))),
  .r (.l (.l (.l (.r (.l (.l .h)))))) (some ((.r (.l (.r (.l (.l (.l .h)))))), true)) (.ld (.s (.r (.r (.r (.l (.l (.l .h)))))))),
  .p (.r (.l (.l (.r (.l (.l .h)))))) (some ((.r (.l (.r (.l (.l (.l .h)))))), true)) (.cp .lss (.s (.l (.r (.r (.l (.l (.l .h))))))) (.s (.l (.l (.l (.r (.l (.l .h)))))))),
  .p (.l (.r (.l (.r (.l (.l .h)))))) none (.pk (.s (.r (.l (.r (.l (.l (.l .h))))))) (.s (.r (.l (.l (.r (.l (.l .h))))))) (.c (.a (.b false))))])
 (.cond (.s (.l (.r (.l (.r (.l (.l .h))))))) (.reg [.p (.r (.r (.l (.r (.l (.l .h)))))) none (.mv (.s (.l .h))),
  .p (.l (.l (.r (.r (.l (.l .h)))))) none (.nc (.s (.r (.r (.l (.r (.l (.l .h)))))))),
  .p (.r (.l (.r (.r (.l (.l .h)))))) none (.fa (nat_lit 3) (.s (.l (.l (.r (.r (.l (.l .h)))))))),
  .r (.l (.r (.r (.r (.l (.l .h)))))) none (.ld (.s (.r (.l (.r (.r (.l (.l .h)))))))),
  .p (.r (.r (.r (.r (.l (.l .h)))))) none (.mv (.s (.r (.l (.l (.l .h)))))),
  .p (.l (.l (.l (.l (.r (.l .h)))))) none (.ix (nat_lit 1) (.s (.l (.r (.r (.r (.l (.l .h))))))) (.s (.r (.r (.r (.r (.l (.l .h)))))))),
  .r (.r (.l (.l (.l (.r (.l .h)))))) none (.ld (.s (.l (.l (.l (.l (.r (.l .h)))))))),
  .p (.l (.r (.l (.l (.r (.l .h)))))) none (.mv (.s (.l (.r (.r .h))))),
  .p (.r (.r (.l (.l (.r (.l .h)))))) none (.ix (nat_lit 1) (.s (.r (.l (.l (.l (.r (.l .h))))))) (.s (.l (.r (.l (.l (.r (.l .h)))))))),
  .r (.l (.l (.r (.l (.r (.l .h)))))) none (.ld (.s (.r (.r (.l (.l (.r (.l .h)))))))),
  .p (.r (.r (.r .h))) none (.mv (.s (.l (.l (.r (.l (.r (.l .h)))))))),
  .p (.l (.l (.l (.l .h)))) none (.mv (.c (.a (.b true))))]) .skip))))
 (.reg [.p (.r (.l (.r (.l (.r (.l .h)))))) none (.ar .add (.s (.l (.r (.r (.l (.r .h)))))) (.c (.a (.i .i64 (.n (nat_lit 1)))))),
  .p (.l (.r (.r (.l (.r .h))))) none (.mv (.s (.r (.l (.r (.l (.r (.l .h))))))))]))))))) (.reg [.p (.r (.r (.r (.l (.r (.l .h)))))) none (.mv (.s (.l .h))),
  .p (.l (.l (.l (.r (.r (.l .h)))))) none (.mv (.s (.r .h))),
  .p (.r (.l (.l (.r (.r (.l .h)))))) none (.mv (.s (.r (.l .h)))),
  .p (.l (.r (.l (.r (.r (.l .h)))))) none (.mv (.s (.l (.r (.r .h))))),
  .k (some (.r (.r (.l (.r (.r (.l .h))))))) none (nat_lit 190) (.r (.r (.r (.r (.r (.r (.l .h))))))) [(.s (.r (.r (.r (.l (.r (.l .h))))))), (.s (.l (.l (.l (.r (.r (.l .h))))))), (.s (.r (.l (.l (.r (.r (.l .h))))))), (.s (.l (.r (.l (.r (.r (.l .h)))))))],
  .p (.l (.r (.r (.l (.r (.l .h)))))) none (.mv (.s (.r (.r (.l (.r (.r (.l .h)))))))),
  .p (.l (.l (.r (.r (.r (.l .h)))))) none (.ex (nat_lit 0) (.s (.l (.r (.r (.l (.r (.l .h)))))))),
  .p (.r (.l (.r (.r (.r (.l .h)))))) none (.ex (nat_lit 1) (.s (.l (.r (.r (.l (.r (.l .h)))))))),
  .p (.r (.r (.r .h))) none (.mv (.s (.l (.l (.r (.r (.r (.l .h)))))))),
  .p (.l (.l (.l (.l .h)))) none (.mv (.s (.r (.l (.r (.r (.r (.l .h))))))))])))
 (.drw [⟨.p (.l (.r (.r (.r (.r (.l .h)))))) none (.fa (nat_lit 2) (.s (.r (.l (.r .h))))), (nat_lit 0), [], []⟩,
  ⟨.r (.r (.r (.r (.r (.r (.l .h)))))) none (.ld (.s (.l (.r (.r (.r (.r (.l .h)))))))), (nat_lit 1), [(nat_lit 0)], []⟩,
  ⟨.p (.l (.l (.l (.l (.l (.r .h)))))) none (.mv (.s (.r (.r (.r .h))))), (nat_lit 2), [], []⟩,
  ⟨.p (.r (.r (.l (.l (.l (.r .h)))))) none (.fa (nat_lit 1) (.s (.r (.l (.r .h))))), (nat_lit 5), [], []⟩,
  ⟨.r (.l (.l (.r (.l (.l (.r .h)))))) none (.ld (.s (.r (.r (.l (.l (.l (.r .h)))))))), (nat_lit 6), [(nat_lit 5)], []⟩,
  ⟨.p (.r (.l (.r (.l (.l (.r .h)))))) none (.mv (.s (.l (.l (.l (.l .h)))))), (nat_lit 7), [], []⟩,
  ⟨.a (.r (.l (.l (.l (.l (.r .h)))))) none (.bs (nat_lit 3) (nat_lit 1) [(.i .i64 (.n (nat_lit 0)))] [((nat_lit 0), (nat_lit 1), (.s (.l (.l (.l (.l (.l (.r .h))))))))]), (nat_lit 3), [(nat_lit 2)], []⟩,
  ⟨.c (some (.l (.r (.l (.l (.l (.r .h))))))) none (.ap (nat_lit 3) (nat_lit 1) (nat_lit 8) (.s (.r (.r (.r (.r (.r (.l .h))))))) (.s (.r (.l (.l (.l (.l (.r .h)))))))), (nat_lit 4), [(nat_lit 0), (nat_lit 1), (nat_lit 2), (nat_lit 3)], [true, false]⟩,
  ⟨.p (.l (.l (.l (.r (.l (.r .h)))))) none (.fa (nat_lit 2) (.s (.r (.l (.r .h))))), (nat_lit 10), [(nat_lit 0), (nat_lit 1), (nat_lit 2), (nat_lit 3), (nat_lit 4), (nat_lit 5), (nat_lit 6)], []⟩,
  ⟨.a (.l (.r (.r (.l (.l (.r .h)))))) none (.bs (nat_lit 4) (nat_lit 1) [(.b false)] [((nat_lit 0), (nat_lit 1), (.s (.r (.l (.r (.l (.l (.r .h))))))))]), (nat_lit 8), [(nat_lit 7)], []⟩,
  ⟨.c (some (.r (.r (.r (.l (.l (.r .h))))))) none (.ap (nat_lit 4) (nat_lit 1) (nat_lit 1) (.s (.l (.l (.r (.l (.l (.r .h))))))) (.s (.l (.r (.r (.l (.l (.r .h)))))))), (nat_lit 9), [(nat_lit 0), (nat_lit 1), (nat_lit 2), (nat_lit 3), (nat_lit 4), (nat_lit 5), (nat_lit 6), (nat_lit 7), (nat_lit 8)], []⟩,
  ⟨.c none none (.st (nat_lit 1) (.s (.l (.l (.l (.r (.l (.r .h))))))) (.s (.l (.r (.l (.l (.l (.r .h)))))))), (nat_lit 11), [(nat_lit 0), (nat_lit 1), (nat_lit 2), (nat_lit 3), (nat_lit 4), (nat_lit 5), (nat_lit 6), (nat_lit 7), (nat_lit 8), (nat_lit 9), (nat_lit 10)], []⟩,
  ⟨.p (.r (.l (.l (.r (.l (.r .h)))))) none (.fa (nat_lit 1) (.s (.r (.l (.r .h))))), (nat_lit 12), [(nat_lit 0), (nat_lit 1), (nat_lit 2), (nat_lit 3), (nat_lit 4), (nat_lit 5), (nat_lit 6), (nat_lit 7), (nat_lit 8), (nat_lit 9), (nat_lit 10), (nat_lit 11)], []⟩,
  ⟨.c none none (.st (nat_lit 1) (.s (.r (.l (.l (.r (.l (.r .h))))))) (.s (.r (.r (.r (.l (.l (.r .h)))))))), (nat_lit 13), [(nat_lit 0), (nat_lit 1), (nat_lit 2), (nat_lit 3), (nat_lit 4), (nat_lit 5), (nat_lit 6), (nat_lit 7), (nat_lit 8), (nat_lit 9), (nat_lit 10), (nat_lit 11), (nat_lit 12)], []⟩]))))
 (.reg [.p (.l (.l (.r (.l (.l .h))))) none (.mv (.s (.l (.r (.r .h))))),
  .p (.r (.l (.r (.l (.l .h))))) none (.ar .add (.s (.l (.l (.r (.l (.l .h)))))) (.c (.a (.i .i64 (.n (nat_lit 1)))))),
  .p (.l (.r (.r .h))) none (.mv (.s (.r (.l (.r (.l (.l .h)))))))]))))))
 (.seq (.reg [.r (.l (.r (.l (.r (.l (.r .h)))))) none (.lg (nat_lit 3) (.s (.r (.l (.r .h))))),
  .c none none (.st (nat_lit 3) (.s (.r (.r (.l .h)))) (.s (.l (.r (.l (.r (.l (.r .h))))))))])
 .rt))))), false, false⟩
noncomputable def rf188 : RF := ⟨[.h, (.l .h), (.r .h), (.l (.l .h))], [], (.seq (.reg [.p (.r (.r (.l .h))) none (.mv (.s (.l .h))),
  .p (.l (.l (.r .h))) none (.ar .add (.s (.r (.r (.l .h)))) (.c (.a (.i .i64 (.n (nat_lit 1)))))),
  .p (.r (.l (.l .h))) none (.mv (.s (.l (.l (.r .h)))))])
 (.blk (nat_lit 0) (.loop (.seq (.seq (.reg [.p (.r (.l (.r .h))) none (.mv (.s (.r (.l (.l .h))))),
  .p (.l (.r (.r .h))) none (.mv (.s (.r .h))),
  .p (.r (.r (.r .h))) none (.cp .lss (.s (.r (.l (.r .h)))) (.s (.l (.r (.r .h)))))])
 (.cond (.s (.r (.r (.r .h)))) .skip (.ex (nat_lit 0))))
 (.seq (.blk (nat_lit 1) (.seq (.reg [.p (.l (.r (.l (.l .h)))) none (.mv (.s (.r (.l (.l .h))))),
  .p (.l (.r (.l .h))) none (.mv (.s (.l (.r (.l (.l .h))))))])
 (.blk (nat_lit 2) (.loop (.seq (.seq (.drw [⟨.p (.r (.r (.l (.l .h)))) none (.mv (.s (.l (.r (.l .h))))), (nat_lit 0), [], []⟩,
  ⟨.p (.l (.l (.r (.l .h)))) none (.mv (.s (.l .h))), (nat_lit 1), [], []⟩,
  ⟨.p (.r (.l (.r (.l .h)))) none (.cp .gtr (.s (.r (.r (.l (.l .h))))) (.s (.l (.l (.r (.l .h)))))), (nat_lit 2), [(nat_lit 0), (nat_lit 1)], []⟩,
  ⟨.p (.l (.r (.r (.l .h)))) none (.mv (.s (.r (.l (.r (.l .h)))))), (nat_lit 3), [(nat_lit 0), (nat_lit 1), (nat_lit 2)], []⟩,
  ⟨.p (.r (.r (.r (.l .h)))) (some ((.l (.r (.r (.l .h)))), true)) (.mv (.s (.l (.l .h)))), (nat_lit 4), [(nat_lit 0), (nat_lit 1), (nat_lit 2), (nat_lit 3)], []⟩,
  ⟨.p (.l (.l (.l (.r .h)))) (some ((.l (.r (.r (.l .h)))), true)) (.mv (.s .h)), (nat_lit 5), [(nat_lit 0), (nat_lit 1), (nat_lit 2), (nat_lit 3)], []⟩,
  ⟨.p (.r (.l (.l (.r .h)))) (some ((.l (.r (.r (.l .h)))), true)) (.mv (.s (.l (.r (.l .h))))), (nat_lit 6), [(nat_lit 0), (nat_lit 1), (nat_lit 2), (nat_lit 3)], []⟩,
  ⟨.p (.l (.r (.l (.r .h)))) (some ((.l (.r (.r (.l .h)))), true)) (.ix (nat_lit 11) (.s (.l (.l (.l (.r .h))))) (.s (.r (.l (.l (.r .h)))))), (nat_lit 7), [(nat_lit 0), (nat_lit 1), (nat_lit 2), (nat_lit 3), (nat_lit 5), (nat_lit 6)], []⟩,
  ⟨.r (.r (.r (.l (.r .h)))) (some ((.l (.r (.r (.l .h)))), true)) (.lg (nat_lit 11) (.s (.l (.r (.l (.r .h)))))), (nat_lit 8), [(nat_lit 0), (nat_lit 1), (nat_lit 2), (nat_lit 3), (nat_lit 5), (nat_lit 6), (nat_lit 7)], []⟩,
  ⟨.p (.l (.l (.r (.r .h)))) (some ((.l (.r (.r (.l .h)))), true)) (.mv (.s .h)), (nat_lit 9), [(nat_lit 0), (nat_lit 1), (nat_lit 2), (nat_lit 3)], []⟩,
  ⟨.p (.r (.l (.r (.r .h)))) (some ((.l (.r (.r (.l .h)))), true)) (.mv (.s (.l (.r (.l .h))))), (nat_lit 10), [(nat_lit 0), (nat_lit 1), (nat_lit 2), (nat_lit 3)], []⟩,
  ⟨.p (.l (.r (.r (.r .h)))) (some ((.l (.r (.r (.l .h)))), true)) (.ar .sub (.s (.r (.l (.r (.r .h))))) (.c (.a (.i .i64 (.n (nat_lit 1)))))), (nat_lit 11), [(nat_lit 0), (nat_lit 1), (nat_lit 2), (nat_lit 3), (nat_lit 10)], []⟩,
  ⟨.p (.r (.r (.r (.r .h)))) (some ((.l (.r (.r (.l .h)))), true)) (.ix (nat_lit 11) (.s (.l (.l (.r (.r .h))))) (.s (.l (.r (.r (.r .h)))))), (nat_lit 12), [(nat_lit 0), (nat_lit 1), (nat_lit 2), (nat_lit 3), (nat_lit 9), (nat_lit 10), (nat_lit 11)], []⟩,
  ⟨.r (.l (.l (.l (.l (.l .h))))) (some ((.l (.r (.r (.l .h)))), true)) (.lg (nat_lit 11) (.s (.r (.r (.r (.r .h)))))), (nat_lit 13), [(nat_lit 0), (nat_lit 1), (nat_lit 2), (nat_lit 3), (nat_lit 9), (nat_lit 10), (nat_lit 11), (nat_lit 12)], []⟩,
  ⟨.v (some (.r (.l (.l (.l (.l .h)))))) (some ((.l (.r (.r (.l .h)))), true)) (.s (.r (.r (.r (.l .h))))) [(.s (.r (.r (.l (.r .h))))), (.s (.l (.l (.l (.l (.l .h))))))], (nat_lit 14), [(nat_lit 0), (nat_lit 1), (nat_lit 2), (nat_lit 3), (nat_lit 4), (nat_lit 5), (nat_lit 6), (nat_lit 7), (nat_lit 8), (nat_lit 9), (nat_lit 10), (nat_lit 11), (nat_lit 12), (nat_lit 13)], []⟩,
  ⟨.p (.l (.r (.l (.l (.l .h))))) (some ((.l (.r (.r (.l .h)))), true)) (.cp .lss (.s (.r (.l (.l (.l (.l .h)))))) (.c (.a (.i .i64 (.n (nat_lit 0)))))), (nat_lit 15), [(nat_lit 0), (nat_lit 1), (nat_lit 2), (nat_lit 3), (nat_lit 4), (nat_lit 5), (nat_lit 6), (nat_lit 7), (nat_lit 8), (nat_lit 9), (nat_lit 10), (nat_lit 11), (nat_lit 12), (nat_lit 13), (nat_lit 14)], []⟩,
  ⟨.p (.r (.r (.l (.l (.l .h))))) none (.pk (.s (.l (.r (.r (.l .h))))) (.s (.l (.r (.l (.l (.l .h)))))) (.c (.a (.b false)))), (nat_lit 16), [(nat_lit 0), (nat_lit 1), (nat_lit 2), (nat_lit 3), (nat_lit 4), (nat_lit 5), (nat_lit 6), (nat_lit 7), (nat_lit 8), (nat_lit 9), (nat_lit 10), (nat_lit 11), (nat_lit 12), (nat_lit 13), (nat_lit 14), (nat_lit 15)], []⟩])
 (.cond (.s (.r (.r (.l (.l (.l .h)))))) .skip (.ex (nat_lit 2))))
 (.seq (.blk (nat_lit 3) (.drw [⟨.p (.l (.r (.r (.l (.l .h))))) none (.mv (.s .h)), (nat_lit 0), [], []⟩,
  ⟨.p (.r (.r (.r (.l (.l .h))))) none (.mv (.s (.l (.r (.l .h))))), (nat_lit 1), [], []⟩,
  ⟨.p (.l (.l (.l (.r (.l .h))))) none (.mv (.s .h)), (nat_lit 2), [], []⟩,
  ⟨.p (.r (.l (.l (.r (.l .h))))) none (.mv (.s (.l (.r (.l .h))))), (nat_lit 3), [], []⟩,
  ⟨.p (.l (.r (.l (.r (.l .h))))) none (.ar .sub (.s (.r (.l (.l (.r (.l .h)))))) (.c (.a (.i .i64 (.n (nat_lit 1)))))), (nat_lit 4), [(nat_lit 3)], []⟩,
  ⟨.p (.r (.r (.l (.r (.l .h))))) none (.mv (.s .h)), (nat_lit 5), [], []⟩,
  ⟨.p (.l (.l (.r (.r (.l .h))))) none (.mv (.s (.l (.r (.l .h))))), (nat_lit 6), [], []⟩,
  ⟨.p (.r (.l (.r (.r (.l .h))))) none (.ar .sub (.s (.l (.l (.r (.r (.l .h)))))) (.c (.a (.i .i64 (.n (nat_lit 1)))))), (nat_lit 7), [(nat_lit 6)], []⟩,
  ⟨.p (.l (.r (.r (.r (.l .h))))) none (.ix (nat_lit 11) (.s (.r (.r (.l (.r (.l .h)))))) (.s (.r (.l (.r (.r (.l .h))))))), (nat_lit 8), [(nat_lit 5), (nat_lit 6), (nat_lit 7)], []⟩,
  ⟨.r (.r (.r (.r (.r (.l .h))))) none (.lg (nat_lit 11) (.s (.l (.r (.r (.r (.l .h))))))), (nat_lit 9), [(nat_lit 5), (nat_lit 6), (nat_lit 7), (nat_lit 8)], []⟩,
  ⟨.p (.l (.l (.l (.l (.r .h))))) none (.mv (.s .h)), (nat_lit 10), [], []⟩,
  ⟨.p (.r (.l (.l (.l (.r .h))))) none (.mv (.s (.l (.r (.l .h))))), (nat_lit 11), [], []⟩,
  ⟨.p (.l (.r (.l (.l (.r .h))))) none (.ix (nat_lit 11) (.s (.l (.l (.l (.l (.r .h)))))) (.s (.r (.l (.l (.l (.r .h))))))), (nat_lit 12), [(nat_lit 10), (nat_lit 11)], []⟩,
  ⟨.r (.r (.r (.l (.l (.r .h))))) none (.lg (nat_lit 11) (.s (.l (.r (.l (.l (.r .h))))))), (nat_lit 13), [(nat_lit 10), (nat_lit 11), (nat_lit 12)], []⟩,
  ⟨.p (.l (.l (.r (.l (.r .h))))) none (.ix (nat_lit 11) (.s (.l (.r (.r (.l (.l .h)))))) (.s (.r (.r (.r (.l (.l .h))))))), (nat_lit 14), [(nat_lit 0), (nat_lit 1), (nat_lit 5), (nat_lit 6), (nat_lit 7), (nat_lit 8), (nat_lit 9), (nat_lit 10), (nat_lit 11), (nat_lit 12), (nat_lit 13)], []⟩,
  ⟨.c none none (.st (nat_lit 11) (.s (.l (.l (.r (.l (.r .h)))))) (.s (.r (.r (.r (.r (.l .h))))))), (nat_lit 15), [(nat_lit 0), (nat_lit 1), (nat_lit 5), (nat_lit 6), (nat_lit 7), (nat_lit 8), (nat_lit 9), (nat_lit 10), (nat_lit 11), (nat_lit 12), (nat_lit 13), (nat_lit 14)], []⟩,
  ⟨.p (.r (.l (.r (.l (.r .h))))) none (.ix (nat_lit 11) (.s (.l (.l (.l (.r (.l .h)))))) (.s (.l (.r (.l (.r (.l .h))))))), (nat_lit 16), [(nat_lit 0), (nat_lit 1), (nat_lit 2), (nat_lit 3), (nat_lit 4), (nat_lit 5), (nat_lit 6), (nat_lit 7), (nat_lit 8), (nat_lit 9), (nat_lit 10), (nat_lit 11), (nat_lit 12), (nat_lit 13), (nat_lit 14), (nat_lit 15)], []⟩,
  ⟨.c none none (.st (nat_lit 11) (.s (.r (.l (.r (.l (.r .h)))))) (.s (.r (.r (.l (.l (.r .h))))))), (nat_lit 17), [(nat_lit 0), (nat_lit 1), (nat_lit 2), (nat_lit 3), (nat_lit 4), (nat_lit 5), (nat_lit 6), (nat_lit 7), (nat_lit 8), (nat_lit 9), (nat_lit 10), (nat_lit 11), (nat_lit 12), (nat_lit 13), (nat_lit 14), (nat_lit 15), (nat_lit 16)], []⟩]))
 (.reg [.p (.l (.l (.r (.l (.l .h))))) none (.mv (.s (.l (.r (.l .h))))),
  .p (.r (.l (.r (.l (.l .h))))) none (.ar .sub (.s (.l (.l (.r (.l (.l .h)))))) (.c (.a (.i .i64 (.n (nat_lit 1)))))),
  .p (.l (.r (.l .h))) none (.mv (.s (.r (.l (.r (.l (.l .h)))))))])))))))
 (.reg [.p (.l (.l (.l (.l .h)))) none (.mv (.s (.r (.l (.l .h))))),
  .p (.r (.l (.l (.l .h)))) none (.ar .add (.s (.l (.l (.l (.l .h))))) (.c (.a (.i .i64 (.n (nat_lit 1)))))),
  .p (.r (.l (.l .h))) none (.mv (.s (.r (.l (.l (.l .h))))))])))))), false, false⟩
noncomputable def rf189 : RF := ⟨[.h, (.l .h), (.r .h), (.l (.l .h)), (.r (.l .h))], [], (.seq (.seq (.reg [.p (.l (.r (.l (.r .h)))) none (.mv (.s (.r .h))),
  .p (.r (.r (.l (.r .h)))) none (.mv (.s (.l .h))),
  .p (.l (.l (.r (.r .h)))) none (.ar .sub (.s (.l (.r (.l (.r .h))))) (.s (.r (.r (.l (.r .h)))))),
  .p (.r (.l (.r (.r .h)))) none (.cp .eql (.s (.l (.l (.r (.r .h))))) (.c (.a (.i .i64 (.n (nat_lit 1))))))])
 (.cond (.s (.r (.l (.r (.r .h))))) (.seq (.reg [.p (.l (.r (.r (.r .h)))) none (.mv (.s (.r .h))),
  .p (.r (.r (.l .h))) none (.mv (.s (.l (.r (.r (.r .h))))))])
 (.seq (.reg [.p (.r (.r (.r (.r .h)))) none (.mv (.s (.l (.l .h)))),
  .p (.l (.l (.r .h))) none (.mv (.s (.r (.r (.r (.r .h))))))])
 (.seq (.blk (nat_lit 0) (.loop (.seq (.seq (.reg [.p (.l (.l (.l (.l (.l .h))))) none (.mv (.s (.r (.r (.l .h))))),
  .p (.r (.l (.l (.l (.l .h))))) none (.mv (.s (.l (.l (.r .h))))),
  .p (.l (.r (.l (.l (.l .h))))) none (.cp .lss (.s (.l (.l (.l (.l (.l .h)))))) (.s (.r (.l (.l (.l (.l .h)))))))])
 (.cond (.s (.l (.r (.l (.l (.l .h)))))) .skip (.ex (nat_lit 0))))
 (.blk (nat_lit 1) (.seq (.reg [.p (.r (.r (.l (.l (.l .h))))) none (.mv (.s (.r (.r (.l .h))))),
  .p (.l (.l (.r (.l (.l .h))))) none (.mv (.s (.l (.l (.r .h))))),
  .p (.r (.l (.r (.l (.l .h))))) none (.ar .add (.s (.r (.r (.l (.l (.l .h)))))) (.s (.l (.l (.r (.l (.l .h))))))),
  .p (.l (.r (.r (.l (.l .h))))) none (.cv .u64 (.s (.r (.l (.r (.l (.l .h))))))),
  .p (.r (.r (.r (.l (.l .h))))) none (.ar .shr (.s (.l (.r (.r (.l (.l .h)))))) (.c (.a (.i .u64 (.n (nat_lit 1)))))),
  .p (.l (.l (.l (.r (.l .h))))) none (.cv .i64 (.s (.r (.r (.r (.l (.l .h))))))),
  .p (.r (.l (.r .h))) none (.mv (.s (.l (.l (.l (.r (.l .h)))))))])
 (.seq (.drw [⟨.p (.r (.l (.l (.r (.l .h))))) none (.mv (.s (.r (.l .h)))), (nat_lit 0), [], []⟩,
  ⟨.p (.l (.r (.l (.r (.l .h))))) none (.mv (.s .h)), (nat_lit 1), [], []⟩,
  ⟨.p (.r (.r (.l (.r (.l .h))))) none (.mv (.s (.r (.l (.r .h))))), (nat_lit 2), [], []⟩,
  ⟨.p (.l (.l (.r (.r (.l .h))))) none (.ix (nat_lit 11) (.s (.l (.r (.l (.r (.l .h)))))) (.s (.r (.r (.l (.r (.l .h))))))), (nat_lit 3), [(nat_lit 1), (nat_lit 2)], []⟩,
  ⟨.r (.r (.l (.r (.r (.l .h))))) none (.lg (nat_lit 11) (.s (.l (.l (.r (.r (.l .h))))))), (nat_lit 4), [(nat_lit 1), (nat_lit 2), (nat_lit 3)], []⟩,
  ⟨.p (.l (.r (.r (.r (.l .h))))) none (.mv (.s .h)), (nat_lit 5), [], []⟩,
  ⟨.p (.r (.r (.r (.r (.l .h))))) none (.mv (.s (.l .h))), (nat_lit 6), [], []⟩,
  ⟨.p (.l (.l (.l (.l (.r .h))))) none (.ix (nat_lit 11) (.s (.l (.r (.r (.r (.l .h)))))) (.s (.r (.r (.r (.r (.l .h))))))), (nat_lit 7), [(nat_lit 5), (nat_lit 6)], []⟩,
  ⟨.r (.r (.l (.l (.l (.r .h))))) none (.lg (nat_lit 11) (.s (.l (.l (.l (.l (.r .h))))))), (nat_lit 8), [(nat_lit 5), (nat_lit 6), (nat_lit 7)], []⟩,
  ⟨.v (some (.l (.r (.l (.l (.r .h)))))) none (.s (.r (.l (.l (.r (.l .h)))))) [(.s (.r (.l (.r (.r (.l .h)))))), (.s (.r (.l (.l (.l (.r .h))))))], (nat_lit 9), [(nat_lit 0), (nat_lit 1), (nat_lit 2), (nat_lit 3), (nat_lit 4), (nat_lit 5), (nat_lit 6), (nat_lit 7), (nat_lit 8)], []⟩,
  ⟨.p (.r (.r (.l (.l (.r .h))))) none (.cp .lss (.s (.l (.r (.l (.l (.r .h)))))) (.c (.a (.i .i64 (.n (nat_lit 0)))))), (nat_lit 10), [(nat_lit 0), (nat_lit 1), (nat_lit 2), (nat_lit 3), (nat_lit 4), (nat_lit 5), (nat_lit 6), (nat_lit 7), (nat_lit 8), (nat_lit 9)], []⟩])
 (.cond (.s (.r (.r (.l (.l (.r .h)))))) (.reg [.p (.l (.l (.r (.l (.r .h))))) none (.mv (.s (.r (.l (.r .h))))),
  .p (.r (.l (.r (.l (.r .h))))) none (.ar .add (.s (.l (.l (.r (.l (.r .h)))))) (.c (.a (.i .i64 (.n (nat_lit 1)))))),
  .p (.r (.r (.l .h))) none (.mv (.s (.r (.l (.r (.l (.r .h)))))))]) (.reg [.p (.l (.r (.r (.l (.r .h))))) none (.mv (.s (.r (.l (.r .h))))),
  .p (.l (.l (.r .h))) none (.mv (.s (.l (.r (.r (.l (.r .h)))))))]))))))))
 (.seq (.seq (.reg [.p (.r (.r (.r (.l (.r .h))))) none (.mv (.s (.l .h))),
  .p (.l (.r (.r .h))) none (.mv (.s (.r (.r (.r (.l (.r .h)))))))])
 (.blk (nat_lit 2) (.loop (.seq (.seq (.reg [.p (.l (.l (.l (.r (.r .h))))) none (.mv (.s (.l (.r (.r .h))))),
  .p (.r (.l (.l (.r (.r .h))))) none (.mv (.s (.r (.r (.l .h))))),
  .p (.l (.r (.l (.r (.r .h))))) none (.ar .sub (.s (.r (.l (.l (.r (.r .h)))))) (.c (.a (.i .i64 (.n (nat_lit 1)))))),
  .p (.r (.r (.l (.r (.r .h))))) none (.cp .lss (.s (.l (.l (.l (.r (.r .h)))))) (.s (.l (.r (.l (.r (.r .h)))))))])
 (.cond (.s (.r (.r (.l (.r (.r .h)))))) .skip (.ex (nat_lit 2))))
 (.seq (.blk (nat_lit 3) (.drw [⟨.p (.l (.r (.r (.r (.r .h))))) none (.mv (.s .h)), (nat_lit 0), [], []⟩,
  ⟨.p (.r (.r (.r (.r (.r .h))))) none (.mv (.s (.l (.r (.r .h))))), (nat_lit 1), [], []⟩,
  ⟨.p (.l (.l (.l (.l (.l (.l .h)))))) none (.mv (.s .h)), (nat_lit 2), [], []⟩,
  ⟨.p (.r (.l (.l (.l (.l (.l .h)))))) none (.mv (.s (.l (.r (.r .h))))), (nat_lit 3), [], []⟩,
  ⟨.p (.l (.r (.l (.l (.l (.l .h)))))) none (.ar .add (.s (.r (.l (.l (.l (.l (.l .h))))))) (.c (.a (.i .i64 (.n (nat_lit 1)))))), (nat_lit 4), [(nat_lit 3)], []⟩,
  ⟨.p (.r (.r (.l (.l (.l (.l .h)))))) none (.mv (.s .h)), (nat_lit 5), [], []⟩,
  ⟨.p (.l (.l (.r (.l (.l (.l .h)))))) none (.mv (.s (.l (.r (.r .h))))), (nat_lit 6), [], []⟩,
  ⟨.p (.r (.l (.r (.l (.l (.l .h)))))) none (.ar .add (.s (.l (.l (.r (.l (.l (.l .h))))))) (.c (.a (.i .i64 (.n (nat_lit 1)))))), (nat_lit 7), [(nat_lit 6)], []⟩,
  ⟨.p (.l (.r (.r (.l (.l (.l .h)))))) none (.ix (nat_lit 11) (.s (.r (.r (.l (.l (.l (.l .h))))))) (.s (.r (.l (.r (.l (.l (.l .h)))))))), (nat_lit 8), [(nat_lit 5), (nat_lit 6), (nat_lit 7)], []⟩,
  ⟨.r (.r (.r (.r (.l (.l (.l .h)))))) none (.lg (nat_lit 11) (.s (.l (.r (.r (.l (.l (.l .h)))))))), (nat_lit 9), [(nat_lit 5), (nat_lit 6), (nat_lit 7), (nat_lit 8)], []⟩,
  ⟨.p (.l (.l (.l (.r (.l (.l .h)))))) none (.mv (.s .h)), (nat_lit 10), [], []⟩,
  ⟨.p (.r (.l (.l (.r (.l (.l .h)))))) none (.mv (.s (.l (.r (.r .h))))), (nat_lit 11), [], []⟩,
  ⟨.p (.l (.r (.l (.r (.l (.l .h)))))) none (.ix (nat_lit 11) (.s (.l (.l (.l (.r (.l (.l .h))))))) (.s (.r (.l (.l (.r (.l (.l .h)))))))), (nat_lit 12), [(nat_lit 10), (nat_lit 11)], []⟩,
  ⟨.r (.r (.r (.l (.r (.l (.l .h)))))) none (.lg (nat_lit 11) (.s (.l (.r (.l (.r (.l (.l .h)))))))), (nat_lit 13), [(nat_lit 10), (nat_lit 11), (nat_lit 12)], []⟩,
  ⟨.p (.l (.l (.r (.r (.l (.l .h)))))) none (.ix (nat_lit 11) (.s (.l (.r (.r (.r (.r .h)))))) (.s (.r (.r (.r (.r (.r .h))))))), (nat_lit 14), [(nat_lit 0), (nat_lit 1), (nat_lit 5), (nat_lit 6), (nat_lit 7), (nat_lit 8), (nat_lit 9), (nat_lit 10), (nat_lit 11), (nat_lit 12), (nat_lit 13)], []⟩,
  ⟨.c none none (.st (nat_lit 11) (.s (.l (.l (.r (.r (.l (.l .h))))))) (.s (.r (.r (.r (.l (.l (.l .h)))))))), (nat_lit 15), [(nat_lit 0), (nat_lit 1), (nat_lit 5), (nat_lit 6), (nat_lit 7), (nat_lit 8), (nat_lit 9), (nat_lit 10), (nat_lit 11), (nat_lit 12), (nat_lit 13), (nat_lit 14)], []⟩,
  ⟨.p (.r (.l (.r (.r (.l (.l .h)))))) none (.ix (nat_lit 11) (.s (.l (.l (.l (.l (.l (.l .h))))))) (.s (.l (.r (.l (.l (.l (.l .h)))))))), (nat_lit 16), [(nat_lit 0), (nat_lit 1), (nat_lit 2), (nat_lit 3), (nat_lit 4), (nat_lit 5), (nat_lit 6), (nat_lit 7), (nat_lit 8), (nat_lit 9), (nat_lit 10), (nat_lit 11), (nat_lit 12), (nat_lit 13), (nat_lit 14), (nat_lit 15)], []⟩,
  ⟨.c none none (.st (nat_lit 11) (.s (.r (.l (.r (.r (.l (.l .h))))))) (.s (.r (.r (.l (.r (.l (.l .h)))))))), (nat_lit 17), [(nat_lit 0), (nat_lit 1), (nat_lit 2), (nat_lit 3), (nat_lit 4), (nat_lit 5), (nat_lit 6), (nat_lit 7), (nat_lit 8), (nat_lit 9), (nat_lit 10), (nat_lit 11), (nat_lit 12), (nat_lit 13), (nat_lit 14), (nat_lit 15), (nat_lit 16)], []⟩]))
 (.reg [.p (.l (.l (.r (.r (.r .h))))) none (.mv (.s (.l (.r (.r .h))))),
  .p (.r (.l (.r (.r (.r .h))))) none (.ar .add (.s (.l (.l (.r (.r (.r .h)))))) (.c (.a (.i .i64 (.n (nat_lit 1)))))),
  .p (.l (.r (.r .h))) none (.mv (.s (.r (.l (.r (.r (.r .h)))))))]))))))
 .rt)))) .skip))
 (.seq (.seq (.reg [.p (.l (.r (.r (.r (.l (.l .h)))))) none (.mv (.s (.l (.l .h)))),
  .p (.r (.r (.r (.r (.l (.l .h)))))) none (.mv (.s (.r .h))),
  .p (.l (.l (.l (.l (.r (.l .h)))))) none (.ar .sub (.s (.l (.r (.r (.r (.l (.l .h))))))) (.s (.r (.r (.r (.r (.l (.l .h)))))))),
  .p (.r (.l (.l (.l (.r (.l .h)))))) none (.cp .eql (.s (.l (.l (.l (.l (.r (.l .h))))))) (.c (.a (.i .i64 (.n (nat_lit 1))))))])
 (.cond (.s (.r (.l (.l (.l (.r (.l .h))))))) (.seq (.reg [.p (.l (.r (.l (.l (.r (.l .h)))))) none (.mv (.s (.l .h))),
  .p (.r (.r (.r .h))) none (.mv (.s (.l (.r (.l (.l (.r (.l .h))))))))])
 (.seq (.reg [.p (.r (.r (.l (.l (.r (.l .h)))))) none (.mv (.s (.r .h))),
  .p (.l (.l (.l (.l .h)))) none (.mv (.s (.r (.r (.l (.l (.r (.l .h))))))))])
 (.seq (.blk (nat_lit 4) (.loop (.seq (.seq (.reg [.p (.l (.l (.r (.l (.r (.l .h)))))) none (.mv (.s (.r (.r (.r .h))))),
  .p (.r (.l (.r (.l (.r (.l .h)))))) none (.mv (.s (.l (.l (.l (.l .h)))))),
  .p (.l (.r (.r (.l (.r (.l .h)))))) none (.cp .lss (.s (.l (.l (.r (.l (.r (.l .h))))))) (.s (.r (.l (.r (.l (.r (.l .h))))))))])
 (.cond (.s (.l (.r (.r (.l (.r (.l .h))))))) .skip (.ex (nat_lit 4))))
 (.blk (nat_lit 5) (.seq (.reg [.p (.r (.r (.r (.l (.r (.l .h)))))) none (.mv (.s (.r (.r (.r .h))))),
  .p (.l (.l (.l (.r (.r (.l .h)))))) none (.mv (.s (.l (.l (.l (.l .h)))))),
  .p (.r (.l (.l (.r (.r (.l .h)))))) none (.ar .add (.s (.r (.r (.r (.l (.r (.l .h))))))) (.s (.l (.l (.l (.r (.r (.l .h)))))))),
  .p (.l (.r (.l (.r (.r (.l .h)))))) none (.cv .u64 (.s (.r (.l (.l (.r (.r (.l .h)))))))),
  .p (.r (.r (.l (.r (.r (.l .h)))))) none (.ar .shr (.s (.l (.r (.l (.r (.r (.l .h))))))) (.c (.a (.i .u64 (.n (nat_lit 1)))))),
  .p (.l (.l (.r (.r (.r (.l .h)))))) none (.cv .i64 (.s (.r (.r (.l (.r (.r (.l .h)))))))),
  .p (.r (.l (.l (.l .h)))) none (.mv (.s (.l (.l (.r (.r (.r (.l .h))))))))])
 (.seq (.drw [⟨.p (.r (.l (.r (.r (.r (.l .h)))))) none (.mv (.s (.r (.l .h)))), (nat_lit 0), [], []⟩,
  ⟨.p (.l (.r (.r (.r (.r (.l .h)))))) none (.mv (.s .h)), (nat_lit 1), [], []⟩,
  ⟨.p (.r (.r (.r (.r (.r (.l .h)))))) none (.mv (.s (.r .h))), (nat_lit 2), [], []⟩,
  ⟨.p (.l (.l (.l (.l (.l (.r .h)))))) none (.ix (nat_lit 11) (.s (.l (.r (.r (.r (.r (.l .h))))))) (.s (.r (.r (.r (.r (.r (.l .h)))))))), (nat_lit 3), [(nat_lit 1), (nat_lit 2)], []⟩,
  ⟨.r (.r (.l (.l (.l (.l (.r .h)))))) none (.lg (nat_lit 11) (.s (.l (.l (.l (.l (.l (.r .h)))))))), (nat_lit 4), [(nat_lit 1), (nat_lit 2), (nat_lit 3)], []⟩,
  ⟨.p (.l (.r (.l (.l (.l (.r .h)))))) none (.mv (.s .h)), (nat_lit 5), [], []⟩,
  ⟨.p (.r (.r (.l (.l (.l (.r .h)))))) none (.mv (.s (.r (.l (.l (.l .h)))))), (nat_lit 6), [], []⟩,
  ⟨.p (.l (.l (.r (.l (.l (.r .h)))))) none (.ix (nat_lit 11) (.s (.l (.r (.l (.l (.l (.r .h))))))) (.s (.r (.r (.l (.l (.l (.r .h)))))))), (nat_lit 7), [(nat_lit 5), (nat_lit 6)], []⟩,
  ⟨.r (.r (.l (.r (.l (.l (.r .h)))))) none (.lg (nat_lit 11) (.s (.l (.l (.r (.l (.l (.r .h)))))))), (nat_lit 8), [(nat_lit 5), (nat_lit 6), (nat_lit 7)], []⟩,
  ⟨.v (some (.l (.r (.r (.l (.l (.r .h))))))) none (.s (.r (.l (.r (.r (.r (.l .h))))))) [(.s (.r (.l (.l (.l (.l (.r .h))))))), (.s (.r (.l (.r (.l (.l (.r .h)))))))], (nat_lit 9), [(nat_lit 0), (nat_lit 1), (nat_lit 2), (nat_lit 3), (nat_lit 4), (nat_lit 5), (nat_lit 6), (nat_lit 7), (nat_lit 8)], []⟩,
  ⟨.p (.r (.r (.r (.l (.l (.r .h)))))) none (.cp .lss (.s (.l (.r (.r (.l (.l (.r .h))))))) (.c (.a (.i .i64 (.n (nat_lit 0)))))), (nat_lit 10), [(nat_lit 0), (nat_lit 1), (nat_lit 2), (nat_lit 3), (nat_lit 4), (nat_lit 5), (nat_lit 6), (nat_lit 7), (nat_lit 8), (nat_lit 9)], []⟩,
  ⟨.p (.l (.l (.l (.r (.l (.r .h)))))) none (.nt (.s (.r (.r (.r (.l (.l (.r .h)))))))), (nat_lit 11), [(nat_lit 0), (nat_lit 1), (nat_lit 2), (nat_lit 3), (nat_lit 4), (nat_lit 5), (nat_lit 6), (nat_lit 7), (nat_lit 8), (nat_lit 9), (nat_lit 10)], []⟩])
 (.cond (.s (.l (.l (.l (.r (.l (.r .h))))))) (.reg [.p (.r (.l (.l (.r (.l (.r .h)))))) none (.mv (.s (.r (.l (.l (.l .h)))))),
  .p (.l (.r (.l (.r (.l (.r .h)))))) none (.ar .add (.s (.r (.l (.l (.r (.l (.r .h))))))) (.c (.a (.i .i64 (.n (nat_lit 1)))))),
  .p (.r (.r (.r .h))) none (.mv (.s (.l (.r (.l (.r (.l (.r .h))))))))]) (.reg [.p (.r (.r (.l (.r (.l (.r .h)))))) none (.mv (.s (.r (.l (.l (.l .h)))))),
  .p (.l (.l (.l (.l .h)))) none (.mv (.s (.r (.r (.l (.r (.l (.r .h))))))))]))))))))
 (.seq (.seq (.reg [.p (.l (.l (.r (.r (.l (.r .h)))))) none (.mv (.s (.r .h))),
  .p (.l (.r (.l (.l .h)))) none (.mv (.s (.l (.l (.r (.r (.l (.r .h))))))))])
 (.blk (nat_lit 6) (.loop (.seq (.seq (.reg [.p (.r (.l (.r (.r (.l (.r .h)))))) none (.mv (.s (.l (.r (.l (.l .h)))))),
  .p (.l (.r (.r (.r (.l (.r .h)))))) none (.mv (.s (.r (.r (.r .h))))),
  .p (.r (.r (.r (.r (.l (.r .h)))))) none (.cp .gtr (.s (.r (.l (.r (.r (.l (.r .h))))))) (.s (.l (.r (.r (.r (.l (.r .h))))))))])
 (.cond (.s (.r (.r (.r (.r (.l (.r .h))))))) .skip (.ex (nat_lit 6))))
 (.seq (.blk (nat_lit 7) (.drw [⟨.p (.l (.r (.l (.l (.r (.r .h)))))) none (.mv (.s .h)), (nat_lit 0), [], []⟩,
  ⟨.p (.r (.r (.l (.l (.r (.r .h)))))) none (.mv (.s (.l (.r (.l (.l .h)))))), (nat_lit 1), [], []⟩,
  ⟨.p (.l (.l (.r (.l (.r (.r .h)))))) none (.mv (.s .h)), (nat_lit 2), [], []⟩,
  ⟨.p (.r (.l (.r (.l (.r (.r .h)))))) none (.mv (.s (.l (.r (.l (.l .h)))))), (nat_lit 3), [], []⟩,
  ⟨.p (.l (.r (.r (.l (.r (.r .h)))))) none (.ar .sub (.s (.r (.l (.r (.l (.r (.r .h))))))) (.c (.a (.i .i64 (.n (nat_lit 1)))))), (nat_lit 4), [(nat_lit 3)], []⟩,
  ⟨.p (.r (.r (.r (.l (.r (.r .h)))))) none (.mv (.s .h)), (nat_lit 5), [], []⟩,
  ⟨.p (.l (.l (.l (.r (.r (.r .h)))))) none (.mv (.s (.l (.r (.l (.l .h)))))), (nat_lit 6), [], []⟩,
  ⟨.p (.r (.l (.l (.r (.r (.r .h)))))) none (.ar .sub (.s (.l (.l (.l (.r (.r (.r .h))))))) (.c (.a (.i .i64 (.n (nat_lit 1)))))), (nat_lit 7), [(nat_lit 6)], []⟩,
  ⟨.p (.l (.r (.l (.r (.r (.r .h)))))) none (.ix (nat_lit 11) (.s (.r (.r (.r (.l (.r (.r .h))))))) (.s (.r (.l (.l (.r (.r (.r .h)))))))), (nat_lit 8), [(nat_lit 5), (nat_lit 6), (nat_lit 7)], []⟩,
  ⟨.r (.r (.r (.l (.r (.r (.r .h)))))) none (.lg (nat_lit 11) (.s (.l (.r (.l (.r (.r (.r .h)))))))), (nat_lit 9), [(nat_lit 5), (nat_lit 6), (nat_lit 7), (nat_lit 8)], []⟩,
  ⟨.p (.l (.l (.r (.r (.r (.r .h)))))) none (.mv (.s .h)), (nat_lit 10), [], []⟩,
  ⟨.p (.r (.l (.r (.r (.r (.r .h)))))) none (.mv (.s (.l (.r (.l (.l .h)))))), (nat_lit 11), [], []⟩,
  ⟨.p (.l (.r (.r (.r (.r (.r .h)))))) none (.ix (nat_lit 11) (.s (.l (.l (.r (.r (.r (.r .h))))))) (.s (.r (.l (.r (.r (.r (.r .h)))))))), (nat_lit 12), [(nat_lit 10), (nat_lit 11)], []⟩,
  ⟨.r (.r (.r (.r (.r (.r (.r .h)))))) none (.lg (nat_lit 11) (.s (.l (.r (.r (.r (.r (.r .h)))))))), (nat_lit 13), [(nat_lit 10), (nat_lit 11), (nat_lit 12)], []⟩,
  ⟨.p (.l (.l (.l (.l (.l (.l (.l .h))))))) none (.ix (nat_lit 11) (.s (.l (.r (.l (.l (.r (.r .h))))))) (.s (.r (.r (.l (.l (.r (.r .h)))))))), (nat_lit 14), [(nat_lit 0), (nat_lit 1), (nat_lit 5), (nat_lit 6), (nat_lit 7), (nat_lit 8), (nat_lit 9), (nat_lit 10), (nat_lit 11), (nat_lit 12), (nat_lit 13)], []⟩,
  ⟨.c none none (.st (nat_lit 11) (.s (.l (.l (.l (.l (.l (.l (.l .h)))))))) (.s (.r (.r (.l (.r (.r (.r .h)))))))), (nat_lit 15), [(nat_lit 0), (nat_lit 1), (nat_lit 5), (nat_lit 6), (nat_lit 7), (nat_lit 8), (nat_lit 9), (nat_lit 10), (nat_lit 11), (nat_lit 12), (nat_lit 13), (nat_lit 14)], []⟩,
  ⟨.p (.r (.l (.l (.l (.l (.l (.l .h))))))) none (.ix (nat_lit 11) (.s (.l (.l (.r (.l (.r (.r .h))))))) (.s (.l (.r (.r (.l (.r (.r .h)))))))), (nat_lit 16), [(nat_lit 0), (nat_lit 1), (nat_lit 2), (nat_lit 3), (nat_lit 4), (nat_lit 5), (nat_lit 6), (nat_lit 7), (nat_lit 8), (nat_lit 9), (nat_lit 10), (nat_lit 11), (nat_lit 12), (nat_lit 13), (nat_lit 14), (nat_lit 15)], []⟩,
  ⟨.c none none (.st (nat_lit 11) (.s (.r (.l (.l (.l (.l (.l (.l .h)))))))) (.s (.r (.r (.r (.r (.r (.r .h)))))))), (nat_lit 17), [(nat_lit 0), (nat_lit 1), (nat_lit 2), (nat_lit 3), (nat_lit 4), (nat_lit 5), (nat_lit 6), (nat_lit 7), (nat_lit 8), (nat_lit 9), (nat_lit 10), (nat_lit 11), (nat_lit 12), (nat_lit 13), (nat_lit 14), (nat_lit 15), (nat_lit 16)], []⟩]))
 (.reg [.p (.l (.l (.l (.l (.r (.r .h)))))) none (.mv (.s (.l (.r (.l (.l .h)))))),
  .p (.r (.l (.l (.l (.r (.r .h)))))) none (.ar .sub (.s (.l (.l (.l (.l (.r (.r .h))))))) (.c (.a (.i .i64 (.n (nat_lit 1)))))),
  .p (.l (.r (.l (.l .h)))) none (.mv (.s (.r (.l (.l (.l (.r (.r .h))))))))]))))))
 .rt)))) .skip))
 (.seq (.reg [.p (.l (.r (.l (.l (.l (.l (.l .h))))))) none (.mv (.s (.l .h))),
  .p (.r (.r (.l (.l (.l (.l (.l .h))))))) none (.mv (.s (.l (.l .h)))),
  .p (.l (.l (.r (.l (.l (.l (.l .h))))))) none (.ar .add (.s (.l (.r (.l (.l (.l (.l (.l .h)))))))) (.s (.r (.r (.l (.l (.l (.l (.l .h))))))))),
  .p (.r (.l (.r (.l (.l (.l (.l .h))))))) none (.cv .u64 (.s (.l (.l (.r (.l (.l (.l (.l .h))))))))),
  .p (.l (.r (.r (.l (.l (.l (.l .h))))))) none (.ar .shr (.s (.r (.l (.r (.l (.l (.l (.l .h)))))))) (.c (.a (.i .u64 (.n (nat_lit 1)))))),
  .p (.r (.r (.r (.l (.l (.l (.l .h))))))) none (.cv .i64 (.s (.l (.r (.r (.l (.l (.l (.l .h))))))))),
  .p (.r (.r (.l (.l .h)))) none (.mv (.s (.r (.r (.r (.l (.l (.l (.l .h)))))))))])
 (.seq (.reg [.p (.l (.l (.l (.r (.l (.l (.l .h))))))) none (.mv (.s (.r (.r (.l (.l .h)))))),
  .p (.r (.l (.l (.r (.l (.l (.l .h))))))) none (.mv (.s (.r .h))),
  .p (.l (.r (.l (.r (.l (.l (.l .h))))))) none (.ar .add (.s (.l (.l (.l (.r (.l (.l (.l .h)))))))) (.s (.r (.l (.l (.r (.l (.l (.l .h))))))))),
  .p (.l (.l (.r (.l .h)))) none (.mv (.s (.l (.r (.l (.r (.l (.l (.l .h)))))))))])
 (.seq (.reg [.p (.r (.l (.r (.l .h)))) none (.mv (.c (.a (.i .i64 (.n (nat_lit 0)))))),
  .p (.l (.r (.r (.l .h)))) none (.mv (.c (.a (.i .i64 (.n (nat_lit 0))))))])
 (.seq (.seq (.reg [.p (.r (.r (.l (.r (.l (.l (.l .h))))))) none (.mv (.s (.r .h))),
  .p (.l (.l (.r (.r (.l (.l (.l .h))))))) none (.mv (.s (.r (.r (.l (.l .h)))))),
  .p (.r (.l (.r (.r (.l (.l (.l .h))))))) none (.cp .gtr (.s (.r (.r (.l (.r (.l (.l (.l .h)))))))) (.s (.l (.l (.r (.r (.l (.l (.l .h)))))))))])
 (.cond (.s (.r (.l (.r (.r (.l (.l (.l .h)))))))) (.seq (.reg [.p (.l (.r (.r (.r (.l (.l (.l .h))))))) none (.mv (.s (.l (.l (.r (.l .h)))))),
  .p (.r (.r (.r (.r (.l (.l (.l .h))))))) none (.mv (.s (.l (.l .h)))),
  .p (.l (.l (.l (.l (.r (.l (.l .h))))))) none (.ar .sub (.s (.l (.r (.r (.r (.l (.l (.l .h)))))))) (.s (.r (.r (.r (.r (.l (.l (.l .h))))))))),
  .p (.r (.l (.r (.l .h)))) none (.mv (.s (.l (.l (.l (.l (.r (.l (.l .h)))))))))])
 (.reg [.p (.r (.l (.l (.l (.r (.l (.l .h))))))) none (.mv (.s (.r (.r (.l (.l .h)))))),
  .p (.l (.r (.r (.l .h)))) none (.mv (.s (.r (.l (.l (.l (.r (.l (.l .h)))))))))])) (.seq (.reg [.p (.l (.r (.l (.l (.r (.l (.l .h))))))) none (.mv (.s (.l .h))),
  .p (.r (.l (.r (.l .h)))) none (.mv (.s (.l (.r (.l (.l (.r (.l (.l .h)))))))))])
 (.reg [.p (.r (.r (.l (.l (.r (.l (.l .h))))))) none (.mv (.s (.r .h))),
  .p (.l (.r (.r (.l .h)))) none (.mv (.s (.r (.r (.l (.l (.r (.l (.l .h)))))))))]))))
 (.seq (.reg [.p (.l (.l (.r (.l (.r (.l (.l .h))))))) none (.mv (.s (.l (.l (.r (.l .h)))))),
  .p (.r (.l (.r (.l (.r (.l (.l .h))))))) none (.ar .sub (.s (.l (.l (.r (.l (.r (.l (.l .h)))))))) (.c (.a (.i .i64 (.n (nat_lit 1)))))),
  .p (.r (.r (.r (.l .h)))) none (.mv (.s (.r (.l (.r (.l (.r (.l (.l .h)))))))))])
 (.seq (.blk (nat_lit 8) (.loop (.seq (.seq (.reg [.p (.l (.r (.r (.l (.r (.l (.l .h))))))) none (.mv (.s (.r (.l (.r (.l .h)))))),
  .p (.r (.r (.r (.l (.r (.l (.l .h))))))) none (.mv (.s (.l (.r (.r (.l .h)))))),
  .p (.l (.l (.l (.r (.r (.l (.l .h))))))) none (.cp .lss (.s (.l (.r (.r (.l (.r (.l (.l .h)))))))) (.s (.r (.r (.r (.l (.r (.l (.l .h)))))))))])
 (.cond (.s (.l (.l (.l (.r (.r (.l (.l .h)))))))) .skip (.ex (nat_lit 8))))
 (.blk (nat_lit 9) (.seq (.reg [.p (.r (.l (.l (.r (.r (.l (.l .h))))))) none (.mv (.s (.r (.l (.r (.l .h)))))),
  .p (.l (.r (.l (.r (.r (.l (.l .h))))))) none (.mv (.s (.l (.r (.r (.l .h)))))),
  .p (.r (.r (.l (.r (.r (.l (.l .h))))))) none (.ar .add (.s (.r (.l (.l (.r (.r (.l (.l .h)))))))) (.s (.l (.r (.l (.r (.r (.l (.l .h))))))))),
  .p (.l (.l (.r (.r (.r (.l (.l .h))))))) none (.cv .u64 (.s (.r (.r (.l (.r (.r (.l (.l .h))))))))),
  .p (.r (.l (.r (.r (.r (.l (.l .h))))))) none (.ar .shr (.s (.l (.l (.r (.r (.r (.l (.l .h)))))))) (.c (.a (.i .u64 (.n (nat_lit 1)))))),
  .p (.l (.r (.r (.r (.r (.l (.l .h))))))) none (.cv .i64 (.s (.r (.l (.r (.r (.r (.l (.l .h))))))))),
  .p (.l (.l (.l (.r .h)))) none (.mv (.s (.l (.r (.r (.r (.r (.l (.l .h)))))))))])
 (.seq (.drw [⟨.p (.r (.r (.r (.r (.r (.l (.l .h))))))) none (.mv (.s (.r (.l .h)))), (nat_lit 0), [], []⟩,
  ⟨.p (.l (.l (.l (.l (.l (.r (.l .h))))))) none (.mv (.s .h)), (nat_lit 1), [], []⟩,
  ⟨.p (.r (.l (.l (.l (.l (.r (.l .h))))))) none (.mv (.s (.r (.r (.r (.l .h)))))), (nat_lit 2), [], []⟩,
  ⟨.p (.l (.r (.l (.l (.l (.r (.l .h))))))) none (.mv (.s (.l (.l (.l (.r .h)))))), (nat_lit 3), [], []⟩,
  ⟨.p (.r (.r (.l (.l (.l (.r (.l .h))))))) none (.ar .sub (.s (.r (.l (.l (.l (.l (.r (.l .h)))))))) (.s (.l (.r (.l (.l (.l (.r (.l .h))))))))), (nat_lit 4), [(nat_lit 2), (nat_lit 3)], []⟩,
  ⟨.p (.l (.l (.r (.l (.l (.r (.l .h))))))) none (.ix (nat_lit 11) (.s (.l (.l (.l (.l (.l (.r (.l .h)))))))) (.s (.r (.r (.l (.l (.l (.r (.l .h))))))))), (nat_lit 5), [(nat_lit 1), (nat_lit 2), (nat_lit 3), (nat_lit 4)], []⟩,
  ⟨.r (.r (.l (.r (.l (.l (.r (.l .h))))))) none (.lg (nat_lit 11) (.s (.l (.l (.r (.l (.l (.r (.l .h))))))))), (nat_lit 6), [(nat_lit 1), (nat_lit 2), (nat_lit 3), (nat_lit 4), (nat_lit 5)], []⟩,
  ⟨.p (.l (.r (.r (.l (.l (.r (.l .h))))))) none (.mv (.s .h)), (nat_lit 7), [], []⟩,
  ⟨.p (.r (.r (.r (.l (.l (.r (.l .h))))))) none (.mv (.s (.l (.l (.l (.r .h)))))), (nat_lit 8), [], []⟩,
  ⟨.p (.l (.l (.l (.r (.l (.r (.l .h))))))) none (.ix (nat_lit 11) (.s (.l (.r (.r (.l (.l (.r (.l .h)))))))) (.s (.r (.r (.r (.l (.l (.r (.l .h))))))))), (nat_lit 9), [(nat_lit 7), (nat_lit 8)], []⟩,
  ⟨.r (.r (.l (.l (.r (.l (.r (.l .h))))))) none (.lg (nat_lit 11) (.s (.l (.l (.l (.r (.l (.r (.l .h))))))))), (nat_lit 10), [(nat_lit 7), (nat_lit 8), (nat_lit 9)], []⟩,
  ⟨.v (some (.l (.r (.l (.r (.l (.r (.l .h)))))))) none (.s (.r (.r (.r (.r (.r (.l (.l .h)))))))) [(.s (.r (.l (.r (.l (.l (.r (.l .h)))))))), (.s (.r (.l (.l (.r (.l (.r (.l .h))))))))], (nat_lit 11), [(nat_lit 0), (nat_lit 1), (nat_lit 2), (nat_lit 3), (nat_lit 4), (nat_lit 5), (nat_lit 6), (nat_lit 7), (nat_lit 8), (nat_lit 9), (nat_lit 10)], []⟩,
  ⟨.p (.r (.r (.l (.r (.l (.r (.l .h))))))) none (.cp .lss (.s (.l (.r (.l (.r (.l (.r (.l .h)))))))) (.c (.a (.i .i64 (.n (nat_lit 0)))))), (nat_lit 12), [(nat_lit 0), (nat_lit 1), (nat_lit 2), (nat_lit 3), (nat_lit 4), (nat_lit 5), (nat_lit 6), (nat_lit 7), (nat_lit 8), (nat_lit 9), (nat_lit 10), (nat_lit 11)], []⟩,
  ⟨.p (.l (.l (.r (.r (.l (.r (.l .h))))))) none (.nt (.s (.r (.r (.l (.r (.l (.r (.l .h))))))))), (nat_lit 13), [(nat_lit 0), (nat_lit 1), (nat_lit 2), (nat_lit 3), (nat_lit 4), (nat_lit 5), (nat_lit 6), (nat_lit 7), (nat_lit 8), (nat_lit 9), (nat_lit 10), (nat_lit 11), (nat_lit 12)], []⟩])
 (.cond (.s (.l (.l (.r (.r (.l (.r (.l .h)))))))) (.reg [.p (.r (.l (.r (.r (.l (.r (.l .h))))))) none (.mv (.s (.l (.l (.l (.r .h)))))),
  .p (.l (.r (.r (.r (.l (.r (.l .h))))))) none (.ar .add (.s (.r (.l (.r (.r (.l (.r (.l .h)))))))) (.c (.a (.i .i64 (.n (nat_lit 1)))))),
  .p (.r (.l (.r (.l .h)))) none (.mv (.s (.l (.r (.r (.r (.l (.r (.l .h)))))))))]) (.reg [.p (.r (.r (.r (.r (.l (.r (.l .h))))))) none (.mv (.s (.l (.l (.l (.r .h)))))),
  .p (.l (.r (.r (.l .h)))) none (.mv (.s (.r (.r (.r (.r (.l (.r (.l .h)))))))))]))))))))
 (.seq (.reg [.p (.l (.l (.l (.l (.r (.r (.l .h))))))) none (.mv (.s (.l (.l (.r (.l .h)))))),
  .p (.r (.l (.l (.l (.r (.r (.l .h))))))) none (.mv (.s (.r (.l (.r (.l .h)))))),
  .p (.l (.r (.l (.l (.r (.r (.l .h))))))) none (.ar .sub (.s (.l (.l (.l (.l (.r (.r (.l .h)))))))) (.s (.r (.l (.l (.l (.r (.r (.l .h))))))))),
  .p (.r (.l (.l (.r .h)))) none (.mv (.s (.l (.r (.l (.l (.r (.r (.l .h)))))))))])
 (.seq (.seq (.reg [.p (.r (.r (.l (.l (.r (.r (.l .h))))))) none (.mv (.s (.r (.l (.r (.l .h)))))),
  .p (.l (.l (.r (.l (.r (.r (.l .h))))))) none (.mv (.s (.r .h))),
  .p (.r (.l (.r (.l (.r (.r (.l .h))))))) none (.cp .lss (.s (.r (.r (.l (.l (.r (.r (.l .h)))))))) (.s (.l (.l (.r (.l (.r (.r (.l .h))))))))),
  .p (.l (.r (.r (.l (.r (.r (.l .h))))))) none (.mv (.s (.r (.l (.r (.l (.r (.r (.l .h))))))))),
  .p (.r (.r (.r (.l (.r (.r (.l .h))))))) (some ((.l (.r (.r (.l (.r (.r (.l .h))))))), true)) (.mv (.s (.r .h))),
  .p (.l (.l (.l (.r (.r (.r (.l .h))))))) (some ((.l (.r (.r (.l (.r (.r (.l .h))))))), true)) (.mv (.s (.r (.l (.l (.r .h)))))),
  .p (.r (.l (.l (.r (.r (.r (.l .h))))))) (some ((.l (.r (.r (.l (.r (.r (.l .h))))))), true)) (.cp .lss (.s (.r (.r (.r (.l (.r (.r (.l .h)))))))) (.s (.l (.l (.l (.r (.r (.r (.l .h))))))))),
  .p (.l (.r (.l (.r (.r (.r (.l .h))))))) none (.pk (.s (.l (.r (.r (.l (.r (.r (.l .h)))))))) (.s (.r (.l (.l (.r (.r (.r (.l .h)))))))) (.c (.a (.b false))))])
 (.cond (.s (.l (.r (.l (.r (.r (.r (.l .h)))))))) (.reg [.p (.r (.r (.l (.r (.r (.r (.l .h))))))) none (.mv (.s .h)),
  .p (.l (.l (.r (.r (.r (.r (.l .h))))))) none (.mv (.s (.r (.l (.r (.l .h)))))),
  .p (.r (.l (.r (.r (.r (.r (.l .h))))))) none (.mv (.s (.r .h))),
  .p (.l (.r (.r (.r (.r (.r (.l .h))))))) none (.mv (.s (.r (.l (.l (.r .h)))))),
  .p (.r (.r (.r (.r (.r (.r (.l .h))))))) none (.mv (.s (.r (.l .h)))),
  .k (some (.l (.l (.l (.l (.l (.l (.r .h)))))))) none (nat_lit 193) (.l (.r (.l (.l (.l (.l (.r .h))))))) [(.s (.r (.r (.l (.r (.r (.r (.l .h)))))))), (.s (.l (.l (.r (.r (.r (.r (.l .h)))))))), (.s (.r (.l (.r (.r (.r (.r (.l .h)))))))), (.s (.l (.r (.r (.r (.r (.r (.l .h)))))))), (.s (.r (.r (.r (.r (.r (.r (.l .h))))))))]]) .skip))
 (.seq (.seq (.reg [.p (.r (.l (.l (.l (.l (.l (.r .h))))))) none (.mv (.s (.l .h))),
  .p (.l (.r (.l (.l (.l (.l (.r .h))))))) none (.mv (.s (.r (.l (.r (.l .h)))))),
  .p (.r (.r (.l (.l (.l (.l (.r .h))))))) none (.cp .lss (.s (.r (.l (.l (.l (.l (.l (.r .h)))))))) (.s (.l (.r (.l (.l (.l (.l (.r .h))))))))),
  .p (.l (.l (.r (.l (.l (.l (.r .h))))))) none (.mv (.s (.r (.r (.l (.l (.l (.l (.r .h))))))))),
  .p (.r (.l (.r (.l (.l (.l (.r .h))))))) (some ((.l (.l (.r (.l (.l (.l (.r .h))))))), true)) (.mv (.s (.r (.l (.r (.l .h)))))),
  .p (.l (.r (.r (.l (.l (.l (.r .h))))))) (some ((.l (.l (.r (.l (.l (.l (.r .h))))))), true)) (.mv (.s (.r (.r (.l (.l .h)))))),
  .p (.r (.r (.r (.l (.l (.l (.r .h))))))) (some ((.l (.l (.r (.l (.l (.l (.r .h))))))), true)) (.cp .lss (.s (.r (.l (.r (.l (.l (.l (.r .h)))))))) (.s (.l (.r (.r (.l (.l (.l (.r .h))))))))),
  .p (.l (.l (.l (.r (.l (.l (.r .h))))))) none (.pk (.s (.l (.l (.r (.l (.l (.l (.r .h)))))))) (.s (.r (.r (.r (.l (.l (.l (.r .h)))))))) (.c (.a (.b false))))])
 (.cond (.s (.l (.l (.l (.r (.l (.l (.r .h)))))))) (.reg [.p (.r (.l (.l (.r (.l (.l (.r .h))))))) none (.mv (.s .h)),
  .p (.l (.r (.l (.r (.l (.l (.r .h))))))) none (.mv (.s (.l .h))),
  .p (.r (.r (.l (.r (.l (.l (.r .h))))))) none (.mv (.s (.r (.l (.r (.l .h)))))),
  .p (.l (.l (.r (.r (.l (.l (.r .h))))))) none (.mv (.s (.r (.r (.l (.l .h)))))),
  .p (.r (.l (.r (.r (.l (.l (.r .h))))))) none (.mv (.s (.r (.l .h)))),
  .k (some (.l (.r (.r (.r (.l (.l (.r .h)))))))) none (nat_lit 189) (.l (.r (.r (.r (.r (.r (.l .h))))))) [(.s (.r (.l (.l (.r (.l (.l (.r .h)))))))), (.s (.l (.r (.l (.r (.l (.l (.r .h)))))))), (.s (.r (.r (.l (.r (.l (.l (.r .h)))))))), (.s (.l (.l (.r (.r (.l (.l (.r .h)))))))), (.s (.r (.l (.r (.r (.l (.l (.r .h))))))))]]) .skip))
 (.seq (.reg [.p (.r (.r (.r (.r (.l (.l (.r .h))))))) none (.mv (.s (.r (.r (.l (.l .h)))))),
  .p (.l (.l (.l (.l (.r (.l (.r .h))))))) none (.mv (.s (.r (.l (.l (.r .h)))))),
  .p (.r (.l (.l (.l (.r (.l (.r .h))))))) none (.cp .lss (.s (.r (.r (.r (.r (.l (.l (.r .h)))))))) (.s (.l (.l (.l (.l (.r (.l (.r .h))))))))),
  .p (.l (.r (.l (.l (.r (.l (.r .h))))))) none (.mv (.s (.r (.l (.l (.l (.r (.l (.r .h))))))))),
  .p (.r (.r (.l (.l (.r (.l (.r .h))))))) (some ((.l (.r (.l (.l (.r (.l (.r .h))))))), true)) (.mv (.s (.r (.l (.l (.r .h)))))),
  .p (.l (.l (.r (.l (.r (.l (.r .h))))))) (some ((.l (.r (.l (.l (.r (.l (.r .h))))))), true)) (.mv (.s (.l (.l .h)))),
  .p (.r (.l (.r (.l (.r (.l (.r .h))))))) (some ((.l (.r (.l (.l (.r (.l (.r .h))))))), true)) (.cp .lss (.s (.r (.r (.l (.l (.r (.l (.r .h)))))))) (.s (.l (.l (.r (.l (.r (.l (.r .h))))))))),
  .p (.l (.r (.r (.l (.r (.l (.r .h))))))) none (.pk (.s (.l (.r (.l (.l (.r (.l (.r .h)))))))) (.s (.r (.l (.r (.l (.r (.l (.r .h)))))))) (.c (.a (.b false))))])
 (.cond (.s (.l (.r (.r (.l (.r (.l (.r .h)))))))) (.reg [.p (.r (.r (.r (.l (.r (.l (.r .h))))))) none (.mv (.s .h)),
  .p (.l (.l (.l (.r (.r (.l (.r .h))))))) none (.mv (.s (.r (.r (.l (.l .h)))))),
  .p (.r (.l (.l (.r (.r (.l (.r .h))))))) none (.mv (.s (.r (.l (.l (.r .h)))))),
  .p (.l (.r (.l (.r (.r (.l (.r .h))))))) none (.mv (.s (.l (.l .h)))),
  .p (.r (.r (.l (.r (.r (.l (.r .h))))))) none (.mv (.s (.r (.l .h)))),
  .k (some (.l (.l (.r (.r (.r (.l (.r .h)))))))) none (nat_lit 189) (.l (.r (.r (.r (.r (.r (.l .h))))))) [(.s (.r (.r (.r (.l (.r (.l (.r .h)))))))), (.s (.l (.l (.l (.r (.r (.l (.r .h)))))))), (.s (.r (.l (.l (.r (.r (.l (.r .h)))))))), (.s (.l (.r (.l (.r (.r (.l (.r .h)))))))), (.s (.r (.r (.l (.r (.r (.l (.r .h))))))))]]) .skip))))))))))))), false, false⟩
noncomputable def rf190 : RF := ⟨[.h, (.l .h), (.r .h), (.l (.l .h))], [.s (.r (.l (.l .h))), .s (.l (.r (.l .h)))], (.seq (.reg [.p (.r (.l (.l .h))) none (.mv (.c (.a (.i .i64 (.n (nat_lit 0)))))),
  .p (.l (.r (.l .h))) none (.mv (.c (.a (.b false))))])
 (.seq (.seq (.reg [.p (.r (.r (.r .h))) none (.mv (.s .h)),
  .p (.l (.l (.l (.l .h)))) none (.nc (.s (.r (.r (.r .h))))),
  .p (.r (.l (.l (.l .h)))) none (.fa (nat_lit 6) (.s (.l (.l (.l (.l .h)))))),
  .r (.l (.r (.l (.l .h)))) none (.ld (.s (.r (.l (.l (.l .h)))))),
  .p (.r (.r (.l (.l .h)))) none (.ln (.s (.l (.r (.l (.l .h)))))),
  .p (.l (.l (.r (.l .h)))) none (.mv (.c (.a (.i .i64 (.n (nat_lit 0))))))])
 (.blk (nat_lit 0) (.loop (.seq (.reg [.p (.r (.l (.r (.l .h)))) none (.cp .lss (.s (.l (.l (.r (.l .h))))) (.s (.r (.r (.l (.l .h))))))])
 (.seq (.cond (.s (.r (.l (.r (.l .h))))) .skip (.ex (nat_lit 0)))
 (.seq (.blk (nat_lit 1) (.seq (.reg [.p (.l (.r (.r (.l .h)))) none (.ix (nat_lit 11) (.s (.l (.r (.l (.l .h))))) (.s (.l (.l (.r (.l .h)))))),
  .r (.r (.r (.r (.l .h)))) none (.lg (nat_lit 11) (.s (.l (.r (.r (.l .h)))))),
  .a (.l (.l (.r .h))) none (.al (nat_lit 109) (nat_lit 11) (.n (.n (.n (.n .e (.i .i64 (.n (nat_lit 0))) .e) (.i .i64 (.n (nat_lit 0))) .e) (.i .i64 (.n (nat_lit 0))) (.n (.n .e (.i .i64 (.n (nat_lit 0))) .e) (.i .i64 (.n (nat_lit 0))) .e)) (.i .i64 (.n (nat_lit 0))) (.n (.n (.n .e (.i .i64 (.n (nat_lit 0))) .e) (.i .i64 (.n (nat_lit 0))) .e) (.i .i64 (.n (nat_lit 0))) (.n (.n .e (.i .i64 (.n (nat_lit 0))) .e) (.i .i64 (.n (nat_lit 0))) .e)))),
  .c none none (.st (nat_lit 11) (.s (.l (.l (.r .h)))) (.s (.r (.r (.r (.l .h))))))])
 (.seq (.seq (.reg [.p (.l (.l (.l (.r .h)))) none (.fa (nat_lit 5) (.s (.l (.l (.r .h))))),
  .r (.r (.l (.l (.r .h)))) none (.ld (.s (.l (.l (.l (.r .h)))))),
  .p (.l (.r (.l (.r .h)))) none (.mv (.s (.l .h))),
  .p (.r (.r (.l (.r .h)))) none (.cp .neq (.s (.r (.l (.l (.r .h))))) (.s (.l (.r (.l (.r .h)))))),
  .p (.l (.l (.r (.r .h)))) none (.mv (.s (.r (.r (.l (.r .h)))))),
  .p (.r (.l (.r (.r .h)))) (some ((.l (.l (.r (.r .h)))), false)) (.fa (nat_lit 6) (.s (.l (.l (.r .h))))),
  .r (.l (.r (.r (.r .h)))) (some ((.l (.l (.r (.r .h)))), false)) (.ld (.s (.r (.l (.r (.r .h)))))),
  .p (.r (.r (.r (.r .h)))) (some ((.l (.l (.r (.r .h)))), false)) (.mv (.s (.r .h))),
  .p (.l (.l (.l (.l (.l .h))))) (some ((.l (.l (.r (.r .h)))), false)) (.cp .neq (.s (.l (.r (.r (.r .h))))) (.s (.r (.r (.r (.r .h)))))),
  .p (.r (.l (.l (.l (.l .h))))) none (.pk (.s (.l (.l (.r (.r .h))))) (.c (.a (.b true))) (.s (.l (.l (.l (.l (.l .h))))))),
  .p (.l (.r (.l (.l (.l .h))))) none (.mv (.s (.r (.l (.l (.l (.l .h))))))),
  .p (.r (.r (.l (.l (.l .h))))) (some ((.l (.r (.l (.l (.l .h))))), false)) (.fa (nat_lit 7) (.s (.l (.l (.r .h))))),
  .r (.l (.l (.r (.l (.l .h))))) (some ((.l (.r (.l (.l (.l .h))))), false)) (.ld (.s (.r (.r (.l (.l (.l .h))))))),
  .p (.r (.l (.r (.l (.l .h))))) (some ((.l (.r (.l (.l (.l .h))))), false)) (.mv (.s (.l (.l .h)))),
  .p (.l (.r (.r (.l (.l .h))))) (some ((.l (.r (.l (.l (.l .h))))), false)) (.cp .neq (.s (.l (.l (.r (.l (.l .h)))))) (.s (.r (.l (.r (.l (.l .h))))))),
  .p (.r (.r (.r (.l (.l .h))))) none (.pk (.s (.l (.r (.l (.l (.l .h)))))) (.c (.a (.b true))) (.s (.l (.r (.r (.l (.l .h)))))))])
 (.cond (.s (.r (.r (.r (.l (.l .h)))))) (.ex (nat_lit 1)) .skip))
 (.seq (.reg [.p (.l (.l (.l (.r (.l .h))))) none (.fa (nat_lit 8) (.s (.l (.l (.r .h))))),
  .p (.r (.l (.l (.r (.l .h))))) none (.fa (nat_lit 0) (.s (.l (.l (.l (.r (.l .h))))))),
  .r (.l (.r (.l (.r (.l .h))))) none (.ld (.s (.r (.l (.l (.r (.l .h)))))))])
 (.blk (nat_lit 2) (.seq (.reg [.p (.l (.l (.r (.r (.l .h))))) none (.cp .eql (.s (.l (.r (.l (.r (.l .h)))))) (.c (.a (.i .i64 (.n (nat_lit 1)))))),
  .p (.r (.r (.l (.r (.l .h))))) none (.mv (.s (.l (.l (.r (.r (.l .h)))))))])
 (.cond (.s (.r (.r (.l (.r (.l .h)))))) (.seq (.reg [.p (.r (.l (.r (.r (.l .h))))) none (.fa (nat_lit 8) (.s (.l (.l (.r .h))))),
  .p (.l (.r (.r (.r (.l .h))))) none (.fa (nat_lit 2) (.s (.r (.l (.r (.r (.l .h))))))),
  .r (.r (.r (.r (.r (.l .h))))) none (.ld (.s (.l (.r (.r (.r (.l .h))))))),
  .p (.r (.l (.l .h))) none (.mv (.s (.r (.r (.r (.r (.l .h))))))),
  .p (.l (.r (.l .h))) none (.mv (.c (.a (.b true))))])
 .rt) (.seq (.reg [.p (.r (.l (.l (.l (.r .h))))) none (.cp .eql (.s (.l (.r (.l (.r (.l .h)))))) (.c (.a (.i .i64 (.n (nat_lit 2)))))),
  .p (.l (.l (.l (.l (.r .h))))) none (.mv (.s (.r (.l (.l (.l (.r .h)))))))])
 (.cond (.s (.l (.l (.l (.l (.r .h)))))) (.seq (.drw [⟨.p (.r (.r (.l (.l (.r .h))))) none (.mv (.s .h)), (nat_lit 0), [], []⟩,
  ⟨.p (.l (.l (.r (.l (.r .h))))) none (.nc (.s (.r (.r (.l (.l (.r .h))))))), (nat_lit 1), [(nat_lit 0)], []⟩,
  ⟨.p (.r (.l (.r (.l (.r .h))))) none (.fa (nat_lit 2) (.s (.l (.l (.r (.l (.r .h))))))), (nat_lit 2), [(nat_lit 0), (nat_lit 1)], []⟩,
  ⟨.r (.l (.r (.r (.l (.r .h))))) none (.ld (.s (.r (.l (.r (.l (.r .h))))))), (nat_lit 3), [(nat_lit 0), (nat_lit 1), (nat_lit 2)], []⟩,
  ⟨.p (.r (.r (.r (.l (.r .h))))) none (.fa (nat_lit 8) (.s (.l (.l (.r .h))))), (nat_lit 4), [], []⟩,
  ⟨.p (.l (.l (.l (.r (.r .h))))) none (.fa (nat_lit 1) (.s (.r (.r (.r (.l (.r .h))))))), (nat_lit 5), [(nat_lit 4)], []⟩,
  ⟨.r (.r (.l (.l (.r (.r .h))))) none (.ld (.s (.l (.l (.l (.r (.r .h))))))), (nat_lit 6), [(nat_lit 4), (nat_lit 5)], []⟩,
  ⟨.r (.l (.r (.l (.r (.r .h))))) none (.lk true false [(nat_lit 0)] (.a (.i .i64 (.n (nat_lit 0)))) (.s (.l (.r (.r (.l (.r .h)))))) (.s (.r (.l (.l (.r (.r .h))))))), (nat_lit 7), [(nat_lit 0), (nat_lit 1), (nat_lit 2), (nat_lit 3), (nat_lit 4), (nat_lit 5), (nat_lit 6)], []⟩,
  ⟨.p (.l (.r (.l (.l (.r .h))))) none (.mv (.s (.l (.r (.l (.r (.r .h))))))), (nat_lit 8), [(nat_lit 0), (nat_lit 1), (nat_lit 2), (nat_lit 3), (nat_lit 4), (nat_lit 5), (nat_lit 6), (nat_lit 7)], []⟩,
  ⟨.p (.r (.r (.l (.r (.r .h))))) none (.ex (nat_lit 0) (.s (.l (.r (.l (.l (.r .h))))))), (nat_lit 9), [(nat_lit 0), (nat_lit 1), (nat_lit 2), (nat_lit 3), (nat_lit 4), (nat_lit 5), (nat_lit 6), (nat_lit 7), (nat_lit 8)], []⟩,
  ⟨.p (.l (.l (.r (.r (.r .h))))) none (.ex (nat_lit 1) (.s (.l (.r (.l (.l (.r .h))))))), (nat_lit 10), [(nat_lit 0), (nat_lit 1), (nat_lit 2), (nat_lit 3), (nat_lit 4), (nat_lit 5), (nat_lit 6), (nat_lit 7), (nat_lit 8)], []⟩,
  ⟨.p (.r (.l (.r .h))) none (.mv (.s (.r (.r (.l (.r (.r .h))))))), (nat_lit 11), [(nat_lit 0), (nat_lit 1), (nat_lit 2), (nat_lit 3), (nat_lit 4), (nat_lit 5), (nat_lit 6), (nat_lit 7), (nat_lit 8), (nat_lit 9)], []⟩,
  ⟨.p (.l (.r (.r .h))) none (.mv (.s (.l (.l (.r (.r (.r .h))))))), (nat_lit 12), [(nat_lit 0), (nat_lit 1), (nat_lit 2), (nat_lit 3), (nat_lit 4), (nat_lit 5), (nat_lit 6), (nat_lit 7), (nat_lit 8), (nat_lit 9), (nat_lit 10), (nat_lit 11)], []⟩])
 (.seq (.reg [.p (.r (.l (.r (.r (.r .h))))) none (.mv (.s (.l (.r (.r .h)))))])
 (.cond (.s (.r (.l (.r (.r (.r .h)))))) (.seq (.reg [.p (.l (.r (.r (.r (.r .h))))) none (.mv (.s (.r (.l (.r .h))))),
  .p (.r (.r (.r (.r (.r .h))))) none (.fa (nat_lit 8) (.s (.l (.l (.r .h))))),
  .p (.l (.l (.l (.l (.l (.l .h)))))) none (.fa (nat_lit 2) (.s (.r (.r (.r (.r (.r .h))))))),
  .r (.r (.l (.l (.l (.l (.l .h)))))) none (.ld (.s (.l (.l (.l (.l (.l (.l .h)))))))),
  .p (.l (.r (.l (.l (.l (.l .h)))))) none (.ar .add (.s (.l (.r (.r (.r (.r .h)))))) (.s (.r (.l (.l (.l (.l (.l .h)))))))),
  .p (.r (.l (.l .h))) none (.mv (.s (.l (.r (.l (.l (.l (.l .h)))))))),
  .p (.l (.r (.l .h))) none (.mv (.c (.a (.b true))))])
 .rt) .skip))) (.seq (.reg [.p (.l (.l (.r (.l (.l (.l .h)))))) none (.cp .eql (.s (.l (.r (.l (.r (.l .h)))))) (.c (.a (.i .i64 (.n (nat_lit 3)))))),
  .p (.r (.r (.l (.l (.l (.l .h)))))) none (.mv (.s (.l (.l (.r (.l (.l (.l .h))))))))])
 (.cond (.s (.r (.r (.l (.l (.l (.l .h))))))) (.seq (.drw [⟨.p (.r (.l (.r (.l (.l (.l .h)))))) none (.mv (.s .h)), (nat_lit 0), [], []⟩,
  ⟨.p (.l (.r (.r (.l (.l (.l .h)))))) none (.nc (.s (.r (.l (.r (.l (.l (.l .h)))))))), (nat_lit 1), [(nat_lit 0)], []⟩,
  ⟨.p (.r (.r (.r (.l (.l (.l .h)))))) none (.fa (nat_lit 1) (.s (.l (.r (.r (.l (.l (.l .h)))))))), (nat_lit 2), [(nat_lit 0), (nat_lit 1)], []⟩,
  ⟨.r (.l (.l (.l (.r (.l (.l .h)))))) none (.ld (.s (.r (.r (.r (.l (.l (.l .h)))))))), (nat_lit 3), [(nat_lit 0), (nat_lit 1), (nat_lit 2)], []⟩,
  ⟨.p (.r (.l (.l (.r (.l (.l .h)))))) none (.fa (nat_lit 8) (.s (.l (.l (.r .h))))), (nat_lit 4), [], []⟩,
  ⟨.p (.l (.r (.l (.r (.l (.l .h)))))) none (.fa (nat_lit 1) (.s (.r (.l (.l (.r (.l (.l .h)))))))), (nat_lit 5), [(nat_lit 4)], []⟩,
  ⟨.r (.r (.r (.l (.r (.l (.l .h)))))) none (.ld (.s (.l (.r (.l (.r (.l (.l .h)))))))), (nat_lit 6), [(nat_lit 4), (nat_lit 5)], []⟩,
  ⟨.p (.l (.l (.r (.r (.l (.l .h)))))) none (.ix (nat_lit 1) (.s (.l (.l (.l (.r (.l (.l .h))))))) (.s (.r (.r (.l (.r (.l (.l .h)))))))), (nat_lit 7), [(nat_lit 0), (nat_lit 1), (nat_lit 2), (nat_lit 3), (nat_lit 4), (nat_lit 5), (nat_lit 6)], []⟩,
  ⟨.r (.r (.l (.r (.r (.l (.l .h)))))) none (.ld (.s (.l (.l (.r (.r (.l (.l .h)))))))), (nat_lit 8), [(nat_lit 0), (nat_lit 1), (nat_lit 2), (nat_lit 3), (nat_lit 4), (nat_lit 5), (nat_lit 6), (nat_lit 7)], []⟩,
  ⟨.p (.l (.r (.r (.r (.l (.l .h)))))) none (.fa (nat_lit 8) (.s (.l (.l (.r .h))))), (nat_lit 9), [], []⟩,
  ⟨.p (.r (.r (.r (.r (.l (.l .h)))))) none (.fa (nat_lit 2) (.s (.l (.r (.r (.r (.l (.l .h)))))))), (nat_lit 10), [(nat_lit 9)], []⟩,
  ⟨.r (.l (.l (.l (.l (.r (.l .h)))))) none (.ld (.s (.r (.r (.r (.r (.l (.l .h)))))))), (nat_lit 11), [(nat_lit 9), (nat_lit 10)], []⟩,
  ⟨.p (.r (.l (.l (.l (.r (.l .h)))))) none (.ar .add (.s (.r (.l (.r (.r (.l (.l .h))))))) (.s (.l (.l (.l (.l (.r (.l .h)))))))), (nat_lit 12), [(nat_lit 0), (nat_lit 1), (nat_lit 2), (nat_lit 3), (nat_lit 4), (nat_lit 5), (nat_lit 6), (nat_lit 7), (nat_lit 8), (nat_lit 9), (nat_lit 10), (nat_lit 11)], []⟩,
  ⟨.p (.r (.l (.l .h))) none (.mv (.s (.r (.l (.l (.l (.r (.l .h)))))))), (nat_lit 13), [(nat_lit 0), (nat_lit 1), (nat_lit 2), (nat_lit 3), (nat_lit 4), (nat_lit 5), (nat_lit 6), (nat_lit 7), (nat_lit 8), (nat_lit 9), (nat_lit 10), (nat_lit 11), (nat_lit 12)], []⟩,
  ⟨.p (.l (.r (.l .h))) none (.mv (.c (.a (.b true)))), (nat_lit 14), [(nat_lit 0), (nat_lit 1), (nat_lit 2), (nat_lit 3), (nat_lit 4), (nat_lit 5), (nat_lit 6), (nat_lit 7), (nat_lit 8), (nat_lit 9), (nat_lit 10), (nat_lit 11), (nat_lit 12), (nat_lit 13)], []⟩])
 .rt) .skip)))))))))))
 (.reg [.p (.l (.r (.l (.l (.r (.l .h)))))) none (.ar .add (.s (.l (.l (.r (.l .h))))) (.c (.a (.i .i64 (.n (nat_lit 1)))))),
  .p (.l (.l (.r (.l .h)))) none (.mv (.s (.l (.r (.l (.l (.r (.l .h))))))))])))))))
 (.seq (.reg [.p (.r (.l (.l .h))) none (.mv (.c (.a (.i .i64 (.n (nat_lit 0)))))),
  .p (.l (.r (.l .h))) none (.mv (.c (.a (.b false))))])
 .rt))), false, false⟩
noncomputable def rf193 : RF := ⟨[.h, (.l .h), (.r .h), (.l (.l .h)), (.r (.l .h))], [], (.seq (.reg [.p (.r (.l (.r .h))) none (.mv (.s (.r .h))),
  .p (.l (.r (.r .h))) none (.mv (.s (.l .h))),
  .p (.r (.r (.r .h))) none (.ar .sub (.s (.r (.l (.r .h)))) (.s (.l (.r (.r .h))))),
  .p (.r (.r (.l .h))) none (.mv (.s (.r (.r (.r .h)))))])
 (.seq (.reg [.p (.l (.l (.l (.l .h)))) none (.mv (.s (.l (.l .h)))),
  .p (.r (.l (.l (.l .h)))) none (.mv (.s (.r .h))),
  .p (.l (.r (.l (.l .h)))) none (.ar .sub (.s (.l (.l (.l (.l .h))))) (.s (.r (.l (.l (.l .h)))))),
  .p (.l (.l (.r .h))) none (.mv (.s (.l (.r (.l (.l .h))))))])
 (.seq (.blk (nat_lit 0) (.loop (.seq (.seq (.reg [.p (.r (.r (.l (.l .h)))) none (.mv (.s (.r (.r (.l .h))))),
  .p (.l (.l (.r (.l .h)))) none (.mv (.s (.l (.l (.r .h))))),
  .p (.r (.l (.r (.l .h)))) none (.cp .neq (.s (.r (.r (.l (.l .h))))) (.s (.l (.l (.r (.l .h))))))])
 (.cond (.s (.r (.l (.r (.l .h))))) .skip (.ex (nat_lit 0))))
 (.blk (nat_lit 1) (.seq (.reg [.p (.l (.r (.r (.l .h)))) none (.mv (.s (.r (.r (.l .h))))),
  .p (.r (.r (.r (.l .h)))) none (.mv (.s (.l (.l (.r .h))))),
  .p (.l (.l (.l (.r .h)))) none (.cp .gtr (.s (.l (.r (.r (.l .h))))) (.s (.r (.r (.r (.l .h))))))])
 (.cond (.s (.l (.l (.l (.r .h))))) (.seq (.reg [.p (.r (.l (.l (.r .h)))) none (.mv (.s .h)),
  .p (.l (.r (.l (.r .h)))) none (.mv (.s (.r .h))),
  .p (.r (.r (.l (.r .h)))) none (.mv (.s (.r (.r (.l .h))))),
  .p (.l (.l (.r (.r .h)))) none (.ar .sub (.s (.l (.r (.l (.r .h))))) (.s (.r (.r (.l (.r .h)))))),
  .p (.r (.l (.r (.r .h)))) none (.mv (.s (.r .h))),
  .p (.l (.r (.r (.r .h)))) none (.mv (.s (.l (.l (.r .h))))),
  .p (.r (.r (.r (.r .h)))) none (.mv (.s (.r (.l .h)))),
  .k (some (.l (.l (.l (.l (.l .h)))))) none (nat_lit 195) (.l (.l (.r (.l (.l (.l (.r .h))))))) [(.s (.r (.l (.l (.r .h))))), (.s (.l (.l (.r (.r .h))))), (.s (.r (.l (.r (.r .h))))), (.s (.l (.r (.r (.r .h))))), (.s (.r (.r (.r (.r .h)))))]])
 (.reg [.p (.r (.l (.l (.l (.l .h))))) none (.mv (.s (.r (.r (.l .h))))),
  .p (.l (.r (.l (.l (.l .h))))) none (.mv (.s (.l (.l (.r .h))))),
  .p (.r (.r (.l (.l (.l .h))))) none (.ar .sub (.s (.r (.l (.l (.l (.l .h)))))) (.s (.l (.r (.l (.l (.l .h))))))),
  .p (.r (.r (.l .h))) none (.mv (.s (.r (.r (.l (.l (.l .h)))))))])) (.seq (.reg [.p (.l (.l (.r (.l (.l .h))))) none (.mv (.s .h)),
  .p (.r (.l (.r (.l (.l .h))))) none (.mv (.s (.r .h))),
  .p (.l (.r (.r (.l (.l .h))))) none (.mv (.s (.r (.r (.l .h))))),
  .p (.r (.r (.r (.l (.l .h))))) none (.ar .sub (.s (.r (.l (.r (.l (.l .h)))))) (.s (.l (.r (.r (.l (.l .h))))))),
  .p (.l (.l (.l (.r (.l .h))))) none (.mv (.s (.r .h))),
  .p (.r (.l (.l (.r (.l .h))))) none (.mv (.s (.l (.l (.r .h))))),
  .p (.l (.r (.l (.r (.l .h))))) none (.ar .add (.s (.l (.l (.l (.r (.l .h)))))) (.s (.r (.l (.l (.r (.l .h))))))),
  .p (.r (.r (.l (.r (.l .h))))) none (.mv (.s (.r (.r (.l .h))))),
  .p (.l (.l (.r (.r (.l .h))))) none (.ar .sub (.s (.l (.r (.l (.r (.l .h)))))) (.s (.r (.r (.l (.r (.l .h))))))),
  .p (.r (.l (.r (.r (.l .h))))) none (.mv (.s (.r (.r (.l .h))))),
  .p (.l (.r (.r (.r (.l .h))))) none (.mv (.s (.r (.l .h)))),
  .k (some (.r (.r (.r (.r (.l .h)))))) none (nat_lit 195) (.l (.l (.r (.l (.l (.l (.r .h))))))) [(.s (.l (.l (.r (.l (.l .h)))))), (.s (.r (.r (.r (.l (.l .h)))))), (.s (.l (.l (.r (.r (.l .h)))))), (.s (.r (.l (.r (.r (.l .h)))))), (.s (.l (.r (.r (.r (.l .h))))))]])
 (.reg [.p (.l (.l (.l (.l (.r .h))))) none (.mv (.s (.l (.l (.r .h))))),
  .p (.r (.l (.l (.l (.r .h))))) none (.mv (.s (.r (.r (.l .h))))),
  .p (.l (.r (.l (.l (.r .h))))) none (.ar .sub (.s (.l (.l (.l (.l (.r .h)))))) (.s (.r (.l (.l (.l (.r .h))))))),
  .p (.l (.l (.r .h))) none (.mv (.s (.l (.r (.l (.l (.r .h)))))))]))))))))
 (.reg [.p (.r (.r (.l (.l (.r .h))))) none (.mv (.s .h)),
  .p (.l (.l (.r (.l (.r .h))))) none (.mv (.s (.r .h))),
  .p (.r (.l (.r (.l (.r .h))))) none (.mv (.s (.r (.r (.l .h))))),
  .p (.l (.r (.r (.l (.r .h))))) none (.ar .sub (.s (.l (.l (.r (.l (.r .h)))))) (.s (.r (.l (.r (.l (.r .h))))))),
  .p (.r (.r (.r (.l (.r .h))))) none (.mv (.s (.r .h))),
  .p (.l (.l (.l (.r (.r .h))))) none (.mv (.s (.r (.r (.l .h))))),
  .p (.r (.l (.l (.r (.r .h))))) none (.mv (.s (.r (.l .h)))),
  .k (some (.l (.r (.l (.r (.r .h)))))) none (nat_lit 195) (.l (.l (.r (.l (.l (.l (.r .h))))))) [(.s (.r (.r (.l (.l (.r .h)))))), (.s (.l (.r (.r (.l (.r .h)))))), (.s (.r (.r (.r (.l (.r .h)))))), (.s (.l (.l (.l (.r (.r .h)))))), (.s (.r (.l (.l (.r (.r .h))))))]])))), false, false⟩
noncomputable def rf195 : RF := ⟨[.h, (.l .h), (.r .h), (.l (.l .h)), (.r (.l .h))], [], (.seq (.reg [.p (.r (.r (.l .h))) none (.mv (.c (.a (.i .i64 (.n (nat_lit 0))))))])
 (.blk (nat_lit 0) (.loop (.seq (.seq (.reg [.p (.l (.l (.r .h))) none (.mv (.s (.r (.r (.l .h))))),
  .p (.r (.l (.r .h))) none (.mv (.s (.l (.l .h)))),
  .p (.l (.r (.r .h))) none (.cp .lss (.s (.l (.l (.r .h)))) (.s (.r (.l (.r .h)))))])
 (.cond (.s (.l (.r (.r .h)))) .skip (.ex (nat_lit 0))))
 (.seq (.blk (nat_lit 1) (.drw [⟨.p (.r (.l (.l (.l .h)))) none (.mv (.s .h)), (nat_lit 0), [], []⟩,
  ⟨.p (.l (.r (.l (.l .h)))) none (.mv (.s (.l .h))), (nat_lit 1), [], []⟩,
  ⟨.p (.r (.r (.l (.l .h)))) none (.mv (.s (.r (.r (.l .h))))), (nat_lit 2), [], []⟩,
  ⟨.p (.l (.l (.r (.l .h)))) none (.ar .add (.s (.l (.r (.l (.l .h))))) (.s (.r (.r (.l (.l .h)))))), (nat_lit 3), [(nat_lit 1), (nat_lit 2)], []⟩,
  ⟨.p (.r (.l (.r (.l .h)))) none (.mv (.s .h)), (nat_lit 4), [], []⟩,
  ⟨.p (.l (.r (.r (.l .h)))) none (.mv (.s (.r .h))), (nat_lit 5), [], []⟩,
  ⟨.p (.r (.r (.r (.l .h)))) none (.mv (.s (.r (.r (.l .h))))), (nat_lit 6), [], []⟩,
  ⟨.p (.l (.l (.l (.r .h)))) none (.ar .add (.s (.l (.r (.r (.l .h))))) (.s (.r (.r (.r (.l .h)))))), (nat_lit 7), [(nat_lit 5), (nat_lit 6)], []⟩,
  ⟨.p (.r (.l (.l (.r .h)))) none (.mv (.s .h)), (nat_lit 8), [], []⟩,
  ⟨.p (.l (.r (.l (.r .h)))) none (.mv (.s (.r .h))), (nat_lit 9), [], []⟩,
  ⟨.p (.r (.r (.l (.r .h)))) none (.mv (.s (.r (.r (.l .h))))), (nat_lit 10), [], []⟩,
  ⟨.p (.l (.l (.r (.r .h)))) none (.ar .add (.s (.l (.r (.l (.r .h))))) (.s (.r (.r (.l (.r .h)))))), (nat_lit 11), [(nat_lit 9), (nat_lit 10)], []⟩,
  ⟨.p (.r (.l (.r (.r .h)))) none (.ix (nat_lit 11) (.s (.r (.l (.l (.r .h))))) (.s (.l (.l (.r (.r .h)))))), (nat_lit 12), [(nat_lit 8), (nat_lit 9), (nat_lit 10), (nat_lit 11)], []⟩,
  ⟨.r (.l (.r (.r (.r .h)))) none (.lg (nat_lit 11) (.s (.r (.l (.r (.r .h)))))), (nat_lit 13), [(nat_lit 8), (nat_lit 9), (nat_lit 10), (nat_lit 11), (nat_lit 12)], []⟩,
  ⟨.p (.r (.r (.r (.r .h)))) none (.mv (.s .h)), (nat_lit 14), [], []⟩,
  ⟨.p (.l (.l (.l (.l (.l .h))))) none (.mv (.s (.l .h))), (nat_lit 15), [], []⟩,
  ⟨.p (.r (.l (.l (.l (.l .h))))) none (.mv (.s (.r (.r (.l .h))))), (nat_lit 16), [], []⟩,
  ⟨.p (.l (.r (.l (.l (.l .h))))) none (.ar .add (.s (.l (.l (.l (.l (.l .h)))))) (.s (.r (.l (.l (.l (.l .h))))))), (nat_lit 17), [(nat_lit 15), (nat_lit 16)], []⟩,
  ⟨.p (.r (.r (.l (.l (.l .h))))) none (.ix (nat_lit 11) (.s (.r (.r (.r (.r .h))))) (.s (.l (.r (.l (.l (.l .h))))))), (nat_lit 18), [(nat_lit 14), (nat_lit 15), (nat_lit 16), (nat_lit 17)], []⟩,
  ⟨.r (.l (.l (.r (.l (.l .h))))) none (.lg (nat_lit 11) (.s (.r (.r (.l (.l (.l .h))))))), (nat_lit 19), [(nat_lit 14), (nat_lit 15), (nat_lit 16), (nat_lit 17), (nat_lit 18)], []⟩,
  ⟨.p (.r (.l (.r (.l (.l .h))))) none (.ix (nat_lit 11) (.s (.r (.l (.l (.l .h))))) (.s (.l (.l (.r (.l .h)))))), (nat_lit 20), [(nat_lit 0), (nat_lit 1), (nat_lit 2), (nat_lit 3), (nat_lit 8), (nat_lit 9), (nat_lit 10), (nat_lit 11), (nat_lit 12), (nat_lit 13), (nat_lit 14), (nat_lit 15), (nat_lit 16), (nat_lit 17), (nat_lit 18), (nat_lit 19)], []⟩,
  ⟨.c none none (.st (nat_lit 11) (.s (.r (.l (.r (.l (.l .h)))))) (.s (.l (.r (.r (.r .h)))))), (nat_lit 21), [(nat_lit 0), (nat_lit 1), (nat_lit 2), (nat_lit 3), (nat_lit 8), (nat_lit 9), (nat_lit 10), (nat_lit 11), (nat_lit 12), (nat_lit 13), (nat_lit 14), (nat_lit 15), (nat_lit 16), (nat_lit 17), (nat_lit 18), (nat_lit 19), (nat_lit 20)], []⟩,
  ⟨.p (.l (.r (.r (.l (.l .h))))) none (.ix (nat_lit 11) (.s (.r (.l (.r (.l .h))))) (.s (.l (.l (.l (.r .h)))))), (nat_lit 22), [(nat_lit 0), (nat_lit 1), (nat_lit 2), (nat_lit 3), (nat_lit 4), (nat_lit 5), (nat_lit 6), (nat_lit 7), (nat_lit 8), (nat_lit 9), (nat_lit 10), (nat_lit 11), (nat_lit 12), (nat_lit 13), (nat_lit 14), (nat_lit 15), (nat_lit 16), (nat_lit 17), (nat_lit 18), (nat_lit 19), (nat_lit 20), (nat_lit 21)], []⟩,
  ⟨.c none none (.st (nat_lit 11) (.s (.l (.r (.r (.l (.l .h)))))) (.s (.l (.l (.r (.l (.l .h))))))), (nat_lit 23), [(nat_lit 0), (nat_lit 1), (nat_lit 2), (nat_lit 3), (nat_lit 4), (nat_lit 5), (nat_lit 6), (nat_lit 7), (nat_lit 8), (nat_lit 9), (nat_lit 10), (nat_lit 11), (nat_lit 12), (nat_lit 13), (nat_lit 14), (nat_lit 15), (nat_lit 16), (nat_lit 17), (nat_lit 18), (nat_lit 19), (nat_lit 20), (nat_lit 21), (nat_lit 22)], []⟩]))
 (.reg [.p (.r (.r (.r .h))) none (.mv (.s (.r (.r (.l .h))))),
  .p (.l (.l (.l (.l .h)))) none (.ar .add (.s (.r (.r (.r .h)))) (.c (.a (.i .i64 (.n (nat_lit 1)))))),
  .p (.r (.r (.l .h))) none (.mv (.s (.l (.l (.l (.l .h))))))])))))), false, false⟩
noncomputable def site0 : Site := ⟨74, rfA (nav [1, 1, 1, 0, 1, 0, 0, 1, 1, 0, 0, 1, 1, 1, 0] (bodyOf Try.f54)), rfB (nav [1, 1, 1, 0, 1, 0, 0, 1, 1, 0, 0, 1, 1, 1, 0] (bodyOf Try.f54)), (.reg [.p (.l (.r (.l .h))) none (.mv (.s (.r (.r (.l (.l (.l (.l .h))))))))]), (.blk (nat_lit 3) (.seq (.reg [.p (.l (.l (.r (.l (.l (.l .h)))))) none (.mv (.s (.l (.r (.l .h))))),
  .p (.r (.l (.r (.l (.l (.l .h)))))) none (.fa (nat_lit 11) (.s (.l (.r .h)))),
  .r (.l (.r (.r (.l (.l (.l .h)))))) none (.ld (.s (.r (.l (.r (.l (.l (.l .h)))))))),
  .p (.r (.r (.r (.l (.l (.l .h)))))) none (.ln (.s (.l (.r (.r (.l (.l (.l .h)))))))),
  .p (.l (.l (.l (.r (.l (.l .h)))))) none (.ar .add (.s (.l (.l (.r (.l (.l (.l .h))))))) (.s (.r (.r (.r (.l (.l (.l .h)))))))),
  .p (.r (.l (.l (.r (.l (.l .h)))))) none (.cp .gtr (.s (.l (.l (.l (.r (.l (.l .h))))))) (.c (.a (.i .i64 (.n (nat_lit 9999))))))])
 (.cond (.s (.r (.l (.l (.r (.l (.l .h))))))) (.seq (.reg [.c none none (.st (nat_lit 1) (.s (.r (.r .h))) (.c (.a (.b false))))])
 .rt) .skip)))⟩
noncomputable def site1 : Site := ⟨115, rfA (nav [1, 1, 1, 1, 1, 1, 1, 1, 1, 0, 1, 0] (bodyOf Try.f53)), rfB (nav [1, 1, 1, 1, 1, 1, 1, 1, 1, 0, 1, 0] (bodyOf Try.f53)), (.reg [.p (.l (.r (.l .h))) none (.mv (.s (.l (.l (.l (.l (.r (.l .h))))))))]), (.blk (nat_lit 3) (.reg [.r (.r (.l (.l (.l (.r (.l .h)))))) none (.ld (.s (.r (.l (.l .h))))),
  .p (.l (.r (.l (.l (.r (.l .h)))))) none (.mv (.s (.l (.r (.l .h))))),
  .c none none (.mu false [(nat_lit 0)] (.s (.r (.l (.l (.l (.r (.l .h))))))) (.s (.l (.r (.l (.l (.r (.l .h))))))) (.c (.a (.b true))))]))⟩
end
end Go.Proofs.Ytkljfafphnohoaa
