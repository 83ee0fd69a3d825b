/- The program's functions in the evaluator's form, part 3. -/
import Derived.Test.YtgnomdhaibigiaaRows
import Derived.Test.YtgnomdhaibigiaaE27
set_option linter.unusedVariables false
set_option maxRecDepth 100000
namespace Go.Proofs.Ytgnomdhaibigiaa
open Go.Ev
noncomputable section
noncomputable def rf90 : RF := ⟨[.h, (.l .h), (.r .h), (.l (.l .h))], [.g (.r (.l (.l .h))) (nat_lit 3)], (.seq (.reg [.a (.r (.l (.l .h))) none (.al (nat_lit 75) (nat_lit 3) (.n (.n .e (.i .i64 (.n (nat_lit 0))) .e) (.i .i64 (.n (nat_lit 0))) (.n .e .s0 .e)))])
 (.seq (.reg [.p (.r (.r (.l (.l .h)))) none (.mv (.s (.l .h))),
  .p (.l (.l (.r (.l .h)))) none (.nc (.s (.r (.r (.l (.l .h)))))),
  .p (.r (.l (.r (.l .h)))) none (.fa (nat_lit 4) (.s (.l (.l (.r (.l .h)))))),
  .p (.l (.r (.r (.l .h)))) none (.fa (nat_lit 2) (.s (.r (.l (.r (.l .h)))))),
  .r (.r (.r (.r (.l .h)))) none (.ld (.s (.l (.r (.r (.l .h)))))),
  .p (.l (.l (.l (.r .h)))) none (.mv (.s (.r .h))),
  .p (.r (.l (.l (.r .h)))) none (.ix (nat_lit 3) (.s (.r (.r (.r (.l .h))))) (.s (.l (.l (.l (.r .h)))))),
  .p (.l (.r (.l (.r .h)))) none (.fa (nat_lit 2) (.s (.r (.l (.l (.r .h)))))),
  .r (.r (.r (.l (.r .h)))) none (.ld (.s (.l (.r (.l (.r .h)))))),
  .p (.l (.l (.r (.r .h)))) none (.mv (.s (.l (.l .h)))),
  .p (.r (.l (.r (.r .h)))) none (.bd [(.i .i64 (.n (nat_lit 0))), (.i .i64 (.n (nat_lit 0))), .s0] [((nat_lit 0), (nat_lit 1), (.s (.r (.r (.l (.r .h)))))), ((nat_lit 1), (nat_lit 1), (.s (.l (.l (.r (.r .h))))))]),
  .a (.l (.r (.l .h))) none (.al (nat_lit 75) (nat_lit 3) (.n (.n .e (.i .i64 (.n (nat_lit 0))) .e) (.i .i64 (.n (nat_lit 0))) (.n .e .s0 .e))),
  .c none none (.st (nat_lit 3) (.s (.l (.r (.l .h)))) (.s (.r (.l (.r (.r .h))))))])
 (.seq (.seq (.drw [⟨.p (.l (.r (.r (.r .h)))) none (.mv (.s .h)), (nat_lit 0), [], []⟩,
  ⟨.p (.r (.r (.r (.r .h)))) none (.nc (.s (.l (.r (.r (.r .h)))))), (nat_lit 1), [(nat_lit 0)], []⟩,
  ⟨.p (.l (.l (.l (.l (.l .h))))) none (.fa (nat_lit 0) (.s (.r (.r (.r (.r .h)))))), (nat_lit 2), [(nat_lit 0), (nat_lit 1)], []⟩,
  ⟨.r (.r (.l (.l (.l (.l .h))))) none (.lg (nat_lit 4) (.s (.l (.l (.l (.l (.l .h))))))), (nat_lit 3), [(nat_lit 0), (nat_lit 1), (nat_lit 2)], []⟩,
  ⟨.p (.l (.r (.l (.l (.l .h))))) none (.fa (nat_lit 0) (.s (.l (.r (.l .h))))), (nat_lit 4), [], []⟩,
  ⟨.r (.r (.r (.l (.l (.l .h))))) none (.ld (.s (.l (.r (.l (.l (.l .h))))))), (nat_lit 5), [(nat_lit 4)], []⟩,
  ⟨.p (.l (.l (.r (.l (.l .h))))) none (.mv (.s (.l (.l .h)))), (nat_lit 6), [], []⟩,
  ⟨.p (.r (.r (.r (.l (.l .h))))) none (.mv (.c (.a (.i .i64 (.n (nat_lit 0)))))), (nat_lit 9), [], []⟩,
  ⟨.k (some (.r (.l (.r (.l (.l .h)))))) none (nat_lit 93) (.l (.r (.r (.r (.r (.l .h)))))) [(.s (.r (.l (.l (.l (.l .h)))))), (.s (.r (.r (.l (.l (.l .h)))))), (.s (.l (.l (.r (.l (.l .h))))))], (nat_lit 7), [(nat_lit 0), (nat_lit 1), (nat_lit 2), (nat_lit 3), (nat_lit 4), (nat_lit 5), (nat_lit 6)], []⟩,
  ⟨.p (.l (.r (.r (.l (.l .h))))) none (.ln (.s (.r (.l (.r (.l (.l .h))))))), (nat_lit 8), [(nat_lit 0), (nat_lit 1), (nat_lit 2), (nat_lit 3), (nat_lit 4), (nat_lit 5), (nat_lit 6), (nat_lit 7)], []⟩])
 (.blk (nat_lit 0) (.loop (.seq (.reg [.p (.l (.l (.l (.r (.l .h))))) none (.cp .lss (.s (.r (.r (.r (.l (.l .h)))))) (.s (.l (.r (.r (.l (.l .h)))))))])
 (.seq (.cond (.s (.l (.l (.l (.r (.l .h)))))) .skip (.ex (nat_lit 0)))
 (.seq (.blk (nat_lit 1) (.seq (.reg [.p (.r (.l (.l (.r (.l .h))))) none (.ix (nat_lit 1) (.s (.r (.l (.r (.l (.l .h)))))) (.s (.r (.r (.r (.l (.l .h))))))),
  .r (.l (.r (.l (.r (.l .h))))) none (.ld (.s (.r (.l (.l (.r (.l .h))))))),
  .p (.l (.l (.r .h))) none (.mv (.s (.l (.r (.l (.r (.l .h)))))))])
 (.seq (.drw [⟨.p (.r (.r (.l (.r (.l .h))))) none (.mv (.s .h)), (nat_lit 0), [], []⟩,
  ⟨.p (.l (.l (.r (.r (.l .h))))) none (.nc (.s (.r (.r (.l (.r (.l .h))))))), (nat_lit 1), [(nat_lit 0)], []⟩,
  ⟨.p (.r (.l (.r (.r (.l .h))))) none (.fa (nat_lit 0) (.s (.l (.l (.r (.r (.l .h))))))), (nat_lit 2), [(nat_lit 0), (nat_lit 1)], []⟩,
  ⟨.p (.l (.r (.r (.r (.l .h))))) none (.fa (nat_lit 2) (.s (.r (.l (.r (.r (.l .h))))))), (nat_lit 3), [(nat_lit 0), (nat_lit 1), (nat_lit 2)], []⟩,
  ⟨.r (.r (.r (.r (.r (.l .h))))) none (.ld (.s (.l (.r (.r (.r (.l .h))))))), (nat_lit 4), [(nat_lit 0), (nat_lit 1), (nat_lit 2), (nat_lit 3)], []⟩,
  ⟨.p (.l (.l (.l (.l (.r .h))))) none (.fa (nat_lit 0) (.s (.l (.r (.l .h))))), (nat_lit 5), [], []⟩,
  ⟨.r (.r (.l (.l (.l (.r .h))))) none (.ld (.s (.l (.l (.l (.l (.r .h))))))), (nat_lit 6), [(nat_lit 5)], []⟩,
  ⟨.p (.l (.r (.l (.l (.r .h))))) none (.ix (nat_lit 1) (.s (.r (.r (.r (.r (.l .h)))))) (.s (.r (.l (.l (.l (.r .h))))))), (nat_lit 7), [(nat_lit 0), (nat_lit 1), (nat_lit 2), (nat_lit 3), (nat_lit 4), (nat_lit 5), (nat_lit 6)], []⟩,
  ⟨.r (.r (.r (.l (.l (.r .h))))) none (.ld (.s (.l (.r (.l (.l (.r .h))))))), (nat_lit 8), [(nat_lit 0), (nat_lit 1), (nat_lit 2), (nat_lit 3), (nat_lit 4), (nat_lit 5), (nat_lit 6), (nat_lit 7)], []⟩,
  ⟨.p (.l (.l (.r (.l (.r .h))))) none (.mv (.s (.l (.l (.r .h))))), (nat_lit 9), [], []⟩,
  ⟨.p (.r (.l (.r (.l (.r .h))))) none (.ix (nat_lit 7) (.s (.r (.r (.l (.l (.r .h)))))) (.s (.l (.l (.r (.l (.r .h))))))), (nat_lit 10), [(nat_lit 0), (nat_lit 1), (nat_lit 2), (nat_lit 3), (nat_lit 4), (nat_lit 5), (nat_lit 6), (nat_lit 7), (nat_lit 8), (nat_lit 9)], []⟩,
  ⟨.r (.l (.r (.r (.l (.r .h))))) none (.lg (nat_lit 7) (.s (.r (.l (.r (.l (.r .h))))))), (nat_lit 11), [(nat_lit 0), (nat_lit 1), (nat_lit 2), (nat_lit 3), (nat_lit 4), (nat_lit 5), (nat_lit 6), (nat_lit 7), (nat_lit 8), (nat_lit 9), (nat_lit 10)], []⟩,
  ⟨.a (.r (.l (.r .h))) none (.al (nat_lit 108) (nat_lit 7) (.n (.n (.n .e (.i .i64 (.n (nat_lit 0))) .e) (.i .i64 (.n (nat_lit 0))) (.n .e (.i .i64 (.n (nat_lit 0))) .e)) (.t []) (.n (.n .e (.b false) .e) (.i .i64 (.n (nat_lit 0))) (.n .e (.i .i64 (.n (nat_lit 0))) .e)))), (nat_lit 12), [], []⟩,
  ⟨.c none none (.st (nat_lit 7) (.s (.r (.l (.r .h)))) (.s (.l (.r (.r (.l (.r .h))))))), (nat_lit 13), [(nat_lit 0), (nat_lit 1), (nat_lit 2), (nat_lit 3), (nat_lit 4), (nat_lit 5), (nat_lit 6), (nat_lit 7), (nat_lit 8), (nat_lit 9), (nat_lit 10), (nat_lit 11), (nat_lit 12)], []⟩])
 (.seq (.reg [.p (.r (.r (.r (.l (.r .h))))) none (.fa (nat_lit 3) (.s (.r (.l (.r .h))))),
  .r (.l (.l (.l (.r (.r .h))))) none (.ld (.s (.r (.r (.r (.l (.r .h))))))),
  .p (.r (.l (.l (.r (.r .h))))) none (.mn true (.s (.l (.l (.l (.r (.r .h)))))) (.c (.a (.i .i64 (.n (nat_lit 0)))))),
  .p (.l (.r (.l (.r (.r .h))))) none (.mn false (.s (.r (.l (.l (.r (.r .h)))))) (.c (.a (.i .i64 (.n (nat_lit 8)))))),
  .p (.l (.r (.r .h))) none (.mv (.s (.l (.r (.l (.r (.r .h)))))))])
 (.seq (.drw [⟨.p (.r (.r (.l (.r (.r .h))))) none (.mv (.s (.l (.l (.r .h))))), (nat_lit 0), [], []⟩,
  ⟨.p (.l (.l (.r (.r (.r .h))))) none (.mv (.s (.l (.r (.r .h))))), (nat_lit 1), [], []⟩,
  ⟨.p (.l (.r (.r (.r (.r .h))))) none (.mv (.s (.l (.r (.r .h))))), (nat_lit 3), [], []⟩,
  ⟨.a (.r (.l (.r (.r (.r .h))))) none (.ms (nat_lit 4) (nat_lit 1) [(.b false)] (.s (.l (.l (.r (.r (.r .h))))))), (nat_lit 2), [(nat_lit 1)], []⟩,
  ⟨.a (.r (.r (.r (.r (.r .h))))) none (.ms (nat_lit 3) (nat_lit 8) [(.i .i64 (.n (nat_lit 0)))] (.s (.l (.r (.r (.r (.r .h))))))), (nat_lit 4), [(nat_lit 3)], []⟩,
  ⟨.p (.l (.l (.l (.l (.l (.l .h)))))) none (.bd [(.i .i64 (.n (nat_lit 0))), .s0, .s0] [((nat_lit 0), (nat_lit 1), (.s (.r (.r (.l (.r (.r .h))))))), ((nat_lit 1), (nat_lit 1), (.s (.r (.l (.r (.r (.r .h))))))), ((nat_lit 2), (nat_lit 1), (.s (.r (.r (.r (.r (.r .h)))))))]), (nat_lit 5), [(nat_lit 0), (nat_lit 1), (nat_lit 2), (nat_lit 3), (nat_lit 4)], []⟩,
  ⟨.a (.r (.r (.r .h))) none (.al (nat_lit 78) (nat_lit 3) (.n (.n .e .s0 .e) (.i .i64 (.n (nat_lit 0))) (.n .e .s0 .e))), (nat_lit 6), [], []⟩,
  ⟨.c none none (.st (nat_lit 3) (.s (.r (.r (.r .h)))) (.s (.l (.l (.l (.l (.l (.l .h)))))))), (nat_lit 7), [(nat_lit 0), (nat_lit 1), (nat_lit 2), (nat_lit 3), (nat_lit 4), (nat_lit 5), (nat_lit 6)], []⟩])
 (.seq (.seq (.reg [.p (.r (.l (.l (.l (.l (.l .h)))))) none (.mv (.s (.l (.r (.r .h))))),
  .p (.l (.r (.l (.l (.l (.l .h)))))) none (.mv (.c (.a (.i .i64 (.n (nat_lit 0))))))])
 (.blk (nat_lit 2) (.loop (.seq (.reg [.p (.r (.r (.l (.l (.l (.l .h)))))) none (.cp .lss (.s (.l (.r (.l (.l (.l (.l .h))))))) (.s (.r (.l (.l (.l (.l (.l .h))))))))])
 (.seq (.cond (.s (.r (.r (.l (.l (.l (.l .h))))))) .skip (.ex (nat_lit 2)))
 (.seq (.blk (nat_lit 3) (.seq (.reg [.p (.l (.l (.r (.l (.l (.l .h)))))) none (.mv (.s (.l (.r (.l (.l (.l (.l .h)))))))),
  .p (.l (.l (.l (.l .h)))) none (.mv (.s (.l (.l (.r (.l (.l (.l .h))))))))])
 (.seq (.reg [.p (.r (.l (.l (.l .h)))) none (.mv (.c (.a (.i .i64 (.n (nat_lit 0)))))),
  .p (.l (.r (.l (.l .h)))) none (.mv (.c (.a (.b false))))])
 (.seq (.seq (.reg [.p (.r (.l (.r (.l (.l (.l .h)))))) none (.fa (nat_lit 1) (.s (.r (.l (.r .h))))),
  .r (.l (.r (.r (.l (.l (.l .h)))))) none (.ld (.s (.r (.l (.r (.l (.l (.l .h)))))))),
  .p (.r (.r (.r (.l (.l (.l .h)))))) none (.cp .eql (.s (.l (.r (.r (.l (.l (.l .h))))))) (.c (.a (.i .i64 (.n (nat_lit 3))))))])
 (.cond (.s (.r (.r (.r (.l (.l (.l .h))))))) (.reg [.p (.r (.l (.l (.r (.l (.l .h)))))) none (.mv (.s (.l .h))),
  .p (.l (.r (.l (.r (.l (.l .h)))))) none (.mv (.s (.r .h))),
  .p (.r (.r (.l (.r (.l (.l .h)))))) none (.mv (.s (.l (.l (.r .h))))),
  .p (.l (.l (.r (.r (.l (.l .h)))))) none (.mv (.s (.l (.l (.l (.l .h)))))),
  .k (some (.r (.l (.r (.r (.l (.l .h))))))) none (nat_lit 94) (.r (.r (.r (.r (.r (.l .h)))))) [(.s (.r (.l (.l (.r (.l (.l .h))))))), (.s (.l (.r (.l (.r (.l (.l .h))))))), (.s (.r (.r (.l (.r (.l (.l .h))))))), (.s (.l (.l (.r (.r (.l (.l .h)))))))],
  .p (.l (.l (.l (.r (.l (.l .h)))))) none (.mv (.s (.r (.l (.r (.r (.l (.l .h)))))))),
  .p (.l (.r (.r (.r (.l (.l .h)))))) none (.ex (nat_lit 0) (.s (.l (.l (.l (.r (.l (.l .h)))))))),
  .p (.r (.r (.r (.r (.l (.l .h)))))) none (.ex (nat_lit 1) (.s (.l (.l (.l (.r (.l (.l .h)))))))),
  .p (.r (.l (.l (.l .h)))) none (.mv (.s (.l (.r (.r (.r (.l (.l .h)))))))),
  .p (.l (.r (.l (.l .h)))) none (.mv (.s (.r (.r (.r (.r (.l (.l .h))))))))]) (.reg [.p (.r (.l (.l (.l (.r (.l .h)))))) none (.mv (.s (.l .h))),
  .p (.l (.r (.l (.l (.r (.l .h)))))) none (.mv (.s (.r .h))),
  .p (.r (.r (.l (.l (.r (.l .h)))))) none (.mv (.s (.l (.l (.r .h))))),
  .p (.l (.l (.r (.l (.r (.l .h)))))) none (.mv (.s (.l (.l (.l (.l .h)))))),
  .p (.r (.l (.r (.l (.r (.l .h)))))) none (.bd [(.i .i64 (.n (nat_lit 0))), (.i .i64 (.n (nat_lit 0))), (.i .i64 (.n (nat_lit 0)))] [((nat_lit 0), (nat_lit 1), (.s (.l (.r (.l (.l (.r (.l .h)))))))), ((nat_lit 1), (nat_lit 1), (.s (.r (.r (.l (.l (.r (.l .h)))))))), ((nat_lit 2), (nat_lit 1), (.s (.l (.l (.r (.l (.r (.l .h))))))))]),
  .k (some (.l (.r (.r (.l (.r (.l .h))))))) none (nat_lit 95) (.l (.l (.l (.l (.l (.r .h)))))) [(.s (.r (.l (.l (.l (.r (.l .h))))))), (.s (.r (.l (.r (.l (.r (.l .h)))))))],
  .p (.l (.l (.l (.l (.r (.l .h)))))) none (.mv (.s (.l (.r (.r (.l (.r (.l .h)))))))),
  .p (.r (.r (.r (.l (.r (.l .h)))))) none (.ex (nat_lit 0) (.s (.l (.l (.l (.l (.r (.l .h)))))))),
  .p (.l (.l (.l (.r (.r (.l .h)))))) none (.ex (nat_lit 1) (.s (.l (.l (.l (.l (.r (.l .h)))))))),
  .p (.r (.l (.l (.l .h)))) none (.mv (.s (.r (.r (.r (.l (.r (.l .h)))))))),
  .p (.l (.r (.l (.l .h)))) none (.mv (.s (.l (.l (.l (.r (.r (.l .h))))))))])))
 (.drw [⟨.p (.r (.l (.l (.r (.r (.l .h)))))) none (.fa (nat_lit 2) (.s (.r (.r (.r .h))))), (nat_lit 0), [], []⟩,
  ⟨.r (.l (.r (.l (.r (.r (.l .h)))))) none (.ld (.s (.r (.l (.l (.r (.r (.l .h)))))))), (nat_lit 1), [(nat_lit 0)], []⟩,
  ⟨.p (.r (.r (.l (.r (.r (.l .h)))))) none (.mv (.s (.l (.l (.l (.l .h)))))), (nat_lit 2), [], []⟩,
  ⟨.p (.l (.l (.r (.r (.r (.l .h)))))) none (.fa (nat_lit 1) (.s (.r (.r (.r .h))))), (nat_lit 3), [], []⟩,
  ⟨.r (.r (.l (.r (.r (.r (.l .h)))))) none (.ld (.s (.l (.l (.r (.r (.r (.l .h)))))))), (nat_lit 4), [(nat_lit 3)], []⟩,
  ⟨.p (.l (.r (.r (.r (.r (.l .h)))))) none (.mv (.s (.l (.l (.l (.l .h)))))), (nat_lit 5), [], []⟩,
  ⟨.p (.r (.r (.r (.r (.r (.l .h)))))) none (.mv (.s (.r (.l (.l (.l .h)))))), (nat_lit 6), [], []⟩,
  ⟨.p (.l (.l (.l (.l (.l (.r .h)))))) none (.mv (.s (.l (.r (.l (.l .h)))))), (nat_lit 7), [], []⟩,
  ⟨.p (.r (.l (.l (.l (.l (.r .h)))))) none (.ix (nat_lit 1) (.s (.l (.r (.l (.r (.r (.l .h))))))) (.s (.r (.r (.l (.r (.r (.l .h)))))))), (nat_lit 8), [(nat_lit 0), (nat_lit 1), (nat_lit 2), (nat_lit 6)], []⟩,
  ⟨.c none none (.st (nat_lit 1) (.s (.r (.l (.l (.l (.l (.r .h))))))) (.s (.r (.r (.r (.r (.r (.l .h)))))))), (nat_lit 9), [(nat_lit 0), (nat_lit 1), (nat_lit 2), (nat_lit 6), (nat_lit 8)], [true, false]⟩,
  ⟨.p (.l (.r (.l (.l (.l (.r .h)))))) none (.ix (nat_lit 1) (.s (.r (.l (.r (.r (.r (.l .h))))))) (.s (.l (.r (.r (.r (.r (.l .h)))))))), (nat_lit 10), [(nat_lit 0), (nat_lit 1), (nat_lit 2), (nat_lit 3), (nat_lit 4), (nat_lit 5), (nat_lit 6), (nat_lit 7), (nat_lit 8), (nat_lit 9)], []⟩,
  ⟨.c none none (.st (nat_lit 1) (.s (.l (.r (.l (.l (.l (.r .h))))))) (.s (.l (.l (.l (.l (.l (.r .h)))))))), (nat_lit 11), [(nat_lit 0), (nat_lit 1), (nat_lit 2), (nat_lit 3), (nat_lit 4), (nat_lit 5), (nat_lit 6), (nat_lit 7), (nat_lit 8), (nat_lit 9), (nat_lit 10)], []⟩])))))
 (.reg [.p (.r (.r (.l (.l (.l (.r .h)))))) none (.ar .add (.s (.l (.r (.l (.l (.l (.l .h))))))) (.c (.a (.i .i64 (.n (nat_lit 1)))))),
  .p (.l (.r (.l (.l (.l (.l .h)))))) none (.mv (.s (.r (.r (.l (.l (.l (.r .h))))))))])))))))
 (.reg [.p (.l (.l (.r (.l (.l (.r .h)))))) none (.fa (nat_lit 2) (.s (.l (.r (.l .h))))),
  .r (.r (.l (.r (.l (.l (.r .h)))))) none (.ld (.s (.l (.l (.r (.l (.l (.r .h)))))))),
  .r (.l (.r (.r (.l (.l (.r .h)))))) none (.lg (nat_lit 3) (.s (.r (.r (.r .h))))),
  .a (.r (.r (.r (.l (.l (.r .h)))))) none (.bs (nat_lit 78) (nat_lit 1) [(.i .i64 (.n (nat_lit 0))), .s0, .s0] [((nat_lit 0), (nat_lit 3), (.s (.l (.r (.r (.l (.l (.r .h))))))))]),
  .c (some (.l (.l (.l (.r (.l (.r .h))))))) none (.ap (nat_lit 78) (nat_lit 3) (nat_lit 56) (.s (.r (.l (.r (.l (.l (.r .h))))))) (.s (.r (.r (.r (.l (.l (.r .h)))))))),
  .p (.r (.l (.l (.r (.l (.r .h)))))) none (.fa (nat_lit 2) (.s (.l (.r (.l .h))))),
  .c none none (.st (nat_lit 1) (.s (.r (.l (.l (.r (.l (.r .h))))))) (.s (.l (.l (.l (.r (.l (.r .h))))))))])))))))
 (.reg [.p (.l (.r (.l (.r (.l (.r .h)))))) none (.ar .add (.s (.r (.r (.r (.l (.l .h)))))) (.c (.a (.i .i64 (.n (nat_lit 1)))))),
  .p (.r (.r (.r (.l (.l .h))))) none (.mv (.s (.l (.r (.l (.r (.l (.r .h))))))))])))))))
 (.seq (.reg [.r (.r (.r (.l (.r (.l (.r .h)))))) none (.lg (nat_lit 3) (.s (.l (.r (.l .h))))),
  .c none none (.st (nat_lit 3) (.s (.r (.l (.l .h)))) (.s (.r (.r (.l (.r (.l (.r .h))))))))])
 .rt))))⟩
noncomputable def rf91 : RF := ⟨[.h], [.s (.r .h)], (.seq (.reg [.p (.r .h) none (.mv (.c (.a (.i .i64 (.n (nat_lit 0))))))])
 (.seq (.seq (.reg [.p (.l (.l .h)) none (.mv (.s .h))])
 (.cond (.s (.l (.l .h))) (.seq (.reg [.p (.r .h) none (.mv (.c (.a (.i .i64 (.n (nat_lit 1))))))])
 .rt) .skip))
 (.seq (.reg [.p (.r .h) none (.mv (.c (.a (.i .i64 (.n (nat_lit 0))))))])
 .rt)))⟩
noncomputable def rf92 : RF := ⟨[.h], [.s (.r .h)], (.seq (.reg [.p (.r .h) none (.mv (.c (.a (.i .i64 (.n (nat_lit 0))))))])
 (.seq (.seq (.reg [.p (.l (.l .h)) none (.mv (.s .h))])
 (.cond (.s (.l (.l .h))) (.seq (.reg [.p (.r .h) none (.mv (.c (.a (.i .i64 (.n (nat_lit 1))))))])
 .rt) .skip))
 (.seq (.reg [.p (.r .h) none (.mv (.c (.a (.i .i64 (.n (nat_lit 0))))))])
 .rt)))⟩
noncomputable def rf93 : RF := ⟨[.h, (.l .h), (.r .h)], [.s (.r (.r .h))], (.seq (.reg [.a (.l (.l .h)) none (.bx (nat_lit 68) (nat_lit 4) (.s .h)),
  .p (.r (.r .h)) none (.mv (.c (.a .s0)))])
 (.seq (.seq (.reg [.p (.r (.r (.l .h))) none (.mv (.s (.l .h))),
  .p (.l (.l (.r .h))) none (.cp .lss (.s (.r (.r (.l .h)))) (.c (.a (.i .i64 (.n (nat_lit 0)))))),
  .p (.r (.l (.r .h))) none (.mv (.s (.l (.l (.r .h))))),
  .p (.l (.r (.r .h))) (some ((.r (.l (.r .h))), false)) (.mv (.s (.l .h))),
  .p (.r (.r (.r .h))) (some ((.r (.l (.r .h))), false)) (.fa (nat_lit 2) (.s (.l (.l .h)))),
  .r (.l (.l (.l (.l .h)))) (some ((.r (.l (.r .h))), false)) (.ld (.s (.r (.r (.r .h))))),
  .p (.r (.l (.l (.l .h)))) (some ((.r (.l (.r .h))), false)) (.ln (.s (.l (.l (.l (.l .h)))))),
  .p (.l (.r (.l (.l .h)))) (some ((.r (.l (.r .h))), false)) (.cp .geq (.s (.l (.r (.r .h)))) (.s (.r (.l (.l (.l .h)))))),
  .p (.r (.r (.l (.l .h)))) none (.pk (.s (.r (.l (.r .h)))) (.c (.a (.b true))) (.s (.l (.r (.l (.l .h))))))])
 (.cond (.s (.r (.r (.l (.l .h))))) (.seq (.reg [.p (.r (.r .h)) none (.mv (.c (.a .s0)))])
 .rt) .skip))
 (.seq (.reg [.p (.l (.l (.l .h))) none (.mv (.c (.a .s0)))])
 (.seq (.seq (.reg [.p (.l (.l (.r (.l .h)))) none (.fa (nat_lit 2) (.s (.l (.l .h)))),
  .r (.r (.l (.r (.l .h)))) none (.ld (.s (.l (.l (.r (.l .h)))))),
  .p (.l (.r (.r (.l .h)))) none (.mv (.s (.l .h))),
  .p (.r (.r (.r (.l .h)))) none (.ix (nat_lit 1) (.s (.r (.l (.r (.l .h))))) (.s (.l (.r (.r (.l .h)))))),
  .r (.l (.l (.l (.r .h)))) none (.ld (.s (.r (.r (.r (.l .h)))))),
  .p (.r (.l (.l (.r .h)))) none (.ln (.s (.l (.l (.l (.r .h)))))),
  .p (.l (.r (.l (.r .h)))) none (.mv (.c (.a (.i .i64 (.n (nat_lit 0))))))])
 (.blk (nat_lit 0) (.loop (.seq (.reg [.p (.r (.r (.l (.r .h)))) none (.cp .lss (.s (.l (.r (.l (.r .h))))) (.s (.r (.l (.l (.r .h))))))])
 (.seq (.cond (.s (.r (.r (.l (.r .h))))) .skip (.ex (nat_lit 0)))
 (.seq (.blk (nat_lit 1) (.seq (.reg [.p (.l (.l (.r (.r .h)))) none (.mv (.s (.l (.r (.l (.r .h)))))),
  .p (.r (.l (.r (.r .h)))) none (.ix (nat_lit 7) (.s (.l (.l (.l (.r .h))))) (.s (.l (.r (.l (.r .h)))))),
  .r (.l (.r (.r (.r .h)))) none (.lg (nat_lit 7) (.s (.r (.l (.r (.r .h)))))),
  .a (.l (.r (.l .h))) none (.al (nat_lit 108) (nat_lit 7) (.n (.n (.n .e (.i .i64 (.n (nat_lit 0))) .e) (.i .i64 (.n (nat_lit 0))) (.n .e (.i .i64 (.n (nat_lit 0))) .e)) (.t []) (.n (.n .e (.b false) .e) (.i .i64 (.n (nat_lit 0))) (.n .e (.i .i64 (.n (nat_lit 0))) .e)))),
  .p (.r (.l (.l .h))) none (.mv (.s (.l (.l (.r (.r .h)))))),
  .c none none (.st (nat_lit 7) (.s (.l (.r (.l .h)))) (.s (.l (.r (.r (.r .h))))))])
 (.seq (.reg [.p (.r (.r (.r (.r .h)))) none (.fa (nat_lit 5) (.s (.l (.r (.l .h))))),
  .r (.l (.l (.l (.l (.l .h))))) none (.ld (.s (.r (.r (.r (.r .h)))))),
  .p (.r (.l (.l (.l (.l .h))))) none (.mv (.s (.r .h))),
  .p (.l (.r (.l (.l (.l .h))))) none (.cp .leq (.s (.l (.l (.l (.l (.l .h)))))) (.s (.r (.l (.l (.l (.l .h))))))),
  .p (.r (.r (.l (.l (.l .h))))) none (.mv (.s (.l (.r (.l (.l (.l .h))))))),
  .p (.l (.l (.r (.l (.l .h))))) (some ((.r (.r (.l (.l (.l .h))))), true)) (.mv (.s (.r .h))),
  .p (.r (.l (.r (.l (.l .h))))) (some ((.r (.r (.l (.l (.l .h))))), true)) (.fa (nat_lit 6) (.s (.l (.r (.l .h))))),
  .r (.l (.r (.r (.l (.l .h))))) (some ((.r (.r (.l (.l (.l .h))))), true)) (.ld (.s (.r (.l (.r (.l (.l .h))))))),
  .p (.r (.r (.r (.l (.l .h))))) (some ((.r (.r (.l (.l (.l .h))))), true)) (.cp .leq (.s (.l (.l (.r (.l (.l .h)))))) (.s (.l (.r (.r (.l (.l .h))))))),
  .p (.l (.l (.l (.r (.l .h))))) none (.pk (.s (.r (.r (.l (.l (.l .h)))))) (.s (.r (.r (.r (.l (.l .h)))))) (.c (.a (.b false))))])
 (.cond (.s (.l (.l (.l (.r (.l .h)))))) (.reg [.p (.r (.l (.l (.r (.l .h))))) none (.mv (.s (.l (.l (.l .h))))),
  .p (.l (.r (.l (.r (.l .h))))) none (.mv (.s (.r (.l (.l .h))))),
  .a (.r (.r (.l (.r (.l .h))))) none (.bs (nat_lit 3) (nat_lit 1) [(.i .i64 (.n (nat_lit 0)))] [((nat_lit 0), (nat_lit 1), (.s (.l (.r (.l (.r (.l .h)))))))]),
  .c (some (.l (.l (.r (.r (.l .h)))))) none (.ap (nat_lit 3) (nat_lit 1) (nat_lit 8) (.s (.r (.l (.l (.r (.l .h)))))) (.s (.r (.r (.l (.r (.l .h))))))),
  .p (.l (.l (.l .h))) none (.mv (.s (.l (.l (.r (.r (.l .h)))))))]) .skip))))
 (.reg [.p (.r (.l (.r (.r (.l .h))))) none (.ar .add (.s (.l (.r (.l (.r .h))))) (.c (.a (.i .i64 (.n (nat_lit 1)))))),
  .p (.l (.r (.l (.r .h)))) none (.mv (.s (.r (.l (.r (.r (.l .h)))))))])))))))
 (.seq (.reg [.p (.l (.r (.r (.r (.l .h))))) none (.mv (.s (.l (.l (.l .h))))),
  .p (.r (.r .h)) none (.mv (.s (.l (.r (.r (.r (.l .h)))))))])
 .rt)))))⟩
noncomputable def rf94 : RF := ⟨[.h, (.l .h), (.r .h), (.l (.l .h))], [.s (.r (.l (.l .h))), .s (.l (.r (.l .h)))], (.seq (.reg [.p (.r (.l (.l .h))) none (.mv (.c (.a (.i .i64 (.n (nat_lit 0)))))),
  .p (.l (.r (.l .h))) none (.mv (.c (.a (.b false))))])
 (.seq (.seq (.reg [.p (.r (.l (.r .h))) none (.mv (.s .h)),
  .p (.l (.r (.r .h))) none (.nc (.s (.r (.l (.r .h))))),
  .p (.r (.r (.r .h))) none (.fa (nat_lit 4) (.s (.l (.r (.r .h))))),
  .p (.l (.l (.l (.l .h)))) none (.fa (nat_lit 3) (.s (.r (.r (.r .h))))),
  .r (.r (.l (.l (.l .h)))) none (.ld (.s (.l (.l (.l (.l .h)))))),
  .p (.l (.r (.l (.l .h)))) none (.ln (.s (.r (.l (.l (.l .h)))))),
  .p (.r (.r (.l (.l .h)))) none (.mv (.c (.a (.i .i64 (.n (nat_lit 0))))))])
 (.blk (nat_lit 0) (.loop (.seq (.reg [.p (.l (.l (.r (.l .h)))) none (.cp .lss (.s (.r (.r (.l (.l .h))))) (.s (.l (.r (.l (.l .h))))))])
 (.seq (.cond (.s (.l (.l (.r (.l .h))))) .skip (.ex (nat_lit 0)))
 (.seq (.blk (nat_lit 1) (.seq (.reg [.p (.r (.l (.r (.l .h)))) none (.mv (.s (.r (.r (.l (.l .h)))))),
  .p (.l (.r (.r (.l .h)))) none (.ix (nat_lit 3) (.s (.r (.l (.l (.l .h))))) (.s (.r (.r (.l (.l .h)))))),
  .r (.r (.r (.r (.l .h)))) none (.lg (nat_lit 3) (.s (.l (.r (.r (.l .h)))))),
  .a (.l (.l (.r .h))) none (.al (nat_lit 86) (nat_lit 3) (.n (.n .e (.i .i64 (.n (nat_lit 0))) .e) (.i .i64 (.n (nat_lit 0))) (.n .e (.i .i64 (.n (nat_lit 0))) .e))),
  .p (.r (.r (.l .h))) none (.mv (.s (.r (.l (.r (.l .h)))))),
  .c none none (.st (nat_lit 3) (.s (.l (.l (.r .h)))) (.s (.r (.r (.r (.l .h))))))])
 (.seq (.reg [.p (.l (.l (.l (.r .h)))) none (.fa (nat_lit 0) (.s (.l (.l (.r .h))))),
  .r (.r (.l (.l (.r .h)))) none (.ld (.s (.l (.l (.l (.r .h)))))),
  .p (.l (.r (.l (.r .h)))) none (.mv (.s (.l .h))),
  .p (.r (.r (.l (.r .h)))) none (.cp .eql (.s (.r (.l (.l (.r .h))))) (.s (.l (.r (.l (.r .h)))))),
  .p (.l (.l (.r (.r .h)))) none (.mv (.s (.r (.r (.l (.r .h)))))),
  .p (.r (.l (.r (.r .h)))) (some ((.l (.l (.r (.r .h)))), true)) (.fa (nat_lit 1) (.s (.l (.l (.r .h))))),
  .r (.l (.r (.r (.r .h)))) (some ((.l (.l (.r (.r .h)))), true)) (.ld (.s (.r (.l (.r (.r .h)))))),
  .p (.r (.r (.r (.r .h)))) (some ((.l (.l (.r (.r .h)))), true)) (.mv (.s (.r .h))),
  .p (.l (.l (.l (.l (.l .h))))) (some ((.l (.l (.r (.r .h)))), true)) (.cp .eql (.s (.l (.r (.r (.r .h))))) (.s (.r (.r (.r (.r .h)))))),
  .p (.r (.l (.l (.l (.l .h))))) none (.pk (.s (.l (.l (.r (.r .h))))) (.s (.l (.l (.l (.l (.l .h)))))) (.c (.a (.b false)))),
  .p (.l (.r (.l (.l (.l .h))))) none (.mv (.s (.r (.l (.l (.l (.l .h))))))),
  .p (.r (.r (.l (.l (.l .h))))) (some ((.l (.r (.l (.l (.l .h))))), true)) (.mv (.s (.l (.l .h)))),
  .p (.l (.l (.r (.l (.l .h))))) (some ((.l (.r (.l (.l (.l .h))))), true)) (.fa (nat_lit 2) (.s (.l (.l (.r .h))))),
  .r (.r (.l (.r (.l (.l .h))))) (some ((.l (.r (.l (.l (.l .h))))), true)) (.ld (.s (.l (.l (.r (.l (.l .h))))))),
  .p (.l (.r (.r (.l (.l .h))))) (some ((.l (.r (.l (.l (.l .h))))), true)) (.cp .lss (.s (.r (.r (.l (.l (.l .h)))))) (.s (.r (.l (.r (.l (.l .h))))))),
  .p (.r (.r (.r (.l (.l .h))))) none (.pk (.s (.l (.r (.l (.l (.l .h)))))) (.s (.l (.r (.r (.l (.l .h)))))) (.c (.a (.b false))))])
 (.cond (.s (.r (.r (.r (.l (.l .h)))))) (.seq (.reg [.p (.l (.l (.l (.r (.l .h))))) none (.mv (.s .h)),
  .p (.r (.l (.l (.r (.l .h))))) none (.nc (.s (.l (.l (.l (.r (.l .h))))))),
  .p (.l (.r (.l (.r (.l .h))))) none (.fa (nat_lit 12) (.s (.r (.l (.l (.r (.l .h))))))),
  .r (.r (.r (.l (.r (.l .h))))) none (.ld (.s (.l (.r (.l (.r (.l .h))))))),
  .p (.l (.l (.r (.r (.l .h))))) none (.mv (.s (.r (.r (.l .h))))),
  .p (.r (.l (.r (.r (.l .h))))) none (.ix (nat_lit 1) (.s (.r (.r (.l (.r (.l .h)))))) (.s (.l (.l (.r (.r (.l .h))))))),
  .r (.l (.r (.r (.r (.l .h))))) none (.ld (.s (.r (.l (.r (.r (.l .h))))))),
  .p (.r (.r (.r (.r (.l .h))))) none (.mv (.s (.l (.l .h)))),
  .p (.l (.l (.l (.l (.r .h))))) none (.ix (nat_lit 1) (.s (.l (.r (.r (.r (.l .h)))))) (.s (.r (.r (.r (.r (.l .h))))))),
  .r (.r (.l (.l (.l (.r .h))))) none (.ld (.s (.l (.l (.l (.l (.r .h))))))),
  .p (.r (.l (.l .h))) none (.mv (.s (.r (.l (.l (.l (.r .h))))))),
  .p (.l (.r (.l .h))) none (.mv (.c (.a (.b true))))])
 .rt) .skip))))
 (.reg [.p (.l (.r (.l (.l (.r .h))))) none (.ar .add (.s (.r (.r (.l (.l .h))))) (.c (.a (.i .i64 (.n (nat_lit 1)))))),
  .p (.r (.r (.l (.l .h)))) none (.mv (.s (.l (.r (.l (.l (.r .h)))))))])))))))
 (.seq (.reg [.p (.r (.l (.l .h))) none (.mv (.c (.a (.i .i64 (.n (nat_lit 0)))))),
  .p (.l (.r (.l .h))) none (.mv (.c (.a (.b false))))])
 .rt)))⟩
noncomputable def rf95 : RF := ⟨[.h, (.l .h)], [.s (.r (.l .h)), .s (.l (.r .h))], (.seq (.reg [.a (.l (.l .h)) none (.bx (nat_lit 157) (nat_lit 3) (.s (.l .h))),
  .p (.r (.l .h)) none (.mv (.c (.a (.i .i64 (.n (nat_lit 0)))))),
  .p (.l (.r .h)) none (.mv (.c (.a (.b false))))])
 (.seq (.drw [⟨.p (.l (.l (.l .h))) none (.mv (.s .h)), (nat_lit 0), [], []⟩,
  ⟨.p (.r (.l (.l .h))) none (.nc (.s (.l (.l (.l .h))))), (nat_lit 1), [(nat_lit 0)], []⟩,
  ⟨.p (.l (.r (.l .h))) none (.fa (nat_lit 0) (.s (.r (.l (.l .h))))), (nat_lit 2), [(nat_lit 0), (nat_lit 1)], []⟩,
  ⟨.p (.r (.r (.l .h))) none (.fa (nat_lit 3) (.s (.l (.r (.l .h))))), (nat_lit 3), [(nat_lit 0), (nat_lit 1), (nat_lit 2)], []⟩,
  ⟨.r (.l (.l (.r .h))) none (.ld (.s (.r (.r (.l .h))))), (nat_lit 4), [(nat_lit 0), (nat_lit 1), (nat_lit 2), (nat_lit 3)], []⟩,
  ⟨.r (.r (.l (.r .h))) none (.lg (nat_lit 3) (.s (.l (.l .h)))), (nat_lit 5), [], []⟩,
  ⟨.r (.l (.r (.r .h))) none (.lk false true [(nat_lit 0), (nat_lit 0), (nat_lit 0)] (.g [(.i .i64 (.n (nat_lit 0))), (.i .i64 (.n (nat_lit 0))), (.i .i64 (.n (nat_lit 0)))]) (.s (.l (.l (.r .h)))) (.s (.r (.l (.r .h))))), (nat_lit 6), [(nat_lit 0), (nat_lit 1), (nat_lit 2), (nat_lit 3), (nat_lit 4), (nat_lit 5)], []⟩,
  ⟨.a (.r (.r .h)) none (.al (nat_lit 41) (nat_lit 3) (.n (.n .e (.i .i64 (.n (nat_lit 0))) .e) (.i .i64 (.n (nat_lit 0))) (.n .e (.i .i64 (.n (nat_lit 0))) .e))), (nat_lit 7), [], []⟩,
  ⟨.c none none (.st (nat_lit 3) (.s (.r (.r .h))) (.s (.l (.r (.r .h))))), (nat_lit 8), [(nat_lit 0), (nat_lit 1), (nat_lit 2), (nat_lit 3), (nat_lit 4), (nat_lit 5), (nat_lit 6), (nat_lit 7)], []⟩])
 (.seq (.seq (.reg [.p (.r (.r (.r .h))) none (.fa (nat_lit 0) (.s (.r (.r .h)))),
  .r (.l (.l (.l (.l .h)))) none (.ld (.s (.r (.r (.r .h)))))])
 (.blk (nat_lit 0) (.seq (.reg [.p (.l (.r (.l (.l .h)))) none (.cp .eql (.s (.l (.l (.l (.l .h))))) (.c (.a (.i .i64 (.n (nat_lit 1)))))),
  .p (.r (.l (.l (.l .h)))) none (.mv (.s (.l (.r (.l (.l .h))))))])
 (.cond (.s (.r (.l (.l (.l .h))))) (.seq (.reg [.p (.r (.r (.l (.l .h)))) none (.fa (nat_lit 2) (.s (.r (.r .h)))),
  .r (.l (.l (.r (.l .h)))) none (.ld (.s (.r (.r (.l (.l .h)))))),
  .p (.r (.l .h)) none (.mv (.s (.l (.l (.r (.l .h)))))),
  .p (.l (.r .h)) none (.mv (.c (.a (.b true))))])
 .rt) (.seq (.reg [.p (.l (.r (.r (.l .h)))) none (.cp .eql (.s (.l (.l (.l (.l .h))))) (.c (.a (.i .i64 (.n (nat_lit 2)))))),
  .p (.r (.l (.r (.l .h)))) none (.mv (.s (.l (.r (.r (.l .h))))))])
 (.cond (.s (.r (.l (.r (.l .h))))) (.seq (.drw [⟨.p (.r (.r (.r (.l .h)))) none (.mv (.s .h)), (nat_lit 0), [], []⟩,
  ⟨.p (.l (.l (.l (.r .h)))) none (.nc (.s (.r (.r (.r (.l .h)))))), (nat_lit 1), [(nat_lit 0)], []⟩,
  ⟨.p (.r (.l (.l (.r .h)))) none (.fa (nat_lit 11) (.s (.l (.l (.l (.r .h)))))), (nat_lit 2), [(nat_lit 0), (nat_lit 1)], []⟩,
  ⟨.r (.l (.r (.l (.r .h)))) none (.ld (.s (.r (.l (.l (.r .h)))))), (nat_lit 3), [(nat_lit 0), (nat_lit 1), (nat_lit 2)], []⟩,
  ⟨.p (.r (.r (.l (.r .h)))) none (.fa (nat_lit 1) (.s (.r (.r .h)))), (nat_lit 4), [], []⟩,
  ⟨.r (.l (.l (.r (.r .h)))) none (.ld (.s (.r (.r (.l (.r .h)))))), (nat_lit 5), [(nat_lit 4)], []⟩,
  ⟨.p (.r (.l (.r (.r .h)))) none (.ix (nat_lit 1) (.s (.l (.r (.l (.r .h))))) (.s (.l (.l (.r (.r .h)))))), (nat_lit 6), [(nat_lit 0), (nat_lit 1), (nat_lit 2), (nat_lit 3), (nat_lit 4), (nat_lit 5)], []⟩,
  ⟨.r (.l (.r (.r (.r .h)))) none (.ld (.s (.r (.l (.r (.r .h)))))), (nat_lit 7), [(nat_lit 0), (nat_lit 1), (nat_lit 2), (nat_lit 3), (nat_lit 4), (nat_lit 5), (nat_lit 6)], []⟩])
 (.cond (.s (.l (.r (.r (.r .h))))) (.seq (.drw [⟨.p (.r (.r (.r (.r .h)))) none (.mv (.s .h)), (nat_lit 0), [], []⟩,
  ⟨.p (.l (.l (.l (.l (.l .h))))) none (.nc (.s (.r (.r (.r (.r .h)))))), (nat_lit 1), [(nat_lit 0)], []⟩,
  ⟨.p (.r (.l (.l (.l (.l .h))))) none (.fa (nat_lit 10) (.s (.l (.l (.l (.l (.l .h))))))), (nat_lit 2), [(nat_lit 0), (nat_lit 1)], []⟩,
  ⟨.r (.l (.r (.l (.l (.l .h))))) none (.ld (.s (.r (.l (.l (.l (.l .h))))))), (nat_lit 3), [(nat_lit 0), (nat_lit 1), (nat_lit 2)], []⟩,
  ⟨.p (.r (.r (.l (.l (.l .h))))) none (.fa (nat_lit 1) (.s (.r (.r .h)))), (nat_lit 4), [], []⟩,
  ⟨.r (.l (.l (.r (.l (.l .h))))) none (.ld (.s (.r (.r (.l (.l (.l .h))))))), (nat_lit 5), [(nat_lit 4)], []⟩,
  ⟨.p (.r (.l (.r (.l (.l .h))))) none (.ix (nat_lit 1) (.s (.l (.r (.l (.l (.l .h)))))) (.s (.l (.l (.r (.l (.l .h))))))), (nat_lit 6), [(nat_lit 0), (nat_lit 1), (nat_lit 2), (nat_lit 3), (nat_lit 4), (nat_lit 5)], []⟩,
  ⟨.r (.l (.r (.r (.l (.l .h))))) none (.ld (.s (.r (.l (.r (.l (.l .h))))))), (nat_lit 7), [(nat_lit 0), (nat_lit 1), (nat_lit 2), (nat_lit 3), (nat_lit 4), (nat_lit 5), (nat_lit 6)], []⟩,
  ⟨.p (.r (.r (.r (.l (.l .h))))) none (.fa (nat_lit 2) (.s (.r (.r .h)))), (nat_lit 8), [], []⟩,
  ⟨.r (.l (.l (.l (.r (.l .h))))) none (.ld (.s (.r (.r (.r (.l (.l .h))))))), (nat_lit 9), [(nat_lit 8)], []⟩,
  ⟨.p (.r (.l (.l (.r (.l .h))))) none (.ar .add (.s (.l (.r (.r (.l (.l .h)))))) (.s (.l (.l (.l (.r (.l .h))))))), (nat_lit 10), [(nat_lit 0), (nat_lit 1), (nat_lit 2), (nat_lit 3), (nat_lit 4), (nat_lit 5), (nat_lit 6), (nat_lit 7), (nat_lit 8), (nat_lit 9)], []⟩,
  ⟨.p (.r (.l .h)) none (.mv (.s (.r (.l (.l (.r (.l .h))))))), (nat_lit 11), [(nat_lit 0), (nat_lit 1), (nat_lit 2), (nat_lit 3), (nat_lit 4), (nat_lit 5), (nat_lit 6), (nat_lit 7), (nat_lit 8), (nat_lit 9), (nat_lit 10)], []⟩,
  ⟨.p (.l (.r .h)) none (.mv (.c (.a (.b true)))), (nat_lit 12), [(nat_lit 0), (nat_lit 1), (nat_lit 2), (nat_lit 3), (nat_lit 4), (nat_lit 5), (nat_lit 6), (nat_lit 7), (nat_lit 8), (nat_lit 9), (nat_lit 10), (nat_lit 11)], []⟩])
 .rt) .skip)) (.seq (.reg [.p (.r (.r (.l (.r (.l .h))))) none (.cp .eql (.s (.l (.l (.l (.l .h))))) (.c (.a (.i .i64 (.n (nat_lit 3)))))),
  .p (.l (.r (.l (.r (.l .h))))) none (.mv (.s (.r (.r (.l (.r (.l .h)))))))])
 (.cond (.s (.l (.r (.l (.r (.l .h)))))) (.seq (.drw [⟨.p (.l (.l (.r (.r (.l .h))))) none (.mv (.s .h)), (nat_lit 0), [], []⟩,
  ⟨.p (.r (.l (.r (.r (.l .h))))) none (.nc (.s (.l (.l (.r (.r (.l .h))))))), (nat_lit 1), [(nat_lit 0)], []⟩,
  ⟨.p (.l (.r (.r (.r (.l .h))))) none (.fa (nat_lit 8) (.s (.r (.l (.r (.r (.l .h))))))), (nat_lit 2), [(nat_lit 0), (nat_lit 1)], []⟩,
  ⟨.r (.r (.r (.r (.r (.l .h))))) none (.ld (.s (.l (.r (.r (.r (.l .h))))))), (nat_lit 3), [(nat_lit 0), (nat_lit 1), (nat_lit 2)], []⟩,
  ⟨.p (.l (.l (.l (.l (.r .h))))) none (.fa (nat_lit 1) (.s (.r (.r .h)))), (nat_lit 4), [], []⟩,
  ⟨.r (.r (.l (.l (.l (.r .h))))) none (.ld (.s (.l (.l (.l (.l (.r .h))))))), (nat_lit 5), [(nat_lit 4)], []⟩,
  ⟨.p (.l (.r (.l (.l (.r .h))))) none (.ix (nat_lit 1) (.s (.r (.r (.r (.r (.l .h)))))) (.s (.r (.l (.l (.l (.r .h))))))), (nat_lit 6), [(nat_lit 0), (nat_lit 1), (nat_lit 2), (nat_lit 3), (nat_lit 4), (nat_lit 5)], []⟩,
  ⟨.r (.r (.r (.l (.l (.r .h))))) none (.ld (.s (.l (.r (.l (.l (.r .h))))))), (nat_lit 7), [(nat_lit 0), (nat_lit 1), (nat_lit 2), (nat_lit 3), (nat_lit 4), (nat_lit 5), (nat_lit 6)], []⟩,
  ⟨.p (.l (.l (.r (.l (.r .h))))) none (.fa (nat_lit 2) (.s (.r (.r .h)))), (nat_lit 8), [], []⟩,
  ⟨.r (.r (.l (.r (.l (.r .h))))) none (.ld (.s (.l (.l (.r (.l (.r .h))))))), (nat_lit 9), [(nat_lit 8)], []⟩,
  ⟨.p (.l (.r (.r (.l (.r .h))))) none (.ar .add (.s (.r (.r (.l (.l (.r .h)))))) (.s (.r (.l (.r (.l (.r .h))))))), (nat_lit 10), [(nat_lit 0), (nat_lit 1), (nat_lit 2), (nat_lit 3), (nat_lit 4), (nat_lit 5), (nat_lit 6), (nat_lit 7), (nat_lit 8), (nat_lit 9)], []⟩,
  ⟨.p (.r (.l .h)) none (.mv (.s (.l (.r (.r (.l (.r .h))))))), (nat_lit 11), [(nat_lit 0), (nat_lit 1), (nat_lit 2), (nat_lit 3), (nat_lit 4), (nat_lit 5), (nat_lit 6), (nat_lit 7), (nat_lit 8), (nat_lit 9), (nat_lit 10)], []⟩,
  ⟨.p (.l (.r .h)) none (.mv (.c (.a (.b true)))), (nat_lit 12), [(nat_lit 0), (nat_lit 1), (nat_lit 2), (nat_lit 3), (nat_lit 4), (nat_lit 5), (nat_lit 6), (nat_lit 7), (nat_lit 8), (nat_lit 9), (nat_lit 10), (nat_lit 11)], []⟩])
 .rt) .skip))))))))
 (.seq (.reg [.p (.r (.l .h)) none (.mv (.c (.a (.i .i64 (.n (nat_lit 0)))))),
  .p (.l (.r .h)) none (.mv (.c (.a (.b false))))])
 .rt))))⟩
noncomputable def site0 : Site := ⟨62, rfA (nav [1, 1, 1, 1, 1, 1, 0, 1, 0] (bodyOf Try.f57)), rfB (nav [1, 1, 1, 1, 1, 1, 0, 1, 0] (bodyOf Try.f57)), (.reg [.p (.l (.r .h)) none (.mv (.s (.r (.l (.r (.r (.l .h)))))))]), (.blk (nat_lit 1) (.drw [⟨.p (.l (.r (.r (.r (.l .h))))) none (.fa (nat_lit 0) (.s (.l (.l .h)))), (nat_lit 0), [], []⟩,
  ⟨.r (.r (.r (.r (.r (.l .h))))) none (.ld (.s (.l (.r (.r (.r (.l .h))))))), (nat_lit 1), [(nat_lit 0)], []⟩,
  ⟨.r (.l (.l (.l (.l (.r .h))))) none (.ld (.s (.l .h))), (nat_lit 2), [], []⟩,
  ⟨.p (.r (.l (.l (.l (.r .h))))) none (.mv (.s (.l (.r .h)))), (nat_lit 3), [], []⟩,
  ⟨.k (some (.l (.r (.l (.l (.r .h)))))) none (nat_lit 74) (.r (.r (.l (.r (.l (.l .h)))))) [(.s (.l (.l (.l (.l (.r .h)))))), (.s (.r (.l (.l (.l (.r .h))))))], (nat_lit 4), [(nat_lit 2), (nat_lit 3)], [false, true]⟩,
  ⟨.c (some (.r (.r (.l (.l (.r .h)))))) none (.ap (nat_lit 75) (nat_lit 3) (nat_lit 40) (.s (.r (.r (.r (.r (.l .h)))))) (.s (.l (.r (.l (.l (.r .h))))))), (nat_lit 5), [(nat_lit 0), (nat_lit 1), (nat_lit 2), (nat_lit 3), (nat_lit 4)], []⟩,
  ⟨.p (.l (.l (.r (.l (.r .h))))) none (.fa (nat_lit 0) (.s (.l (.l .h)))), (nat_lit 6), [(nat_lit 0), (nat_lit 1), (nat_lit 2), (nat_lit 3), (nat_lit 4), (nat_lit 5)], []⟩,
  ⟨.c none none (.st (nat_lit 1) (.s (.l (.l (.r (.l (.r .h)))))) (.s (.r (.r (.l (.l (.r .h))))))), (nat_lit 7), [(nat_lit 0), (nat_lit 1), (nat_lit 2), (nat_lit 3), (nat_lit 4), (nat_lit 5), (nat_lit 6)], []⟩]))⟩
noncomputable def site1 : Site := ⟨181, rfA (nav [1, 1, 1, 1, 1, 0, 1, 0] (bodyOf Try.f30)), rfB (nav [1, 1, 1, 1, 1, 0, 1, 0] (bodyOf Try.f30)), (.reg [.a (.r (.r .h)) none (.al (nat_lit 130) (nat_lit 4) (.n (.n (.n .e .s0 .e) (.i .i64 (.n (nat_lit 0))) .e) (.i .i64 (.n (nat_lit 0))) (.n .e (.i .i64 (.n (nat_lit 0))) .e))),
  .c none none (.st (nat_lit 4) (.s (.r (.r .h))) (.s (.l (.r (.l (.r (.l .h)))))))]), (.blk (nat_lit 3) (.seq (.drw [⟨.r (.r (.r (.l (.r (.l .h))))) none (.ld (.s (.l (.r .h)))), (nat_lit 0), [], []⟩,
  ⟨.p (.l (.l (.r (.r (.l .h))))) none (.fa (nat_lit 2) (.s (.r (.r .h)))), (nat_lit 1), [], []⟩,
  ⟨.p (.r (.l (.r (.r (.l .h))))) none (.fa (nat_lit 0) (.s (.l (.l (.r (.r (.l .h))))))), (nat_lit 2), [(nat_lit 1)], []⟩,
  ⟨.r (.l (.r (.r (.r (.l .h))))) none (.ld (.s (.r (.l (.r (.r (.l .h))))))), (nat_lit 3), [(nat_lit 1), (nat_lit 2)], []⟩,
  ⟨.r (.r (.r (.r (.r (.l .h))))) none (.ld (.s (.l (.r .h)))), (nat_lit 4), [], []⟩,
  ⟨.p (.l (.l (.l (.l (.r .h))))) none (.fa (nat_lit 2) (.s (.r (.r .h)))), (nat_lit 5), [], []⟩,
  ⟨.p (.r (.l (.l (.l (.r .h))))) none (.fa (nat_lit 0) (.s (.l (.l (.l (.l (.r .h))))))), (nat_lit 6), [(nat_lit 5)], []⟩,
  ⟨.r (.l (.r (.l (.l (.r .h))))) none (.ld (.s (.r (.l (.l (.l (.r .h))))))), (nat_lit 7), [(nat_lit 5), (nat_lit 6)], []⟩,
  ⟨.p (.r (.r (.l (.l (.r .h))))) none (.ix (nat_lit 1) (.s (.r (.r (.r (.r (.l .h)))))) (.s (.l (.r (.l (.l (.r .h))))))), (nat_lit 8), [(nat_lit 4), (nat_lit 5), (nat_lit 6), (nat_lit 7)], []⟩,
  ⟨.r (.l (.l (.r (.l (.r .h))))) none (.ld (.s (.r (.r (.l (.l (.r .h))))))), (nat_lit 9), [(nat_lit 4), (nat_lit 5), (nat_lit 6), (nat_lit 7), (nat_lit 8)], []⟩,
  ⟨.r (.r (.l (.r (.l (.r .h))))) none (.lg (nat_lit 4) (.s (.r (.r .h)))), (nat_lit 10), [], []⟩,
  ⟨.a (.l (.r (.r (.l (.r .h))))) none (.bs (nat_lit 130) (nat_lit 1) [(.i .i64 (.n (nat_lit 0))), (.i .i64 (.n (nat_lit 0))), (.i .i64 (.n (nat_lit 0))), .s0] [((nat_lit 0), (nat_lit 4), (.s (.r (.l (.r (.l (.r .h)))))))]), (nat_lit 11), [(nat_lit 10)], []⟩,
  ⟨.c (some (.r (.r (.r (.l (.r .h)))))) none (.ap (nat_lit 130) (nat_lit 4) (nat_lit 48) (.s (.l (.l (.r (.l (.r .h)))))) (.s (.l (.r (.r (.l (.r .h))))))), (nat_lit 12), [(nat_lit 4), (nat_lit 5), (nat_lit 6), (nat_lit 7), (nat_lit 8), (nat_lit 9), (nat_lit 10), (nat_lit 11)], [false, false, false, false, true, true]⟩,
  ⟨.p (.l (.l (.l (.r (.r .h))))) none (.ix (nat_lit 1) (.s (.r (.r (.l (.r (.l .h)))))) (.s (.l (.r (.r (.r (.l .h))))))), (nat_lit 13), [(nat_lit 0), (nat_lit 1), (nat_lit 2), (nat_lit 3), (nat_lit 4), (nat_lit 5), (nat_lit 6), (nat_lit 7), (nat_lit 8), (nat_lit 9), (nat_lit 10), (nat_lit 11), (nat_lit 12)], []⟩,
  ⟨.c none none (.st (nat_lit 1) (.s (.l (.l (.l (.r (.r .h)))))) (.s (.r (.r (.r (.l (.r .h))))))), (nat_lit 14), [(nat_lit 0), (nat_lit 1), (nat_lit 2), (nat_lit 3), (nat_lit 4), (nat_lit 5), (nat_lit 6), (nat_lit 7), (nat_lit 8), (nat_lit 9), (nat_lit 10), (nat_lit 11), (nat_lit 12), (nat_lit 13)], []⟩])
 (.seq (.reg [.p (.r (.l (.l (.r (.r .h))))) none (.fa (nat_lit 1) (.s (.r (.r .h)))),
  .r (.l (.r (.l (.r (.r .h))))) none (.ld (.s (.r (.l (.l (.r (.r .h))))))),
  .p (.r (.r (.l (.r (.r .h))))) none (.cp .gtr (.s (.l (.r (.l (.r (.r .h)))))) (.c (.a (.i .i64 (.n (nat_lit 0))))))])
 (.cond (.s (.r (.r (.l (.r (.r .h)))))) (.reg [.r (.l (.l (.r (.r (.r .h))))) none (.ld (.s (.l (.l .h)))),
  .p (.r (.l (.r (.r (.r .h))))) none (.fa (nat_lit 2) (.s (.r (.r .h)))),
  .p (.l (.r (.r (.r (.r .h))))) none (.fa (nat_lit 0) (.s (.r (.l (.r (.r (.r .h))))))),
  .r (.r (.r (.r (.r (.r .h))))) none (.ld (.s (.l (.r (.r (.r (.r .h))))))),
  .a (.l (.l (.l (.l (.l (.l .h)))))) none (.bs (nat_lit 3) (nat_lit 1) [(.i .i64 (.n (nat_lit 0)))] [((nat_lit 0), (nat_lit 1), (.c (.a (.i .i64 (.n (nat_lit 0))))))]),
  .v (some (.r (.l (.l (.l (.l (.l .h))))))) none (.s (.l (.l (.r (.r (.r .h)))))) [(.s (.r (.r (.r (.r (.r .h)))))), (.s (.l (.l (.l (.l (.l (.l .h)))))))]]) .skip))))⟩
noncomputable def site2 : Site := ⟨132, rfA (nav [1, 1, 0, 1, 0] (bodyOf Try.f29)), rfB (nav [1, 1, 0, 1, 0] (bodyOf Try.f29)), (.reg [.a (.r (.r .h)) none (.al (nat_lit 130) (nat_lit 4) (.n (.n (.n .e .s0 .e) (.i .i64 (.n (nat_lit 0))) .e) (.i .i64 (.n (nat_lit 0))) (.n .e (.i .i64 (.n (nat_lit 0))) .e))),
  .c none none (.st (nat_lit 4) (.s (.r (.r .h))) (.s (.r (.r (.l (.r (.r .h)))))))]), (.blk (nat_lit 5) (.seq (.reg [.p (.l (.l (.r (.r (.r .h))))) none (.fa (nat_lit 1) (.s (.r (.r .h)))),
  .r (.r (.l (.r (.r (.r .h))))) none (.ld (.s (.l (.l (.r (.r (.r .h))))))),
  .p (.l (.r (.r (.r (.r .h))))) none (.cp .gtr (.s (.r (.l (.r (.r (.r .h)))))) (.c (.a (.i .i64 (.n (nat_lit 0))))))])
 (.cond (.s (.l (.r (.r (.r (.r .h)))))) (.drw [⟨.r (.r (.r (.r (.r (.r .h))))) none (.ld (.s (.l .h))), (nat_lit 0), [], []⟩,
  ⟨.p (.l (.l (.l (.l (.l (.l .h)))))) none (.nc (.s (.r (.r (.r (.r (.r .h))))))), (nat_lit 1), [(nat_lit 0)], []⟩,
  ⟨.p (.r (.l (.l (.l (.l (.l .h)))))) none (.fa (nat_lit 5) (.s (.l (.l (.l (.l (.l (.l .h)))))))), (nat_lit 2), [(nat_lit 0), (nat_lit 1)], []⟩,
  ⟨.r (.l (.r (.l (.l (.l (.l .h)))))) none (.ld (.s (.r (.l (.l (.l (.l (.l .h)))))))), (nat_lit 3), [(nat_lit 0), (nat_lit 1), (nat_lit 2)], []⟩,
  ⟨.p (.r (.r (.l (.l (.l (.l .h)))))) none (.fa (nat_lit 2) (.s (.r (.r .h)))), (nat_lit 4), [], []⟩,
  ⟨.p (.l (.l (.r (.l (.l (.l .h)))))) none (.fa (nat_lit 0) (.s (.r (.r (.l (.l (.l (.l .h)))))))), (nat_lit 5), [(nat_lit 4)], []⟩,
  ⟨.r (.r (.l (.r (.l (.l (.l .h)))))) none (.ld (.s (.l (.l (.r (.l (.l (.l .h)))))))), (nat_lit 6), [(nat_lit 4), (nat_lit 5)], []⟩,
  ⟨.p (.l (.r (.r (.l (.l (.l .h)))))) none (.ix (nat_lit 1) (.s (.l (.r (.l (.l (.l (.l .h))))))) (.s (.r (.l (.r (.l (.l (.l .h)))))))), (nat_lit 7), [(nat_lit 0), (nat_lit 1), (nat_lit 2), (nat_lit 3), (nat_lit 4), (nat_lit 5), (nat_lit 6)], []⟩,
  ⟨.r (.r (.r (.r (.l (.l (.l .h)))))) none (.ld (.s (.l (.r (.r (.l (.l (.l .h)))))))), (nat_lit 8), [(nat_lit 0), (nat_lit 1), (nat_lit 2), (nat_lit 3), (nat_lit 4), (nat_lit 5), (nat_lit 6), (nat_lit 7)], []⟩,
  ⟨.p (.l (.l (.l (.r (.l (.l .h)))))) none (.ix (nat_lit 1) (.s (.r (.r (.r (.l (.l (.l .h))))))) (.c (.a (.i .i64 (.n (nat_lit 0)))))), (nat_lit 9), [(nat_lit 0), (nat_lit 1), (nat_lit 2), (nat_lit 3), (nat_lit 4), (nat_lit 5), (nat_lit 6), (nat_lit 7), (nat_lit 8)], []⟩,
  ⟨.c none none (.st (nat_lit 1) (.s (.l (.l (.l (.r (.l (.l .h))))))) (.c (.a (.i .i64 (.g (nat_lit 0)))))), (nat_lit 10), [(nat_lit 0), (nat_lit 1), (nat_lit 2), (nat_lit 3), (nat_lit 4), (nat_lit 5), (nat_lit 6), (nat_lit 7), (nat_lit 8), (nat_lit 9)], []⟩]) .skip)))⟩
noncomputable def site3 : Site := ⟨132, rfA (nav [1, 1, 1, 1, 0, 0, 1, 0, 0, 1, 1, 0] (bodyOf Try.f29)), rfB (nav [1, 1, 1, 1, 0, 0, 1, 0, 0, 1, 1, 0] (bodyOf Try.f29)), (.reg [.a (.r (.l (.l .h))) none (.al (nat_lit 130) (nat_lit 4) (.n (.n (.n .e .s0 .e) (.i .i64 (.n (nat_lit 0))) .e) (.i .i64 (.n (nat_lit 0))) (.n .e (.i .i64 (.n (nat_lit 0))) .e))),
  .c none none (.st (nat_lit 4) (.s (.r (.l (.l .h)))) (.s (.r (.r (.r (.r (.l (.l .h))))))))]), (.blk (nat_lit 9) (.seq (.reg [.p (.l (.l (.l (.l (.r (.l .h)))))) none (.fa (nat_lit 2) (.s (.r (.l (.l .h))))),
  .p (.r (.l (.l (.l (.r (.l .h)))))) none (.fa (nat_lit 1) (.s (.l (.l (.l (.l (.r (.l .h)))))))),
  .r (.l (.r (.l (.l (.r (.l .h)))))) none (.ld (.s (.r (.l (.l (.l (.r (.l .h)))))))),
  .p (.r (.r (.l (.l (.r (.l .h)))))) none (.ln (.s (.l (.r (.l (.l (.r (.l .h)))))))),
  .p (.l (.l (.r (.l (.r (.l .h)))))) none (.mv (.c (.a (.i .i64 (.n (nat_lit 0))))))])
 (.blk (nat_lit 10) (.loop (.seq (.reg [.p (.r (.l (.r (.l (.r (.l .h)))))) none (.cp .lss (.s (.l (.l (.r (.l (.r (.l .h))))))) (.s (.r (.r (.l (.l (.r (.l .h))))))))])
 (.seq (.cond (.s (.r (.l (.r (.l (.r (.l .h))))))) .skip (.ex (nat_lit 10)))
 (.seq (.blk (nat_lit 11) (.seq (.reg [.p (.l (.r (.r (.l (.r (.l .h)))))) none (.mv (.s (.l (.l (.r (.l (.r (.l .h)))))))),
  .p (.r (.r (.r (.l (.r (.l .h)))))) none (.ix (nat_lit 1) (.s (.l (.r (.l (.l (.r (.l .h))))))) (.s (.l (.l (.r (.l (.r (.l .h)))))))),
  .r (.l (.l (.l (.r (.r (.l .h)))))) none (.ld (.s (.r (.r (.r (.l (.r (.l .h)))))))),
  .p (.l (.r (.l .h))) none (.mv (.s (.l (.r (.r (.l (.r (.l .h)))))))),
  .p (.r (.r (.l .h))) none (.mv (.s (.l (.l (.l (.r (.r (.l .h))))))))])
 (.seq (.drw [⟨.r (.r (.l (.l (.r (.r (.l .h)))))) none (.ld (.s (.l .h))), (nat_lit 0), [], []⟩,
  ⟨.p (.l (.r (.l (.r (.r (.l .h)))))) none (.nc (.s (.r (.l (.l (.r (.r (.l .h)))))))), (nat_lit 1), [(nat_lit 0)], []⟩,
  ⟨.p (.r (.r (.l (.r (.r (.l .h)))))) none (.fa (nat_lit 5) (.s (.l (.r (.l (.r (.r (.l .h)))))))), (nat_lit 2), [(nat_lit 0), (nat_lit 1)], []⟩,
  ⟨.r (.l (.l (.r (.r (.r (.l .h)))))) none (.ld (.s (.r (.r (.l (.r (.r (.l .h)))))))), (nat_lit 3), [(nat_lit 0), (nat_lit 1), (nat_lit 2)], []⟩,
  ⟨.p (.r (.l (.r (.r (.r (.l .h)))))) none (.fa (nat_lit 2) (.s (.r (.l (.l .h))))), (nat_lit 4), [], []⟩,
  ⟨.p (.l (.r (.r (.r (.r (.l .h)))))) none (.fa (nat_lit 0) (.s (.r (.l (.r (.r (.r (.l .h)))))))), (nat_lit 5), [(nat_lit 4)], []⟩,
  ⟨.r (.r (.r (.r (.r (.r (.l .h)))))) none (.ld (.s (.l (.r (.r (.r (.r (.l .h)))))))), (nat_lit 6), [(nat_lit 4), (nat_lit 5)], []⟩,
  ⟨.p (.l (.l (.l (.l (.l (.r .h)))))) none (.ix (nat_lit 1) (.s (.l (.l (.r (.r (.r (.l .h))))))) (.s (.r (.r (.r (.r (.r (.l .h)))))))), (nat_lit 7), [(nat_lit 0), (nat_lit 1), (nat_lit 2), (nat_lit 3), (nat_lit 4), (nat_lit 5), (nat_lit 6)], []⟩,
  ⟨.r (.r (.l (.l (.l (.l (.r .h)))))) none (.ld (.s (.l (.l (.l (.l (.l (.r .h)))))))), (nat_lit 8), [(nat_lit 0), (nat_lit 1), (nat_lit 2), (nat_lit 3), (nat_lit 4), (nat_lit 5), (nat_lit 6), (nat_lit 7)], []⟩,
  ⟨.p (.l (.r (.l (.l (.l (.r .h)))))) none (.fa (nat_lit 1) (.s (.r (.l (.l .h))))), (nat_lit 9), [], []⟩,
  ⟨.r (.r (.r (.l (.l (.l (.r .h)))))) none (.ld (.s (.l (.r (.l (.l (.l (.r .h)))))))), (nat_lit 10), [(nat_lit 9)], []⟩,
  ⟨.p (.l (.l (.r (.l (.l (.r .h)))))) none (.mv (.s (.l (.r (.l .h))))), (nat_lit 11), [], []⟩,
  ⟨.p (.r (.l (.r (.l (.l (.r .h)))))) none (.ar .add (.s (.r (.r (.l (.l (.l (.r .h))))))) (.s (.l (.l (.r (.l (.l (.r .h)))))))), (nat_lit 12), [(nat_lit 9), (nat_lit 10), (nat_lit 11)], []⟩,
  ⟨.p (.l (.r (.r (.l (.l (.r .h)))))) none (.ix (nat_lit 1) (.s (.r (.l (.l (.l (.l (.r .h))))))) (.s (.r (.l (.r (.l (.l (.r .h)))))))), (nat_lit 13), [(nat_lit 0), (nat_lit 1), (nat_lit 2), (nat_lit 3), (nat_lit 4), (nat_lit 5), (nat_lit 6), (nat_lit 7), (nat_lit 8), (nat_lit 9), (nat_lit 10), (nat_lit 11), (nat_lit 12)], []⟩,
  ⟨.p (.l (.l (.r .h))) none (.mv (.s (.l (.r (.r (.l (.l (.r .h)))))))), (nat_lit 14), [(nat_lit 0), (nat_lit 1), (nat_lit 2), (nat_lit 3), (nat_lit 4), (nat_lit 5), (nat_lit 6), (nat_lit 7), (nat_lit 8), (nat_lit 9), (nat_lit 10), (nat_lit 11), (nat_lit 12), (nat_lit 13)], []⟩])
 (.seq (.reg [.r (.r (.r (.r (.l (.l (.r .h)))))) none (.ld (.s (.l .h))),
  .p (.l (.l (.l (.r (.l (.r .h)))))) none (.fa (nat_lit 0) (.s (.r (.l (.l .h))))),
  .r (.r (.l (.l (.r (.l (.r .h)))))) none (.ld (.s (.l (.l (.l (.r (.l (.r .h)))))))),
  .p (.l (.r (.l (.r (.l (.r .h)))))) none (.mv (.s (.r (.r (.l .h))))),
  .p (.r (.r (.l (.r (.l (.r .h)))))) none (.bd [(.i .i64 (.n (nat_lit 0))), (.i .i64 (.n (nat_lit 0)))] [((nat_lit 0), (nat_lit 1), (.s (.r (.l (.l (.r (.l (.r .h)))))))), ((nat_lit 1), (nat_lit 1), (.s (.l (.r (.l (.r (.l (.r .h))))))))]),
  .k (some (.l (.l (.r (.r (.l (.r .h))))))) none (nat_lit 45) (.l (.r (.r (.r (.l .h))))) [(.s (.r (.r (.r (.l (.l (.r .h))))))), (.s (.r (.r (.l (.r (.l (.r .h)))))))],
  .p (.r (.l (.r .h))) none (.mv (.s (.l (.l (.r (.r (.l (.r .h))))))))])
 (.seq (.seq (.reg [.p (.r (.l (.r (.r (.l (.r .h)))))) none (.mv (.s (.r (.l (.r .h))))),
  .p (.l (.r (.r (.r (.l (.r .h)))))) none (.cp .eql (.s (.r (.l (.r (.r (.l (.r .h))))))) (.c (.a (.i .i64 (.g (nat_lit 1)))))),
  .p (.r (.r (.r (.r (.l (.r .h)))))) none (.mv (.s (.l (.r (.r (.r (.l (.r .h)))))))),
  .p (.l (.l (.l (.l (.r (.r .h)))))) (some ((.r (.r (.r (.r (.l (.r .h)))))), false)) (.mv (.s (.r (.l (.r .h))))),
  .p (.r (.l (.l (.l (.r (.r .h)))))) (some ((.r (.r (.r (.r (.l (.r .h)))))), false)) (.mv (.s (.l (.l (.r .h))))),
  .p (.l (.r (.l (.l (.r (.r .h)))))) (some ((.r (.r (.r (.r (.l (.r .h)))))), false)) (.nc (.s (.r (.l (.l (.l (.r (.r .h)))))))),
  .r (.r (.r (.l (.l (.r (.r .h)))))) (some ((.r (.r (.r (.r (.l (.r .h)))))), false)) (.ld (.s (.l (.r (.l (.l (.r (.r .h)))))))),
  .p (.l (.l (.r (.l (.r (.r .h)))))) (some ((.r (.r (.r (.r (.l (.r .h)))))), false)) (.cp .eql (.s (.l (.l (.l (.l (.r (.r .h))))))) (.s (.r (.r (.l (.l (.r (.r .h)))))))),
  .p (.r (.l (.r (.l (.r (.r .h)))))) none (.pk (.s (.r (.r (.r (.r (.l (.r .h))))))) (.c (.a (.b true))) (.s (.l (.l (.r (.l (.r (.r .h)))))))),
  .p (.l (.r (.r (.l (.r (.r .h)))))) none (.mv (.s (.r (.l (.r (.l (.r (.r .h)))))))),
  .p (.r (.r (.r (.l (.r (.r .h)))))) (some ((.l (.r (.r (.l (.r (.r .h)))))), false)) (.mv (.s (.l (.l (.r .h))))),
  .p (.l (.l (.l (.r (.r (.r .h)))))) (some ((.l (.r (.r (.l (.r (.r .h)))))), false)) (.nc (.s (.r (.r (.r (.l (.r (.r .h)))))))),
  .r (.r (.l (.l (.r (.r (.r .h)))))) (some ((.l (.r (.r (.l (.r (.r .h)))))), false)) (.ld (.s (.l (.l (.l (.r (.r (.r .h)))))))),
  .p (.l (.r (.l (.r (.r (.r .h)))))) (some ((.l (.r (.r (.l (.r (.r .h)))))), false)) (.cp .eql (.s (.r (.l (.l (.r (.r (.r .h))))))) (.c (.a (.i .i64 (.g (nat_lit 0)))))),
  .p (.r (.r (.l (.r (.r (.r .h)))))) none (.pk (.s (.l (.r (.r (.l (.r (.r .h))))))) (.c (.a (.b true))) (.s (.l (.r (.l (.r (.r (.r .h))))))))])
 (.cond (.s (.r (.r (.l (.r (.r (.r .h))))))) (.ex (nat_lit 11)) .skip))
 (.seq (.seq (.reg [.p (.l (.l (.r (.r (.r (.r .h)))))) none (.mv (.s (.l (.l (.r .h))))),
  .p (.r (.l (.r (.r (.r (.r .h)))))) none (.nc (.s (.l (.l (.r (.r (.r (.r .h)))))))),
  .r (.l (.r (.r (.r (.r (.r .h)))))) none (.ld (.s (.r (.l (.r (.r (.r (.r .h)))))))),
  .p (.r (.r (.r (.r (.r (.r .h)))))) none (.cp .neq (.s (.l (.r (.r (.r (.r (.r .h))))))) (.c (.a (.i .i64 (.g (nat_lit 1))))))])
 (.cond (.s (.r (.r (.r (.r (.r (.r .h))))))) (.reg [.p (.r (.l (.r .h))) none (.mv (.c (.a (.i .i64 (.g (nat_lit 0))))))]) .skip))
 (.seq (.reg [.p (.l (.l (.l (.l (.l (.l (.l .h))))))) none (.mv (.s (.l (.l (.r .h))))),
  .p (.r (.l (.l (.l (.l (.l (.l .h))))))) none (.mv (.s (.r (.l (.r .h))))),
  .p (.l (.r (.l (.l (.l (.l (.l .h))))))) none (.nc (.s (.l (.l (.l (.l (.l (.l (.l .h))))))))),
  .c none none (.st (nat_lit 1) (.s (.l (.r (.l (.l (.l (.l (.l .h)))))))) (.s (.r (.l (.l (.l (.l (.l (.l .h)))))))))])
 (.reg [.c none none (.st (nat_lit 1) (.s (.l (.l (.l .h)))) (.c (.a (.b true))))]))))))))
 (.reg [.p (.r (.r (.l (.l (.l (.l (.l .h))))))) none (.ar .add (.s (.l (.l (.r (.l (.r (.l .h))))))) (.c (.a (.i .i64 (.n (nat_lit 1)))))),
  .p (.l (.l (.r (.l (.r (.l .h)))))) none (.mv (.s (.r (.r (.l (.l (.l (.l (.l .h)))))))))]))))))))⟩
noncomputable def site4 : Site := ⟨48, rfA (nav [1, 0, 1, 0] (bodyOf Try.f43)), rfB (nav [1, 0, 1, 0] (bodyOf Try.f43)), (.reg [.p (.r (.l .h)) none (.mv (.s (.r (.r (.l .h)))))]), (.blk (nat_lit 1) (.reg [.r (.l (.l (.r .h))) none (.lg (nat_lit 2) (.s (.r .h))),
  .p (.r (.l (.r .h))) none (.mv (.s (.r (.l .h)))),
  .k (some (.l (.r (.r .h)))) none (nat_lit 66) (.r (.r (.l (.l (.l (.l .h)))))) [(.s (.l (.l (.r .h)))), (.s (.r (.l (.r .h))))]]))⟩
noncomputable def site5 : Site := ⟨121, rfA (nav [1, 0, 1, 0] (bodyOf Try.f41)), rfB (nav [1, 0, 1, 0] (bodyOf Try.f41)), (.reg [.p (.r (.l .h)) none (.mv (.s (.l (.l (.r .h)))))]), (.blk (nat_lit 1) (.reg [.r (.r (.l (.r .h))) none (.lg (nat_lit 2) (.s (.r .h))),
  .p (.l (.r (.r .h))) none (.mv (.s (.r (.l .h)))),
  .k (some (.r (.r (.r .h)))) none (nat_lit 66) (.r (.r (.l (.l (.l (.l .h)))))) [(.s (.r (.l (.r .h)))), (.s (.l (.r (.r .h))))]]))⟩
end
end Go.Proofs.Ytgnomdhaibigiaa
