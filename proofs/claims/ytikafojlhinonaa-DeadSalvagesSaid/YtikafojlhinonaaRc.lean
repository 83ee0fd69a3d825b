/- The tables of functions and of sites. -/
import Derived.Test.YtikafojlhinonaaRc0
import Derived.Test.YtikafojlhinonaaRc1
set_option linter.unusedVariables false
set_option maxRecDepth 100000
namespace Go.Proofs.Ytikafojlhinonaa
open Go.Ev
noncomputable section
noncomputable def tab : T (Option RF) := (.n (.n (.n (.n (.n (.n (.n .e (some rf63) .e) none .e) none (.n .e (some rf47) .e)) none (.n (.n .e (some rf39) .e) (some rf23) .e)) none (.n (.n (.n (.n .e (some rf67) .e) none .e) none (.n .e (some rf51) .e)) (some rf11) (.n (.n (.n .e (some rf75) .e) (some rf43) .e) none .e))) none (.n (.n (.n (.n (.n .e (some rf65) .e) none .e) none (.n .e (some rf49) .e)) none (.n (.n .e (some rf41) .e) (some rf25) .e)) none (.n (.n .e (some rf21) .e) (some rf13) (.n (.n (.n .e (some rf77) .e) (some rf45) .e) none .e)))) none (.n (.n (.n (.n (.n (.n .e (some rf64) .e) none .e) none (.n .e (some rf48) .e)) none (.n (.n .e (some rf40) .e) (some rf24) .e)) (some rf4) (.n (.n (.n (.n .e (some rf68) .e) none .e) none (.n .e (some rf52) .e)) (some rf12) (.n (.n (.n .e (some rf76) .e) (some rf44) .e) none .e))) none (.n (.n (.n (.n (.n .e (some rf66) .e) none .e) none (.n .e (some rf50) .e)) none (.n (.n (.n .e (some rf74) .e) (some rf42) .e) (some rf26) .e)) none (.n (.n .e (some rf22) .e) (some rf14) (.n (.n (.n .e (some rf78) .e) (some rf46) .e) none (.n .e (some rf62) .e))))))
noncomputable def sites : T (Option Site) := (.n (.n .e (some site1) .e) (some site0) (.n .e (some site2) .e))
end
end Go.Proofs.Ytikafojlhinonaa
