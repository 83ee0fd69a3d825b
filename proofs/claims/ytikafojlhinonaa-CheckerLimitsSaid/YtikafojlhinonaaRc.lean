/- The tables of functions and of sites. -/
import Derived.Test.YtikafojlhinonaaRc0
import Derived.Test.YtikafojlhinonaaRc1
set_option linter.unusedVariables false
set_option maxRecDepth 100000
namespace Go.Proofs.Ytikafojlhinonaa
open Go.Ev
noncomputable section
noncomputable def tab : T (Option RF) := (.n (.n (.n (.n (.n (.n .e (some rf31) .e) (some rf15) (.n (.n .e (some rf79) .e) none .e)) (some rf7) (.n (.n (.n .e (some rf71) .e) none .e) none (.n (.n .e (some rf87) .e) (some rf55) .e))) (some rf3) (.n (.n (.n .e (some rf35) .e) (some rf19) (.n (.n .e (some rf83) .e) none .e)) none (.n .e (some rf27) (.n (.n .e (some rf91) .e) (some rf59) .e)))) none (.n (.n (.n (.n .e (some rf33) .e) (some rf17) (.n (.n .e (some rf81) .e) none .e)) (some rf9) (.n (.n (.n .e (some rf73) .e) none .e) none (.n (.n .e (some rf89) .e) (some rf57) .e))) (some rf5) (.n (.n (.n (.n .e (some rf69) .e) (some rf37) .e) none (.n (.n .e (some rf85) .e) (some rf53) .e)) none (.n .e (some rf29) (.n (.n .e (some rf93) .e) (some rf61) .e))))) none (.n (.n (.n (.n (.n .e (some rf32) .e) (some rf16) (.n (.n .e (some rf80) .e) none .e)) (some rf8) (.n (.n (.n .e (some rf72) .e) none .e) none (.n (.n .e (some rf88) .e) (some rf56) .e))) none (.n (.n (.n .e (some rf36) .e) (some rf20) (.n (.n .e (some rf84) .e) none .e)) none (.n .e (some rf28) (.n (.n .e (some rf92) .e) (some rf60) .e)))) none (.n (.n (.n (.n .e (some rf34) .e) (some rf18) (.n (.n .e (some rf82) .e) none .e)) (some rf10) (.n .e none (.n (.n .e (some rf90) .e) (some rf58) .e))) (some rf6) (.n (.n (.n (.n .e (some rf70) .e) (some rf38) .e) none (.n (.n .e (some rf86) .e) (some rf54) .e)) none (.n .e (some rf30) .e)))))
noncomputable def sites : T (Option Site) := .e
end
end Go.Proofs.Ytikafojlhinonaa
