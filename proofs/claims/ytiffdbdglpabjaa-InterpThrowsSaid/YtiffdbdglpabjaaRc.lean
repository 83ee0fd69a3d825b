/- The tables of functions and of sites. -/
import Derived.Test.YtiffdbdglpabjaaRc0
import Derived.Test.YtiffdbdglpabjaaRc1
import Derived.Test.YtiffdbdglpabjaaRc2
set_option linter.unusedVariables false
set_option maxRecDepth 100000
namespace Go.Proofs.Ytiffdbdglpabjaa
open Go.Ev
noncomputable section
noncomputable def tab : T (Option RF) := (.n (.n (.n (.n (.n (.n (.n .e (some rf63) .e) (some rf31) .e) (some rf15) (.n .e (some rf47) .e)) (some rf7) (.n (.n (.n .e (some rf71) .e) (some rf39) .e) (some rf23) (.n .e (some rf55) .e))) (some rf3) (.n (.n (.n (.n .e (some rf67) .e) (some rf35) .e) (some rf19) (.n .e (some rf51) .e)) (some rf11) (.n (.n .e (some rf43) .e) (some rf27) (.n .e (some rf59) .e)))) none (.n (.n (.n (.n (.n .e (some rf65) .e) (some rf33) .e) (some rf17) (.n .e (some rf49) .e)) (some rf9) (.n (.n .e (some rf41) .e) (some rf25) (.n .e (some rf57) .e))) (some rf5) (.n (.n (.n (.n .e (some rf69) .e) (some rf37) .e) (some rf21) (.n .e (some rf53) .e)) (some rf13) (.n (.n .e (some rf45) .e) (some rf29) (.n .e (some rf61) .e))))) none (.n (.n (.n (.n (.n (.n .e (some rf64) .e) (some rf32) .e) (some rf16) (.n .e (some rf48) .e)) (some rf8) (.n (.n .e (some rf40) .e) (some rf24) (.n .e (some rf56) .e))) (some rf4) (.n (.n (.n (.n .e (some rf68) .e) (some rf36) .e) (some rf20) (.n .e (some rf52) .e)) (some rf12) (.n (.n .e (some rf44) .e) (some rf28) (.n .e (some rf60) .e)))) none (.n (.n (.n (.n (.n .e (some rf66) .e) (some rf34) .e) (some rf18) (.n .e (some rf50) .e)) (some rf10) (.n (.n .e (some rf42) .e) (some rf26) (.n .e (some rf58) .e))) (some rf6) (.n (.n (.n (.n .e (some rf70) .e) (some rf38) .e) (some rf22) (.n .e (some rf54) .e)) (some rf14) (.n (.n .e (some rf46) .e) (some rf30) (.n .e (some rf62) .e))))))
noncomputable def sites : T (Option Site) := (.n .e (some site0) .e)
end
end Go.Proofs.Ytiffdbdglpabjaa
