/- The tables of functions and of sites. -/
import Derived.Test.YtgnomdhaibigiaaRc0
import Derived.Test.YtgnomdhaibigiaaRc1
import Derived.Test.YtgnomdhaibigiaaRc2
import Derived.Test.YtgnomdhaibigiaaRc3
set_option linter.unusedVariables false
set_option maxRecDepth 100000
namespace Go.Proofs.Ytgnomdhaibigiaa
open Go.Ev
noncomputable section
noncomputable def tab : T (Option RF) := (.n (.n (.n (.n (.n (.n (.n .e (some rf63) .e) (some rf31) (.n .e (some rf95) .e)) (some rf15) (.n (.n .e (some rf79) .e) (some rf47) .e)) (some rf7) (.n (.n (.n .e (some rf71) .e) (some rf39) .e) (some rf23) (.n (.n .e (some rf87) .e) (some rf55) .e))) (some rf3) (.n (.n (.n (.n .e (some rf67) .e) (some rf35) .e) (some rf19) (.n (.n .e (some rf83) .e) (some rf51) .e)) (some rf11) (.n (.n (.n .e (some rf75) .e) (some rf43) .e) (some rf27) (.n (.n .e (some rf91) .e) (some rf59) .e)))) none (.n (.n (.n (.n (.n .e (some rf65) .e) (some rf33) .e) (some rf17) (.n (.n .e (some rf81) .e) (some rf49) .e)) (some rf9) (.n (.n (.n .e (some rf73) .e) (some rf41) .e) (some rf25) (.n (.n .e (some rf89) .e) (some rf57) .e))) (some rf5) (.n (.n (.n (.n .e (some rf69) .e) (some rf37) .e) (some rf21) (.n (.n .e (some rf85) .e) (some rf53) .e)) (some rf13) (.n (.n (.n .e (some rf77) .e) (some rf45) .e) (some rf29) (.n (.n .e (some rf93) .e) (some rf61) .e))))) none (.n (.n (.n (.n (.n (.n .e (some rf64) .e) (some rf32) .e) (some rf16) (.n (.n .e (some rf80) .e) (some rf48) .e)) (some rf8) (.n (.n (.n .e (some rf72) .e) (some rf40) .e) (some rf24) (.n (.n .e (some rf88) .e) (some rf56) .e))) (some rf4) (.n (.n (.n (.n .e (some rf68) .e) (some rf36) .e) (some rf20) (.n (.n .e (some rf84) .e) (some rf52) .e)) (some rf12) (.n (.n (.n .e (some rf76) .e) (some rf44) .e) (some rf28) (.n (.n .e (some rf92) .e) (some rf60) .e)))) none (.n (.n (.n (.n (.n .e (some rf66) .e) (some rf34) .e) (some rf18) (.n (.n .e (some rf82) .e) (some rf50) .e)) (some rf10) (.n (.n (.n .e (some rf74) .e) (some rf42) .e) (some rf26) (.n (.n .e (some rf90) .e) (some rf58) .e))) (some rf6) (.n (.n (.n (.n .e (some rf70) .e) (some rf38) .e) (some rf22) (.n (.n .e (some rf86) .e) (some rf54) .e)) (some rf14) (.n (.n (.n .e (some rf78) .e) (some rf46) .e) (some rf30) (.n (.n .e (some rf94) .e) (some rf62) .e))))))
noncomputable def sites : T (Option Site) := (.n (.n (.n .e (some site3) .e) (some site1) (.n .e (some site5) .e)) (some site0) (.n (.n .e (some site4) .e) (some site2) .e))
end
end Go.Proofs.Ytgnomdhaibigiaa
