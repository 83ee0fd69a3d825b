/- The tables of functions and of sites. -/
import Derived.Test.YtkljfafphnohoaaRc0
import Derived.Test.YtkljfafphnohoaaRc1
set_option linter.unusedVariables false
set_option maxRecDepth 100000
namespace Go.Proofs.Ytkljfafphnohoaa
open Go.Ev
noncomputable section
noncomputable def tab : T (Option RF) := (.n (.n (.n (.n (.n (.n (.n .e (some rf63) (.n .e (some rf191) .e)) (some rf31) .e) none (.n (.n (.n .e (some rf143) .e) none .e) none .e)) (some rf7) (.n (.n .e (some rf39) .e) (some rf23) .e)) (some rf3) (.n (.n (.n (.n .e (some rf67) .e) (some rf35) (.n .e (some rf99) .e)) (some rf19) (.n (.n (.n .e (some rf147) .e) none .e) none (.n (.n .e (some rf179) .e) none .e))) none .e)) none (.n (.n (.n (.n (.n .e (some rf65) .e) (some rf33) (.n .e (some rf97) .e)) none (.n (.n (.n .e (some rf145) .e) none .e) none (.n (.n .e (some rf177) .e) none .e))) (some rf9) (.n (.n .e (some rf41) .e) none .e)) none (.n (.n (.n (.n .e (some rf69) .e) (some rf37) (.n .e (some rf101) .e)) (some rf21) (.n (.n (.n .e (some rf149) .e) none .e) none .e)) none (.n .e none (.n .e (some rf61) .e))))) none (.n (.n (.n (.n (.n (.n .e (some rf64) (.n .e (some rf192) .e)) (some rf32) .e) none (.n (.n (.n .e (some rf144) .e) none .e) none (.n (.n .e (some rf176) .e) none .e))) (some rf8) (.n (.n .e (some rf40) .e) none .e)) none (.n (.n (.n (.n .e (some rf68) .e) (some rf36) (.n .e (some rf100) .e)) (some rf20) (.n (.n (.n .e (some rf148) .e) none .e) none .e)) none .e)) none (.n (.n (.n (.n (.n .e (some rf66) (.n .e (some rf194) .e)) (some rf34) (.n .e (some rf98) .e)) (some rf18) (.n (.n (.n .e (some rf146) .e) none .e) none (.n (.n .e (some rf178) .e) none .e))) none (.n (.n .e (some rf42) .e) none .e)) (some rf6) (.n (.n (.n .e (some rf38) .e) (some rf22) .e) none (.n (.n (.n (.n .e (some rf142) .e) none .e) none .e) none (.n .e (some rf62) .e))))))
noncomputable def sites : T (Option Site) := .e
end
end Go.Proofs.Ytkljfafphnohoaa
