/- More and CRC: the register goes four bits at a time. -/
import Derived.Test.YthdjddpomaendaaGreatB1
namespace Go.Proofs.YthdjddpomaendaaGreat.B
open Go.RowKit
set_option linter.unusedVariables false
set_option linter.unusedSimpArgs false

end Go.Proofs.YthdjddpomaendaaGreat.B
