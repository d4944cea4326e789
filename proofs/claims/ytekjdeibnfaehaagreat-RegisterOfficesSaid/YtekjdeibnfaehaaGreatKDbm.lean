/- Texts of a proof. -/
import Derived.Test.YtekjdeibnfaehaaGreatKDaq
set_option linter.unusedSimpArgs false
set_option linter.unusedVariables false
namespace Go.Proofs.YtekjdeibnfaehaaGreat
open Go Go.RowKit
end Go.Proofs.YtekjdeibnfaehaaGreat
