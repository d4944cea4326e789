/- Texts of a proof. -/
import Derived.Test.YtekjdeibnfaehaaGreatKDbh
set_option linter.unusedSimpArgs false
set_option linter.unusedVariables false
namespace Go.Proofs.YtekjdeibnfaehaaGreat
open Go Go.RowKit
section
variable{n:Nat}{W:WD}{G:Gh}
end
end Go.Proofs.YtekjdeibnfaehaaGreat
