/- What else the proof needs. -/
import Derived.Test.YtekjdeibnfaehaaGreatKAaa
import Derived.Test.YtekjdeibnfaehaaGreatKAab
import Derived.Test.YtekjdeibnfaehaaGreatKAac
import Derived.Test.YtekjdeibnfaehaaGreatKAad
import Derived.Test.YtekjdeibnfaehaaGreatKAae
import Derived.Test.YtekjdeibnfaehaaGreatKAaf
import Derived.Test.YtekjdeibnfaehaaGreatKAag
import Derived.Test.YtekjdeibnfaehaaGreatKAah
import Derived.Test.YtekjdeibnfaehaaGreatKAai
import Derived.Test.YtekjdeibnfaehaaGreatKAaj
import Derived.Test.YtekjdeibnfaehaaGreatKAak
import Derived.Test.YtekjdeibnfaehaaGreatKAal
import Derived.Test.YtekjdeibnfaehaaGreatKAam
import Derived.Test.YtekjdeibnfaehaaGreatKAan
import Derived.Test.YtekjdeibnfaehaaGreatKAao
import Derived.Test.YtekjdeibnfaehaaGreatKAap
import Derived.Test.YtekjdeibnfaehaaGreatKAaq
import Derived.Test.YtekjdeibnfaehaaGreatKAar
import Derived.Test.YtekjdeibnfaehaaGreatKAas
import Derived.Test.YtekjdeibnfaehaaGreatKAat
import Derived.Test.YtekjdeibnfaehaaGreatKAau
import Derived.Test.YtekjdeibnfaehaaGreatKAav
import Derived.Test.YtekjdeibnfaehaaGreatKAaw
import Derived.Test.YtekjdeibnfaehaaGreatKAax
import Derived.Test.YtekjdeibnfaehaaGreatKAay
import Derived.Test.YtekjdeibnfaehaaGreatKAaz
import Derived.Test.YtekjdeibnfaehaaGreatKAba
import Derived.Test.YtekjdeibnfaehaaGreatKAbb
import Derived.Test.YtekjdeibnfaehaaGreatKAbc
import Derived.Test.YtekjdeibnfaehaaGreatKAbd
import Derived.Test.YtekjdeibnfaehaaGreatKAbe
import Derived.Test.YtekjdeibnfaehaaGreatKAbf
import Derived.Test.YtekjdeibnfaehaaGreatKAbg
import Derived.Test.YtekjdeibnfaehaaGreatKAbh
import Derived.Test.YtekjdeibnfaehaaGreatKAbi
import Derived.Test.YtekjdeibnfaehaaGreatKAbj
import Derived.Test.YtekjdeibnfaehaaGreatKAbk
import Derived.Test.YtekjdeibnfaehaaGreatKAbl
import Derived.Test.YtekjdeibnfaehaaGreatKAbm
import Derived.Test.YtekjdeibnfaehaaGreatKAbn
import Derived.Test.YtekjdeibnfaehaaGreatKAbo
set_option linter.unusedSimpArgs false
set_option linter.unusedVariables false
namespace Go.Proofs.YtekjdeibnfaehaaGreat
open Go Go.RowKit

theorem Grows.trans {G G' G'' : Gh} (h : Grows G G') (h' : Grows G' G'') : Grows G G'' := fun p r hr => h' p r (h p r hr)
section
variable {n : Nat} {W : WD} {G : Gh} {p : Nat}
end
end Go.Proofs.YtekjdeibnfaehaaGreat
