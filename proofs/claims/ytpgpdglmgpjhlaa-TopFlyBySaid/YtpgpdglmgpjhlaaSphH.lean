/- Package sphere: Local. -/
import Derived.Test.YtpgpdglmgpjhlaaSphF
namespace Go.Proofs.Ytpgpdglmgpjhlaa
open Go.RowKit Go.Joins Fdk
set_option linter.unusedVariables false
/-- the components of one position as seen from another, and the error. -/
def lclv (a b c d : Int) : Int × Int × Int × Int := if vd a b && vd c d then (lx b c d, ly a b c d, lz a b c d, 0) else (0, 0, 0, 1)
end Go.Proofs.Ytpgpdglmgpjhlaa
