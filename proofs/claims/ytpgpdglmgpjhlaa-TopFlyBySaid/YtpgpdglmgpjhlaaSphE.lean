/- The reference of package sphere: vectors, slopes. -/
import Derived.Test.YtpgpdglmgpjhlaaSphB
namespace Go.Proofs.Ytpgpdglmgpjhlaa
open Go.RowKit Go.Joins Fdk
set_option linter.unusedVariables false

end Go.Proofs.Ytpgpdglmgpjhlaa
