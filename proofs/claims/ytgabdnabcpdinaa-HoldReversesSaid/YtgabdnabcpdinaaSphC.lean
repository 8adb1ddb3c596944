/- The reference of package sphere: the position of a vector. -/
import Derived.Test.YtgabdnabcpdinaaSphB
namespace Go.Proofs.Ytgabdnabcpdinaa
open Go.RowKit Go.Joins Fdk
set_option linter.unusedVariables false

end Go.Proofs.Ytgabdnabcpdinaa
