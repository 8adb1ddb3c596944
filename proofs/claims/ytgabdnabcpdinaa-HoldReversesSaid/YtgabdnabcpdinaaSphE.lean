/- The reference of package sphere: vectors, slopes. -/
import Derived.Test.YtgabdnabcpdinaaSphB
namespace Go.Proofs.Ytgabdnabcpdinaa
open Go.RowKit Go.Joins Fdk
set_option linter.unusedVariables false

end Go.Proofs.Ytgabdnabcpdinaa
