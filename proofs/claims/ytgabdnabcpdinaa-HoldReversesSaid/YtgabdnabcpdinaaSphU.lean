/- The components of one position as seen from another are bounded. -/
import Derived.Test.YtgabdnabcpdinaaSphF
import Derived.Test.YtgabdnabcpdinaaSphQ
namespace Go.Proofs.Ytgabdnabcpdinaa
open Go.RowKit Go.Joins Fdk
set_option linter.unusedVariables false
end Go.Proofs.Ytgabdnabcpdinaa
