/- The reference's Asin and Hypot, the intervals around sine and cosine, and the chapter's examples. -/
import Derived.Test.YtpgpdglmgpjhlaaTrigR
namespace Go.Proofs.Ytpgpdglmgpjhlaa
open Go.RowKit Fdk
set_option linter.unusedVariables false

end Go.Proofs.Ytpgpdglmgpjhlaa
