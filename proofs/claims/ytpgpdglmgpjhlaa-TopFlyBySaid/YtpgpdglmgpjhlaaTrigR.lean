/- The reference's Atan2, Asin, Hypot: what each call returns. -/
import Derived.Test.YtpgpdglmgpjhlaaTrigZ
namespace Go.Proofs.Ytpgpdglmgpjhlaa
open Go.RowKit Fdk
set_option linter.unusedVariables false

/-! ### the reference -/
end Go.Proofs.Ytpgpdglmgpjhlaa
