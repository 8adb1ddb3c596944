/- Asin and Hypot of package trig, and the reference's Atan2, Asin, Hypot: what each call returns. -/
import Derived.Test.YtpgpdglmgpjhlaaTrigY
import Derived.Test.YtpgpdglmgpjhlaaSqrt
namespace Go.Proofs.Ytpgpdglmgpjhlaa
open Go.RowKit Fdk
set_option linter.unusedVariables false

/-! ### Asin -/

end Go.Proofs.Ytpgpdglmgpjhlaa
