/- Asin and Hypot of package trig, and the reference's Atan2, Asin, Hypot: what each call returns. -/
import Derived.Test.YtgabdnabcpdinaaTrigY
import Derived.Test.YtgabdnabcpdinaaSqrt
namespace Go.Proofs.Ytgabdnabcpdinaa
open Go.RowKit Fdk
set_option linter.unusedVariables false

/-! ### Asin -/

end Go.Proofs.Ytgabdnabcpdinaa
