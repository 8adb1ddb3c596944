/- The reference's Atan2, Asin, Hypot: what each call returns. -/
import Derived.Test.YtgcanoopbhoalaaTrigZ
namespace Go.Proofs.Ytgcanoopbhoalaa
open Go.RowKit Fdk
set_option linter.unusedVariables false

/-! ### the reference -/
end Go.Proofs.Ytgcanoopbhoalaa
