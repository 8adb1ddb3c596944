/- The reference of package sphere: Dist and Course. -/
import Derived.Test.YtgcanoopbhoalaaSphL
import Derived.Test.YtgcanoopbhoalaaSphG
import Derived.Test.YtgcanoopbhoalaaSphI
namespace Go.Proofs.Ytgcanoopbhoalaa
open Go.RowKit Go.Joins Fdk
set_option linter.unusedVariables false
end Go.Proofs.Ytgcanoopbhoalaa
