/- The reference of package sphere: vectors, slopes. -/
import Derived.Test.YtgcanoopbhoalaaSphB
namespace Go.Proofs.Ytgcanoopbhoalaa
open Go.RowKit Go.Joins Fdk
set_option linter.unusedVariables false

end Go.Proofs.Ytgcanoopbhoalaa
