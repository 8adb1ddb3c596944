/- The reference of package sphere: Local. -/
import Derived.Test.YtpgpdglmgpjhlaaSphE
import Derived.Test.YtpgpdglmgpjhlaaSphH
import Derived.Deep.RegionHeld3
import Derived.Deep.DeepCutAuto
namespace Go.Proofs.Ytpgpdglmgpjhlaa
open Go.RowKit Go.Joins Fdk
set_option linter.unusedVariables false
def rlx (b c d : Int) : Int := rd (cn b * rd (cn c * sn d) - sn b * rd (cn c * cn d))
def rly (a b c d : Int) : Int := rd (cn a * sn c - rd (sn a * cn b) * rd (cn c * cn d) - rd (sn a * sn b) * rd (cn c * sn d))
theorem rlx_eq (b c d : Int) : rlx b c d = lx b c d := by
  unfold rlx lx; congr 1; grind
theorem rly_eq (a b c d : Int) : rly a b c d = ly a b c d := by
  unfold rly ly; congr 1; grind
end Go.Proofs.Ytpgpdglmgpjhlaa
