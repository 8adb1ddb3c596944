/- The components of one position as seen from another are bounded. -/
import Derived.Test.YtpgpdglmgpjhlaaSphF
import Derived.Test.YtpgpdglmgpjhlaaSphQ
namespace Go.Proofs.Ytpgpdglmgpjhlaa
open Go.RowKit Go.Joins Fdk
set_option linter.unusedVariables false
theorem unit_q (c d : Int) : Unit3 (rd (cn c * cn d)) (rd (cn c * sn d)) (sn c) := norm_b c d
theorem unit_n (a b : Int) : Unit3 (-rd (sn a * cn b)) (-rd (sn a * sn b)) (cn a) := by
  have h := norm_b (32400000 - a) b
  have e1 : cn (32400000 - a) = sn a := by rw [← sn_q (32400000 - a)]; congr 1; omega
  have e2 : sn (32400000 - a) = cn a := sn_q a
  rw [e1, e2] at h
  unfold Unit3
  rw [Int.neg_mul_neg, Int.neg_mul_neg]
  exact h
theorem unit_e (b : Int) : Unit3 (-sn b) (cn b) 0 := by
  have h := sq_all b
  unfold SqOk at h
  unfold Unit3
  rw [Int.neg_mul_neg]
  omega
theorem lxy_b (a b c d : Int) : (-1073741836 ≤ lx b c d ∧ lx b c d ≤ 1073741836) ∧ (-1073741836 ≤ ly a b c d ∧ ly a b c d ≤ 1073741836) ∧ (-1073741836 ≤ lz a b c d ∧ lz a b c d ≤ 1073741836) := by
  obtain ⟨_, _, _, k, _⟩ := dist_b (unit_e b) (unit_q c d)
  obtain ⟨_, _, _, l, _⟩ := dist_b (unit_n a b) (unit_q c d)
  obtain ⟨_, _, _, m, _⟩ := dist_b (unit_q a b) (unit_q c d)
  rw [Int.zero_mul, Int.add_zero] at k
  unfold lx ly lz
  generalize -sn b * rd (cn c * cn d) + cn b * rd (cn c * sn d) = A at *
  generalize -rd (sn a * cn b) * rd (cn c * cn d) + -rd (sn a * sn b) * rd (cn c * sn d) + cn a * sn c = B at *
  generalize rd (cn a * cn b) * rd (cn c * cn d) + rd (cn a * sn b) * rd (cn c * sn d) + sn a * sn c = C at *
  unfold rd
  omega
end Go.Proofs.Ytpgpdglmgpjhlaa
