/- Plain facts on the sine and cosine series and their inverses: no program in sight (B). -/
import Derived.Test.YtpgpdglmgpjhlaaTrigP1
namespace Fdk
set_option linter.unusedVariables false
/-- the greatest number up to n at which ok holds, else 0. -/
def grt (ok : Nat → Bool) : Nat → Nat
  | 0 => 0
  | n + 1 => if ok (n + 1) then n + 1 else grt ok n
theorem grt_succ (ok : Nat → Bool) (n : Nat) : grt ok (n + 1) = if ok (n + 1) then n + 1 else grt ok n := rfl
theorem grt_le (ok : Nat → Bool) (n : Nat) : grt ok n ≤ n := by
  induction n with
  | zero => exact Nat.le_refl _
  | succ n ih => unfold grt; split <;> omega
theorem grt_ok (ok : Nat → Bool) (n : Nat) (h0 : ok 0 = true) : ok (grt ok n) = true := by
  induction n with
  | zero => exact h0
  | succ n ih => unfold grt; split <;> assumption
theorem grt_above (ok : Nat → Bool) (n k : Nat) (h : grt ok n < k) (hk : k ≤ n) : ok k = false := by
  induction n with
  | zero => omega
  | succ n ih =>
    unfold grt at h; split at h
    · omega
    · by_cases e : k = n + 1
      · subst e; rename_i hne; simpa using hne
      · exact ih h (by omega)
theorem grt_eq (ok : Nat → Bool) (n q : Nat) (hq : q ≤ n) (h1 : ok q = true) (h2 : ∀ k, q < k → k ≤ n → ok k = false) : grt ok n = q := by
  induction n with
  | zero => have : q = 0 := by omega
            subst this; rfl
  | succ n ih =>
    unfold grt
    by_cases e : q = n + 1
    · subst e; rw [if_pos h1]
    · rw [h2 (n + 1) (by omega) (Nat.le_refl _)]; exact ih (by omega) (fun k a b => h2 k a (by omega))
/-- sort.Search's answer is that number. -/
theorem grt_count (ok : Nat → Bool) (n : Nat) (hmono : ∀ a b, a ≤ b → b ≤ n → ok b = true → ok a = true) :
    (List.range n).countP (fun i => !(!ok (i + 1))) = grt ok n := by
  induction n with
  | zero => rfl
  | succ n ih =>
    rw [List.range_succ, List.countP_append, ih (fun a b h1 h2 => hmono a b h1 (by omega)), grt_succ]
    by_cases h : ok (n + 1) = true
    · have e : grt ok n = n := grt_eq ok n n (Nat.le_refl _) (hmono n (n + 1) (by omega) (Nat.le_refl _) h) (fun k a b => by omega)
      simp [h, e]
    · simp [h]

def cn (a : Int) : Int := sn ((a + 32400000) % 129600000)
theorem cn_mod (a : Int) : cn (a % 129600000) = cn a := by unfold cn; congr 1; omega
theorem cn_eq (a : Int) : cn a = sn (a + 32400000) := by unfold cn; exact sn_mod _
theorem cn_b (a : Int) : -1073741824 ≤ cn a ∧ cn a ≤ 1073741824 := by unfold cn; exact sn_b _
theorem cn_neg (a : Int) : cn (-a) = cn a := by
  rw [cn_eq, cn_eq, ← sn_mirror]; congr 1; omega
theorem cn_half (a : Int) : cn (a + 64800000) = - cn a := by
  rw [cn_eq, cn_eq, ← sn_half]; congr 1; omega
theorem cn_mirror (a : Int) : cn (64800000 - a) = - cn a := by
  have e : cn (64800000 - a) = cn (-a + 64800000) := by congr 1; omega
  rw [e, cn_half, cn_neg]
theorem cn_q (a : Int) : cn (32400000 - a) = sn a := by rw [cn_eq, ← sn_mirror]; congr 1; omega
theorem sn_q (a : Int) : sn (32400000 - a) = cn a := by rw [cn_eq, ← sn_mirror]; congr 1; omega
theorem sn_plus (a : Int) : sn (a + 32400000) = cn a := (cn_eq a).symm
theorem cn_plus (a : Int) : cn (a + 32400000) = - sn a := by rw [cn_eq, ← sn_half]; congr 1; omega
theorem cn_E : cn 16200000 = 759250125 := by unfold cn sn; decide +kernel
theorem sn_E : sn 16200000 = 759250125 := by unfold sn; decide +kernel
theorem sn_0 : sn 0 = 0 := by unfold sn; decide +kernel
theorem cn_0 : cn 0 = 1073741824 := by unfold cn sn; decide +kernel
theorem cn_mono {a b : Int} (h0 : 0 ≤ a) (h : a ≤ b) (h1 : b ≤ 64800000) : cn b ≤ cn a := by
  rw [← sn_q, ← sn_q]; exact sn_mono (by omega) (by omega) (by omega)
theorem sn_e {a : Int} (h0 : 0 ≤ a) (h1 : a ≤ 16200000) : 0 ≤ sn a ∧ sn a ≤ 759250125 ∧ 759250125 ≤ cn a := by
  have := sn_mono (a := 0) (b := a) (by omega) h0 (by omega)
  have := sn_mono (a := a) (b := 16200000) (by omega) h1 (by omega)
  have := cn_mono h0 h1 (by omega)
  rw [sn_0] at *; rw [sn_E] at *; rw [cn_E] at *; omega

attribute [irreducible] cn
/-- Sin(c) m is at most Cos(c) n. -/
def okc (m n : Int) (c : Nat) : Bool := decide (sn c * m ≤ cn c * n)
def eN : Nat := 16200000
theorem eN_eq : eN = 16200000 := rfl
attribute [irreducible] eN
def ata (m n : Int) : Int := (grt (okc m n) eN : Nat)
theorem okc_0 {m n : Int} (hn : 0 ≤ n) : okc m n 0 = true := by
  have e1 : sn ((0 : Nat) : Int) = 0 := sn_0
  have e2 : cn ((0 : Nat) : Int) = 1073741824 := cn_0
  unfold okc; rw [decide_eq_true_eq, e1, e2]; omega
theorem okc_mono {m n : Int} (hm : 0 ≤ m) (hn : 0 ≤ n) (a b : Nat) (h : a ≤ b) (hb : b ≤ 16200000) (ho : okc m n b = true) : okc m n a = true := by
  unfold okc at *
  rw [decide_eq_true_eq] at *
  have h1 : sn a ≤ sn b := sn_mono (by omega) (by omega) (by omega)
  have h2 : cn b ≤ cn a := cn_mono (by omega) (by omega) (by omega)
  have k1 : sn a * m ≤ sn b * m := Int.mul_le_mul_of_nonneg_right h1 hm
  have k2 : cn b * n ≤ cn a * n := Int.mul_le_mul_of_nonneg_right h2 hn
  exact Int.le_trans k1 (Int.le_trans ho k2)
theorem ata_b (m n : Int) : 0 ≤ ata m n ∧ ata m n ≤ 16200000 := by
  have := grt_le (okc m n) eN; have := eN_eq
  unfold ata; omega
/-- the number is the greatest: this and its neighbour decide it. -/
theorem ata_eq {m n : Int} (hm : 0 ≤ m) (hn : 0 ≤ n) (q : Int) (h0 : 0 ≤ q) (hq : q ≤ 16200000) (h1 : sn q * m ≤ cn q * n) (h2 : q < 16200000 → ¬ sn (q + 1) * m ≤ cn (q + 1) * n) : ata m n = q := by
  obtain ⟨k, rfl⟩ := Int.eq_ofNat_of_zero_le h0
  have eN_eq := eN_eq
  unfold ata; congr 1
  refine grt_eq _ _ _ (by omega) (by simpa [okc] using h1) (fun j hj hj2 => ?_)
  have h3 : okc m n (k + 1) = false := by
    have := h2 (by omega)
    simp only [okc]; simpa using this
  cases h4 : okc m n j
  · rfl
  · rw [okc_mono hm hn (k + 1) j (by omega) (by omega) h4] at h3; exact h3
theorem ata_ok {m n : Int} (hn : 0 ≤ n) : sn (ata m n) * m ≤ cn (ata m n) * n := by
  have := grt_ok (okc m n) eN (okc_0 hn)
  simpa [okc, ata] using this
theorem ata_above {m n : Int} (c : Int) (h : ata m n < c) (hc : c ≤ 16200000) : cn c * n < sn c * m := by
  have b := ata_b m n
  obtain ⟨k, rfl⟩ := Int.eq_ofNat_of_zero_le (by omega : 0 ≤ c)
  have := eN_eq
  have := grt_above (okc m n) eN k (by unfold ata at h; omega) (by omega)
  simp only [okc, decide_eq_false_iff_not] at this; omega

def iabs (x : Int) : Int := if x < 0 then -x else x
/-- the angle whose sine is proportional to y, its cosine to x. -/
def atq (y x : Int) : Int := if iabs x < iabs y then 32400000 - ata (max (iabs x) (iabs y)) (min (iabs x) (iabs y)) else ata (max (iabs x) (iabs y)) (min (iabs x) (iabs y))
def at2 (y x : Int) : Int :=
  if 0 ≤ x ∧ 0 ≤ y then atq y x else if 0 ≤ y then 64800000 - atq y x else if x < 0 then 64800000 + atq y x else (- atq y x) % 129600000
theorem iabs_neg (x : Int) : iabs (-x) = iabs x := by unfold iabs; split <;> split <;> omega
theorem iabs_nn (x : Int) : 0 ≤ iabs x := by unfold iabs; split <;> omega
theorem atq_neg1 (y x : Int) : atq (-y) x = atq y x := by unfold atq; rw [iabs_neg]
theorem atq_neg2 (y x : Int) : atq y (-x) = atq y x := by unfold atq; rw [iabs_neg]
theorem atq_b (y x : Int) : 0 ≤ atq y x ∧ atq y x ≤ 32400000 := by
  have := ata_b (max (iabs x) (iabs y)) (min (iabs x) (iabs y))
  unfold atq; split <;> omega
theorem at2_b (y x : Int) : 0 ≤ at2 y x ∧ at2 y x < 129600000 := by
  have := atq_b y x
  unfold at2; repeat' split
  all_goals omega
theorem ata_E {m : Int} (hm : 0 < m) : ata m m = 16200000 :=
  ata_eq (by omega) (by omega) _ (by omega) (by omega) (by rw [sn_E, cn_E]; exact Int.le_refl _) (fun h => by omega)
theorem atq_swap {y x : Int} (hx : 0 < iabs x) : atq x y = 32400000 - atq y x := by
  unfold atq
  rw [Int.max_comm (iabs y), Int.min_comm (iabs y)]
  by_cases h : iabs x < iabs y
  · rw [if_neg (by omega), if_pos h]; omega
  · by_cases h2 : iabs y < iabs x
    · rw [if_pos h2, if_neg h]
    · have e : iabs x = iabs y := by omega
      rw [if_neg h2, if_neg h, e, Int.max_self, Int.min_self, ata_E (by omega)]; omega
end Fdk
