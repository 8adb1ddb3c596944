/- Package wide: sizes. -/
import Derived.Test.YtpgpdglmgpjhlaaScale
import Derived.Test.YtpgpdglmgpjhlaaCells
import Derived.Laws.Externs
namespace Go.Proofs.Ytpgpdglmgpjhlaa
open Go.RowKit Go.Joins Fdk
set_option linter.unusedVariables false
abbrev szV (h l : Int) : Value := .agg #[.int .u64 h, .int .u64 l]
def sub64Entry : Array Value → Sem Value := fun args => do
  let (x, y, b) ← Extern.MathBitsCarry.three "Sub64" args
  pure (Extern.MathBitsCarry.pair ((x + Extern.MathBitsCarry.m64 - y - b) % Extern.MathBitsCarry.m64) (if x < y + b then 1 else 0))
theorem run_sub64 {P : Program} (x y c : Int) (hyy : 0 ≤ y) (hc0 : 0 ≤ c) (hc : c ≤ 1) (h : y + c ≤ x) (hx : x < 18446744073709551616) (w : World) :
    (sub64Entry #[.int .u64 x, .int .u64 y, .int .u64 c]).run P w = .ok (.tuple #[.int .u64 (x - y - c), .int .u64 0]) w := by
  have key : ∀ k : Nat, k ≤ 1 → (sub64Entry #[.int .u64 x, .int .u64 y, .int .u64 (k : Int)]).run P w =
      .ok (Extern.MathBitsCarry.pair ((x.toNat + Extern.MathBitsCarry.m64 - y.toNat - k) % Extern.MathBitsCarry.m64) (if x.toNat < y.toNat + k then 1 else 0)) w := by
    intro k hk
    have : k = 0 ∨ k = 1 := by omega
    rcases this with rfl | rfl <;> rfl
  obtain ⟨k, rfl⟩ := Int.eq_ofNat_of_zero_le hc0
  rw [key k (by omega), if_neg (by omega)]
  have e : (x.toNat + Extern.MathBitsCarry.m64 - y.toNat - k) % Extern.MathBitsCarry.m64 = x.toNat - y.toNat - k := by
    show (x.toNat + 18446744073709551616 - y.toNat - k) % 18446744073709551616 = _
    omega
  rw [e]
  simp only [Extern.MathBitsCarry.pair]
  congr 4
  congr 1
  simp
  omega
theorem sub64_call (x y c : Int) (hyy : 0 ≤ y) (hc0 : 0 ≤ c) (hc : c ≤ 1) (h : y + c ≤ x) (hx : x < 18446744073709551616) (w : World) :
    (callFunc 62 #[.int .u64 x, .int .u64 y, .int .u64 c]).run Try.prog w = .ok (.value (.tuple #[.int .u64 (x - y - c), .int .u64 0])) w := by
  rw [run_callFunc_extern (e := sub64Entry) Try.func62 (by kernel_rfl) (by kernel_rfl) (by kernel_rfl) (by kernel_rfl), run_sub64 x y c hyy hc0 hc h hx]
  rfl
theorem nan_any (a : Int) (w : World) :
    Calls Try.prog 65 #[.int .u64 a] w fun e w' => e = .returned (.bool false) ∧ w = w' := by
  go_enter Try.func65, Try.ntmps65
  go_wp2
  go_ret
  exact ⟨ret_bool (by simp), rfl⟩
/-- which of two numbers is the greater. -/
def sgn (a b : Int) : Int := if a < b then -1 else if a > b then 1 else 0
theorem cmpu_any (a b : Int) (w : World) :
    Calls Try.prog 63 #[.int .u64 a, .int .u64 b] w fun e w' => e = .returned (.int .i64 (sgn a b)) ∧ w = w' := by
  unfold sgn
  by_cases h1 : a < b
  · rw [if_pos h1]
    go_enter Try.func63, Try.ntmps63
    go_wp2_with (first | (go_at_call 65; refine (nan_any _ _).mono ?_; rintro e w' ⟨rfl, rfl⟩))
    go_ret
    exact ⟨rfl, rfl⟩
  · rw [if_neg h1]
    by_cases h2 : a > b
    · rw [if_pos h2]
      go_enter Try.func63, Try.ntmps63
      go_wp2_with (first | (go_at_call 65; refine (nan_any _ _).mono ?_; rintro e w' ⟨rfl, rfl⟩))
      go_ret
      exact ⟨rfl, rfl⟩
    · rw [if_neg h2]
      go_enter Try.func63, Try.ntmps63
      go_wp2_with (first | (go_at_call 65; refine (nan_any _ _).mono ?_; rintro e w' ⟨rfl, rfl⟩))
      go_ret
      exact ⟨rfl, rfl⟩
def scm (h l g k : Int) : Int := if h = g then sgn l k else sgn h g
theorem scmp_any (h l g k : Int) (w : World) :
    Calls Try.prog 53 #[szV h l, szV g k] w fun e w' => e = .returned (.int .i64 (scm h l g k)) ∧ Below w.heap.size w w' := by
  unfold scm
  by_cases e : h = g
  · rw [if_pos e]
    have e1 : (h != g) = false := by simp [e]
    clear e
    go_enter Try.func53, Try.ntmps53
    go_wp2_with (first | (go_at_call 63; refine (cmpu_any _ _ _).mono ?_; rintro e w' ⟨rfl, rfl⟩))
    go_ret
    exact ⟨rfl, below_alloc2 w _ _⟩
  · rw [if_neg e]
    have e1 : (h != g) = true := by simp [e]
    clear e
    go_enter Try.func53, Try.ntmps53
    go_wp2_with (first | (go_at_call 63; refine (cmpu_any _ _ _).mono ?_; rintro e w' ⟨rfl, rfl⟩))
    go_ret
    exact ⟨rfl, below_alloc2 w _ _⟩
theorem szero_any (h l : Int) (w : World) (hl : 0 < l) :
    Calls Try.prog 58 #[szV h l] w fun e w' => e = .returned (.bool false) ∧ Below w.heap.size w w' := by
  have e1 : (l == 0) = false := by rw [beq_eq_false_iff_ne]; omega
  clear hl
  go_enter Try.func58, Try.ntmps58
  go_wp2
  all_goals (go_ret; exact ⟨ret_bool (by simp), below_alloc1 w _⟩)
theorem wabs_any (a : Int) (w : World) (h0 : -9223372036854775807 ≤ a) (h1 : a ≤ 9223372036854775807) :
    Calls Try.prog 51 #[.int .i64 a] w fun e w' => e = .returned (.int .u64 (iabs a)) ∧ w = w' := by
  by_cases h : a < 0
  · have hq : Hid (iabs a = -a) := by show iabs a = _; unfold iabs; rw [if_pos h]
    have e1 : IntKind.u64.wrap (-(IntKind.u64.wrap a)) = -a := by rw [IntKind.wrap_u64, IntKind.wrap_u64]; omega
    go_enter Try.func51, Try.ntmps51
    go_wp2
    go_ret
    exact ⟨congrArg Ending.returned (congrArg (Value.int .u64) (by first | exact hq.out.symm | (rw [hq.out]; exact e1) | (rw [hq.out]; omega))), rfl⟩
  · have hq : Hid (iabs a = a) := by show iabs a = _; unfold iabs; rw [if_neg h]
    go_enter Try.func51, Try.ntmps51
    go_wp2
    go_ret
    exact ⟨congrArg Ending.returned (congrArg (Value.int .u64) hq.out.symm), rfl⟩
end Go.Proofs.Ytpgpdglmgpjhlaa
