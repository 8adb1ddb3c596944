/- The inverse functions of package trig: what each call returns. -/
import Derived.Test.YtpgpdglmgpjhlaaTrigW
import Derived.Deep.QuietTactic
import Derived.BigQuiet
import Derived.WalkSmall
namespace Go.Proofs.Ytpgpdglmgpjhlaa
open Go.RowKit Fdk
set_option linter.unusedVariables false

/-- the world has at most drawn. -/
def Drew (w w' : World) : Prop := ∃ q, w' = w.drewN q

theorem quiet_same {P : Program} {f : FuncId} {args : Array Value} {w : World} {n : Nat} {v : Value}
    (h : Calls P f args (w.drewN n) fun e w' => e = .returned v ∧ w.drewN n = w') : Calls P f args (w.drewN n) fun e w'' => e = .returned v ∧ ∃ m, w'' = w.drewN m :=
  h.mono fun _ _ ⟨he, hm⟩ => ⟨he, n, hm.symm⟩
theorem sm_b {s m : Int} (h0 : -1073741824 ≤ s) (h1 : s ≤ 1073741824) (h2 : 0 ≤ m) (h3 : m ≤ 2147483648) : -2305843009213693952 ≤ s * m ∧ s * m ≤ 2305843009213693952 := by
  have k1 : s * m ≤ 1073741824 * m := Int.mul_le_mul_of_nonneg_right h1 h2
  have k2 : -1073741824 * m ≤ s * m := Int.mul_le_mul_of_nonneg_right h0 h2
  generalize s * m = P at *
  omega
theorem okc_def (m n : Int) (c : Nat) : okc m n c = decide (sn c * m ≤ cn c * n) := rfl
set_option maxHeartbeats 800000 in
theorem atan2_1 (m n : Int) (c : Nat) (b1 b2 : Nat) (w : World) (hc : c ≤ 16200000) (hm0 : 0 ≤ m) (hm1 : m ≤ 2147483647) (hn0 : 0 ≤ n) (hn1 : n ≤ 2147483647) (h1 : w.cell? ⟨b1, 0, none⟩ = some (.int .i64 m)) (h2 : w.cell? ⟨b2, 0, none⟩ = some (.int .i64 n)) :
    Calls Try.prog 33 #[.int .i64 c, .pointer (some ⟨b1, 0, none⟩), .pointer (some ⟨b2, 0, none⟩)] w fun e w' => e = .returned (.bool (okc m n c)) ∧ Drew w w' := by
  have ⟨s0, s1⟩ := sn_b c
  have ⟨d0, d1⟩ := cn_b c
  have ⟨p0, p1⟩ := sm_b s0 s1 hm0 (by omega)
  have ⟨q0, q1⟩ := sm_b d0 d1 hn0 (by omega)
  have HO := Lib.hid (okc_def m n c)
  have e1 : IntKind.i64.wrap (sn c * m) = sn c * m := IntWalk.i64_in _ (by omega)
  have e2 : IntKind.i64.wrap (cn c * n) = cn c * n := IntWalk.i64_in _ (by omega)
  go_enter Try.func33, Try.ntmps33
  go_wp2
  go_quiet (first | (go_at_call 18; exact quiet_same (sin_any _ _)) | (go_at_call 19; exact quiet_same (cos_any _ _)))
  go_wp2
  go_ret
  exact ⟨ret_bool HO.out.symm, _, rfl⟩

theorem Drew.refl (w : World) : Drew w w := ⟨0, rfl⟩
theorem Drew.trans {a b c : World} (h : Drew a b) (k : Drew b c) : Drew a c := by
  obtain ⟨p, rfl⟩ := h; obtain ⟨q, rfl⟩ := k; exact ⟨p + q, World.drewN_drewN _ _ _⟩
theorem Drew.below {a b : World} (h : Drew a b) (B : Nat) : Below B a b := by
  obtain ⟨p, rfl⟩ := h; exact below_drewN (Below.refl _ _) _
/-- what is asked of the test that sort.Search is handed: it answers, and no more than draws. -/
def Asks (b0 n : Nat) (ok : Nat → Bool) (w : World) : Prop := ∀ i : Nat, i < n → ∀ w1, Drew w w1 →
  Calls Try.prog 43 #[.int .i64 i, .pointer (some ⟨b0, 0, none⟩)] w1 fun e w' => e = .returned (.bool (!ok (i + 1))) ∧ Drew w1 w'

set_option maxHeartbeats 1600000 in
theorem search_any (n b0 : Nat) (ok : Nat → Bool) (w : World) (hn : n ≤ 1000000000) (h0 : ok 0 = true) (hmono : Hid (∀ a b, a ≤ b → b ≤ n → ok b = true → ok a = true)) (H : Asks b0 n ok w) :
    Calls Try.prog 42 #[.int .i64 n, .func (Fn.func 43) #[] #[.pointer (some ⟨b0, 0, none⟩)]] w fun e w' => e = .returned (.int .i64 (grt ok n : Nat)) ∧ Drew w w' := by
  have H0 := Lib.hid h0
  clear h0
  go_enter Try.func42, Try.ntmps42
  go_wp2
  go_loopw [5, 6] (fun i j wr => ∃ a b : Nat, a ≤ b ∧ b ≤ n ∧ i = .int .i64 a ∧ j = .int .i64 b ∧ ok a = true ∧ (b < n → ok (b + 1) = false) ∧ Drew w wr) (fun i j _ => (intOf j).toNat - (intOf i).toNat)
  case atStart => exact ⟨0, n, Nat.zero_le _, Nat.le_refl _, rfl, rfl, H0.out, fun h => by omega, Drew.refl _⟩
  case round =>
    obtain ⟨a, b, hab, hbn, rfl, rfl, ha, hb, hd⟩ := hrel
    have HA := Lib.hid ha
    have HB := Lib.hid hb
    have HD := Lib.hid hd
    clear ha hb hd
    by_cases hlt : a < b
    · have e1 : ((a : Int) + (b : Int)) / 2 = (((a + b) / 2 : Nat) : Int) := by omega
      have l1 : a ≤ (a + b) / 2 := by omega
      have l2 : (a + b) / 2 < b := by omega
      have HE := Lib.hid e1
      clear e1
      go_wp2_with fail
      rw [HE.out]
      refine (H ((a + b) / 2) (by omega) _ HD.out).mono ?_
      rintro e w' ⟨rfl, hd2⟩
      have HD2 := Lib.hid (HD.out.trans hd2)
      clear hd2
      cases hk : ok ((a + b) / 2 + 1)
      · have HK := Lib.hid hk
        clear hk
        go_wp2
        go_roundw
        case rel => exact ⟨a, (a + b) / 2, l1, by omega, rfl, rfl, HA.out, fun _ => HK.out, HD2.out⟩
        case measure => simp [intOf]; omega
      · have HK := Lib.hid hk
        clear hk
        go_wp2
        go_roundw
        case rel => exact ⟨(a + b) / 2 + 1, b, by omega, hbn, by rw [HE.out]; go_num, rfl, HK.out, HB.out, HD2.out⟩
        case measure => simp [intOf]; omega
    · have HG : Hid (grt ok n = a) := by
        obtain rfl : a = b := by omega
        refine grt_eq _ _ _ hbn HA.out (fun k h1 h2 => ?_)
        have h3 := HB.out (by omega)
        cases h : ok k
        · rfl
        · rw [hmono.out (a + 1) k (by omega) h2 h] at h3; exact h3
      go_wp2
      go_ret
      exact ⟨by rw [HG.out]; rfl, HD.out⟩

/-- a box of one cell, as it was laid. -/
structure One (w : World) (b : Nat) (x : Value) : Prop where
  c0 : w.cell? ⟨b, 0, none⟩ = some x
  f0 : w.frozen? ⟨b, 0, none⟩ = false
  lt : b < w.heap.size
theorem one_new (w : World) (x : Value) (t : TypeId) : One (w.alloc (.cells #[x] t)) w.heap.size x := by
  have e : (w.alloc (.cells #[x] t)).heap[w.heap.size]? = some (.cells #[x] t) := by show (w.heap.push _)[w.heap.size]? = _; simp
  exact ⟨by simp only [World.cell?, e]; rfl, by simp only [World.frozen?, e]; rfl, by show _ < (w.heap.push _).size; simp⟩
theorem One.below {w w1 : World} {b B : Nat} {x : Value} (h : One w b x) (hb : Below B w w1) (hB : b < B) : One w1 b x :=
  ⟨(hb.cell (p := ⟨b, 0, none⟩) hB).trans h.c0, (hb.frozen (p := ⟨b, 0, none⟩) hB).trans h.f0, Nat.lt_of_lt_of_le h.lt hb.size⟩
theorem One.alloc {w : World} {b : Nat} {x : Value} (h : One w b x) (o : Obj) : One (w.alloc o) b x :=
  h.below ((Below.refl w.heap.size w).alloc (Nat.le_refl _) o) h.lt
theorem One.drew {w w1 : World} {b : Nat} {x : Value} (h : One w b x) (hd : Drew w w1) : One w1 b x := h.below (hd.below (b + 1)) (Nat.lt_succ_self _)
/-- a block of two cells, as it was laid. -/
structure Cell2 (w : World) (b : Nat) (x y : Value) : Prop where
  c0 : w.cell? ⟨b, 0, none⟩ = some x
  c1 : w.cell? ⟨b, 1, none⟩ = some y
  f0 : w.frozen? ⟨b, 0, none⟩ = false
  f1 : w.frozen? ⟨b, 1, none⟩ = false
  lt : b < w.heap.size
theorem cell2_new (w : World) (x y : Value) (t : TypeId) : Cell2 (w.alloc (.cells #[x, y] t)) w.heap.size x y := by
  have e : (w.alloc (.cells #[x, y] t)).heap[w.heap.size]? = some (.cells #[x, y] t) := by show (w.heap.push _)[w.heap.size]? = _; simp
  exact ⟨by simp only [World.cell?, e]; rfl, by simp only [World.cell?, e]; rfl, by simp only [World.frozen?, e]; rfl, by simp only [World.frozen?, e]; rfl, by show _ < (w.heap.push _).size; simp⟩
theorem Cell2.below {w w1 : World} {b B : Nat} {x y : Value} (h : Cell2 w b x y) (hb : Below B w w1) (hB : b < B) : Cell2 w1 b x y :=
  ⟨(hb.cell (p := ⟨b, 0, none⟩) hB).trans h.c0, (hb.cell (p := ⟨b, 1, none⟩) hB).trans h.c1, (hb.frozen (p := ⟨b, 0, none⟩) hB).trans h.f0, (hb.frozen (p := ⟨b, 1, none⟩) hB).trans h.f1, Nat.lt_of_lt_of_le h.lt hb.size⟩
set_option maxHeartbeats 800000 in
theorem greatest1_a (m n : Int) (c : Nat) (b0 b1 b2 : Nat) (w : World) (hc : c < 16200000) (hm0 : 0 ≤ m) (hm1 : m ≤ 2147483647) (hn0 : 0 ≤ n) (hn1 : n ≤ 2147483647)
    (o0 : One w b0 (.func (Fn.func 33) #[] #[.pointer (some ⟨b1, 0, none⟩), .pointer (some ⟨b2, 0, none⟩)])) (o1 : One w b1 (.int .i64 m)) (o2 : One w b2 (.int .i64 n)) :
    Calls Try.prog 43 #[.int .i64 c, .pointer (some ⟨b0, 0, none⟩)] w fun e w' => e = .returned (.bool (!okc m n (c + 1))) ∧ Drew w w' := by
  have e1 : (c : Int) + 1 = ((c + 1 : Nat) : Int) := by omega
  have HE := Lib.hid e1
  have c0 := o0.c0
  clear e1
  go_enter Try.func43, Try.ntmps43
  go_wp2_with fail
  rw [HE.out]
  refine (atan2_1 m n (c + 1) b1 b2 _ (by omega) hm0 hm1 hn0 hn1 o1.c0 o2.c0).mono ?_
  rintro e w' ⟨rfl, hd⟩
  have HD := Lib.hid hd
  clear hd
  go_wp2
  go_ret
  exact ⟨rfl, HD.out⟩
set_option maxHeartbeats 800000 in
theorem greatest_a (m n : Int) (b1 b2 : Nat) (w : World) (hm0 : 0 ≤ m) (hm1 : m ≤ 2147483647) (hn0 : 0 ≤ n) (hn1 : n ≤ 2147483647)
    (o1 : One w b1 (.int .i64 m)) (o2 : One w b2 (.int .i64 n)) :
    Calls Try.prog 32 #[.int .i64 16200000, .func (Fn.func 33) #[] #[.pointer (some ⟨b1, 0, none⟩), .pointer (some ⟨b2, 0, none⟩)]] w fun e w' => e = .returned (.int .i64 (ata m n)) ∧ Below w.heap.size w w' := by
  have HN := Lib.hid eN_eq
  go_enter Try.func32, Try.ntmps32
  go_wp2_with fail
  rw [show (16200000 : Int) = ((eN : Nat) : Int) by rw [HN.out]; rfl]
  have Z0 := one_new w (.func (Fn.func 33) #[] #[.pointer (some ⟨b1, 0, none⟩), .pointer (some ⟨b2, 0, none⟩)]) 54
  have Z1 := o1.alloc (.cells #[.func (Fn.func 33) #[] #[.pointer (some ⟨b1, 0, none⟩), .pointer (some ⟨b2, 0, none⟩)]] 54)
  have Z2 := o2.alloc (.cells #[.func (Fn.func 33) #[] #[.pointer (some ⟨b1, 0, none⟩), .pointer (some ⟨b2, 0, none⟩)]] 54)
  refine (search_any eN w.heap.size (okc m n) _ (by rw [HN.out]; omega) (okc_0 hn0) (fun a b h hb ho => okc_mono hm0 hn0 a b h (by rw [← HN.out]; exact hb) ho) (fun i hi w1 hd => greatest1_a m n i _ b1 b2 w1 (by rw [HN.out] at hi; exact hi) hm0 hm1 hn0 hn1 (Z0.drew hd) (Z1.drew hd) (Z2.drew hd))).mono ?_
  rintro e w' ⟨rfl, hd⟩
  have HD := Lib.hid hd
  clear hd
  go_wp2
  go_ret
  exact ⟨rfl, ((Below.refl w.heap.size w).alloc (Nat.le_refl _) _).trans (HD.out.below _)⟩
end Go.Proofs.Ytpgpdglmgpjhlaa
