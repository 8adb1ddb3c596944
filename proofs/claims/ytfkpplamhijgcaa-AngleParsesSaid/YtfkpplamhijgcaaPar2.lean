/- Signed angles read back, on both sides. -/
import Derived.Test.YtfkpplamhijgcaaJoin
import Derived.Deep.QuietTactic
import Derived.BigQuiet
import Derived.WalkSmall
namespace Go.Proofs.Ytfkpplamhijgcaa
open Go.RowKit
set_option linter.unusedVariables false

set_option maxHeartbeats 1600000 in
theorem rangle_any (s : ByteArray) (c : Nat) (w : World) (hm : s.size ≤ maxLen) (hc : c ≤ 4) :
    Calls Try.prog 53 #[.string s, .int .i64 c] w fun e w' => JEnd s c e ∧ w = w' := by
  unfold maxLen at hm
  by_cases h1 : s.size = c + 6
  · have hsz : ((s.size : Int) != (c : Int) + 6) = false := by simp; omega
    have hs1 : s.size ≤ c + 6 := by omega
    have hs2 : c + 6 ≤ s.size := by omega
    have H1 := Lib.hid h1
    have HP := Lib.hid (alld_parts h1)
    clear h1
    have ⟨b0, b1, _⟩ := ext_b s 0 c
    have ⟨c0, _, c1⟩ := ext_b s c (c + 2)
    have ⟨d0, _, d1⟩ := ext_b s (c + 2) (c + 4)
    have ⟨e0, _, e1⟩ := ext_b s (c + 4) s.size
    have b2 := b1 (by omega)
    have c2 := c1 (by omega)
    have d2 := d1 (by omega)
    have e2 := e1 (by omega)
    clear b1 c1 d1 e1
    have f1 := ext_size s 0 c
    have f2 := ext_size s c (c + 2)
    have f3 := ext_size s (c + 2) (c + 4)
    have f4 := ext_size s (c + 4) s.size
    unfold ext at b0 b2 c0 c2 d0 d2 e0 e2
    go_enter Try.func53, Try.ntmps53
    go_wp2_with fail
    refine (value_any (s.extract 0 c) _ (by omega)).mono ?_
    rintro e w' ⟨rfl, rfl⟩
    generalize hD : numw (s.extract 0 c).data.toList = D at *
    generalize gD : alld (s.extract 0 c).data.toList = bD at *
    have HD := Lib.hid hD
    have GD := Lib.hid gD
    clear hD gD
    go_wp2_with fail
    refine (value_any (s.extract c (c + 2)) _ (by omega)).mono ?_
    rintro e w' ⟨rfl, rfl⟩
    generalize hM : numw (s.extract c (c + 2)).data.toList = M at *
    generalize gM : alld (s.extract c (c + 2)).data.toList = bM at *
    have HM := Lib.hid hM
    have GM := Lib.hid gM
    clear hM gM
    go_wp2_with fail
    refine (value_any (s.extract (c + 2) (c + 4)) _ (by omega)).mono ?_
    rintro e w' ⟨rfl, rfl⟩
    generalize hS : numw (s.extract (c + 2) (c + 4)).data.toList = S at *
    generalize gS : alld (s.extract (c + 2) (c + 4)).data.toList = bS at *
    have HS := Lib.hid hS
    have GS := Lib.hid gS
    clear hS gS
    go_wp2_with fail
    refine (value_any (s.extract (c + 4) s.size) _ (by omega)).mono ?_
    rintro e w' ⟨rfl, rfl⟩
    generalize hF : numw (s.extract (c + 4) s.size).data.toList = F at *
    generalize gF : alld (s.extract (c + 4) s.size).data.toList = bF at *
    have HF := Lib.hid hF
    have GF := Lib.hid gF
    clear hF gF
    clear f1 f2 f3 f4
    have HJ : Hid (∀ z, z = D * 360000 + M * 6000 + S * 100 + F → bD = true → bM = true → bS = true → bF = true → M < 60 → S < 60 → JEnd s c (.returned (.tuple #[.int .i64 z, .bool true]))) := fun z hz a1 a2 a3 a4 hm hs => jend_yes H1.out (by rw [HP.out]; unfold ext; rw [GD.out, GM.out, GS.out, GF.out, a1, a2, a3, a4]; rfl) (by unfold ext; rw [HM.out]; exact hm) (by unfold ext; rw [HS.out]; exact hs) z (by unfold jval ext; rw [HD.out, HM.out, HS.out, HF.out]; exact hz)
    have HK : Hid (¬ (M < 60 ∧ S < 60) → JEnd s c (.returned (.tuple #[.int .i64 0, .bool false]))) := fun h => jend_no (fun hj => h ⟨by have := hj.2.2.1; unfold ext at this; rw [HM.out] at this; exact this, by have := hj.2.2.2; unfold ext at this; rw [HS.out] at this; exact this⟩)
    have HL : Hid ((bD && (bM && (bS && bF))) = false → JEnd s c (.returned (.tuple #[.int .i64 0, .bool false]))) := fun h => jend_no (fun hj => by have := hj.2.1; rw [HP.out] at this; unfold ext at this; rw [GD.out, GM.out, GS.out, GF.out, h] at this; cases this)
    clear HD HM HS HF H1 GD GM GS GF HP
    cases bD
    · go_wp2
      go_ret2
      exact ⟨HL.out rfl, rfl⟩
    cases bM
    · go_wp2
      go_ret2
      exact ⟨HL.out rfl, rfl⟩
    cases bS
    · go_wp2
      go_ret2
      exact ⟨HL.out rfl, rfl⟩
    cases bF
    · go_wp2
      go_ret2
      exact ⟨HL.out rfl, rfl⟩
    by_cases hm1 : M < 60
    · by_cases hs : S < 60
      · go_wp2
        go_ret2
        exact ⟨HJ.out _ rfl (by trivial) (by trivial) (by trivial) (by trivial) hm1 hs, rfl⟩
      · go_wp2
        go_ret2
        exact ⟨HK.out (by omega), rfl⟩
    · go_wp2
      go_ret2
      exact ⟨HK.out (by omega), rfl⟩
  · have hsz : ((s.size : Int) != (c : Int) + 6) = true := by simp; omega
    have H1 := Lib.hid h1
    clear h1
    go_enter Try.func53, Try.ntmps53
    go_wp2
    go_ret2
    exact ⟨jend_no (fun h => H1.out h.1), rfl⟩

/-- a letter, and behind it an angle; the second letter stands for a negative one, which is not 0. -/
def pok (s : ByteArray) (p m : UInt8) (c : Nat) : Prop :=
  s.size = c + 7 ∧ (s.data.toList.head? = some p ∨ s.data.toList.head? = some m) ∧ jok (s.extract 1 s.size) c ∧ (s.data.toList.head? = some m → jval (s.extract 1 s.size) c ≠ 0)
open Classical in
noncomputable def pval (s : ByteArray) (m : UInt8) (c : Nat) : Int := if s.data.toList.head? = some m then - jval (s.extract 1 s.size) c else jval (s.extract 1 s.size) c
def PEnd (s : ByteArray) (p m : UInt8) (c : Nat) (e : Ending) : Prop := (pok s p m c ∧ e = .returned (.tuple #[.int .i64 (pval s m c), .bool true])) ∨ (¬ pok s p m c ∧ e = .returned (.tuple #[.int .i64 0, .bool false]))
theorem head_byte (s : ByteArray) (h : 0 < s.size) : s.data.toList.head? = some s[0] := by
  have := get_byte s 0 h
  rw [← this, List.head?_eq_getElem?]
theorem byte_eq {a b : UInt8} (h : (a.toNat : Int) = b.toNat) : a = b := UInt8.toNat_inj.1 (by omega)
theorem pend_no {s : ByteArray} {p m : UInt8} {c : Nat} (h : ¬ pok s p m c) : PEnd s p m c (.returned (.tuple #[.int .i64 0, .bool false])) := .inr ⟨h, rfl⟩
theorem jval_b (s : ByteArray) (c : Nat) (h : jok s c) (hc : c ≤ 4) : 0 ≤ jval s c ∧ jval s c ≤ 4000000000 := by
  have ⟨b0, b1, _⟩ := ext_b s 0 c
  have ⟨c0, _, c1⟩ := ext_b s c (c + 2)
  have ⟨d0, _, d1⟩ := ext_b s (c + 2) (c + 4)
  have ⟨e0, _, e1⟩ := ext_b s (c + 4) s.size
  have := h.1
  have b2 := b1 (by omega)
  have c2 := c1 (by omega)
  have d2 := d1 (by omega)
  have e2 := e1 (by omega)
  unfold jval; omega
theorem tail_size (s : ByteArray) : (s.extract 1 s.size).size = s.size - 1 := by simp

set_option maxHeartbeats 1600000 in
theorem parseLat (s : ByteArray) (w : World) (hm : s.size ≤ maxLen) :
    Calls Try.prog 57 #[.string s, .int .u8 78, .int .u8 83, .int .i64 2] w fun e w' => PEnd s 78 83 2 e ∧ w = w' := by
  unfold maxLen at hm
  by_cases h1 : s.size = 9
  · have hsz : ((s.size : Int) != 9) = false := by simp; omega
    have hs1 : s.size ≤ 9 := by omega
    have hs2 : 9 ≤ s.size := by omega
    have H1 := Lib.hid h1
    have h0 : 0 < s.size := by omega
    have HB := Lib.hid (head_byte s h0)
    have ht := tail_size s
    have ht1 : (s.extract 1 s.size).size ≤ maxLen := by unfold maxLen; omega
    clear h1 ht
    by_cases hb : (s[0].toNat : Int) = 78
    · have c1 : ((s[0].toNat : Int) == 78) = true := by rw [beq_iff_eq]; exact hb
      have c2 : ((s[0].toNat : Int) != 78) = false := by rw [bne_eq_false_iff_eq]; exact hb
      have c3 : ((s[0].toNat : Int) == 83) = false := by rw [beq_eq_false_iff_ne]; omega
      have c4 : ((s[0].toNat : Int) != 83) = true := by rw [bne_iff_ne]; omega
      have HP : Hid (s.data.toList.head? = some 78) := by rw [HB.out, byte_eq (b := 78) hb]; rfl
      clear hb HB
      go_enter Try.func57, Try.ntmps57
      go_wp2_with fail
      refine (join_any (s.extract 1 s.size) 2 _ ht1 (by omega)).mono ?_
      rintro e w' ⟨⟨hj, rfl⟩ | ⟨hj, rfl⟩, rfl⟩
      · have HJ := Lib.hid hj
        clear hj
        go_wp2
        go_ret2
        exact ⟨.inl ⟨⟨H1.out, .inl HP.out, HJ.out, fun h => by rw [HP.out] at h; cases h⟩, by rw [pval, if_neg (by rw [HP.out]; decide)]; rfl⟩, rfl⟩
      · have HJ := Lib.hid hj
        clear hj
        go_wp2
        go_ret2
        exact ⟨pend_no (fun h => HJ.out h.2.2.1), rfl⟩
    · by_cases hb2 : (s[0].toNat : Int) = 83
      · have c1 : ((s[0].toNat : Int) == 78) = false := by rw [beq_eq_false_iff_ne]; omega
        have c2 : ((s[0].toNat : Int) != 78) = true := by rw [bne_iff_ne]; omega
        have c3 : ((s[0].toNat : Int) == 83) = true := by rw [beq_iff_eq]; exact hb2
        have c4 : ((s[0].toNat : Int) != 83) = false := by rw [bne_eq_false_iff_eq]; exact hb2
        have HP : Hid (s.data.toList.head? = some 83) := by rw [HB.out, byte_eq (b := 83) hb2]; rfl
        clear hb hb2 HB
        go_enter Try.func57, Try.ntmps57
        go_wp2_with fail
        refine (join_any (s.extract 1 s.size) 2 _ ht1 (by omega)).mono ?_
        rintro e w' ⟨⟨hj, rfl⟩ | ⟨hj, rfl⟩, rfl⟩
        · have ⟨v0, v1⟩ := jval_b _ _ hj (by omega)
          have HJ := Lib.hid hj
          clear hj
          generalize hv : jval (s.extract 1 s.size) 2 = v at *
          have HV := Lib.hid hv
          clear hv
          by_cases hz : v = 0
          · have z1 : (v == 0) = true := by rw [beq_iff_eq]; exact hz
            have HZ := Lib.hid hz
            clear hz
            go_wp2
            go_ret2
            exact ⟨pend_no (fun h => h.2.2.2 HP.out (HV.out.trans HZ.out)), rfl⟩
          · have z1 : (v == 0) = false := by rw [beq_eq_false_iff_ne]; exact hz
            have HZ := Lib.hid hz
            clear hz
            go_wp2
            go_ret2
            exact ⟨.inl ⟨⟨H1.out, .inr HP.out, HJ.out, fun _ h => HZ.out (HV.out.symm.trans h)⟩, by rw [pval, if_pos HP.out, HV.out]; rfl⟩, rfl⟩
        · have HJ := Lib.hid hj
          clear hj
          go_wp2
          go_ret2
          exact ⟨pend_no (fun h => HJ.out h.2.2.1), rfl⟩
      · have c1 : ((s[0].toNat : Int) == 78) = false := by rw [beq_eq_false_iff_ne]; omega
        have c2 : ((s[0].toNat : Int) != 78) = true := by rw [bne_iff_ne]; omega
        have c3 : ((s[0].toNat : Int) == 83) = false := by rw [beq_eq_false_iff_ne]; omega
        have c4 : ((s[0].toNat : Int) != 83) = true := by rw [bne_iff_ne]; omega
        have HN : Hid (¬ (s.data.toList.head? = some 78 ∨ s.data.toList.head? = some 83)) := by
          intro h; rw [HB.out] at h
          rcases h with h | h
          · have := Option.some.inj h; rw [this] at hb; exact hb rfl
          · have := Option.some.inj h; rw [this] at hb2; exact hb2 rfl
        clear hb hb2 HB
        go_enter Try.func57, Try.ntmps57
        go_wp2
        go_ret2
        exact ⟨pend_no (fun h => HN.out h.2.1), rfl⟩
  · have hsz : ((s.size : Int) != 9) = true := by simp; omega
    have H1 := Lib.hid h1
    clear h1
    go_enter Try.func57, Try.ntmps57
    go_wp2
    go_ret2
    exact ⟨pend_no (fun h => H1.out h.1), rfl⟩

set_option maxHeartbeats 1600000 in
theorem rparseLat (s : ByteArray) (w : World) (hm : s.size ≤ maxLen) :
    Calls Try.prog 58 #[.string s, .string ⟨#[78, 83]⟩, .int .i64 2] w fun e w' => PEnd s 78 83 2 e ∧ Below w.heap.size w w' := by
  unfold maxLen at hm
  have hl0 : (((⟨#[78, 83]⟩ : ByteArray)[0]'(by decide)).toNat : Int) = 78 := rfl
  have hl1 : (((⟨#[78, 83]⟩ : ByteArray)[1]'(by decide)).toNat : Int) = 83 := rfl
  by_cases h1 : s.size = 9
  · have hsz : ((s.size : Int) != 9) = false := by simp; omega
    have hs1 : s.size ≤ 9 := by omega
    have hs2 : 9 ≤ s.size := by omega
    have H1 := Lib.hid h1
    have h0 : 0 < s.size := by omega
    have HB := Lib.hid (head_byte s h0)
    have ht := tail_size s
    have ht1 : (s.extract 1 s.size).size ≤ maxLen := by unfold maxLen; omega
    clear h1 ht
    by_cases hb : (s[0].toNat : Int) = 78
    · have c1 : ((s[0].toNat : Int) == 78) = true := by rw [beq_iff_eq]; exact hb
      have c2 : ((s[0].toNat : Int) != 78) = false := by rw [bne_eq_false_iff_eq]; exact hb
      have c3 : ((s[0].toNat : Int) == 83) = false := by rw [beq_eq_false_iff_ne]; omega
      have c4 : ((s[0].toNat : Int) != 83) = true := by rw [bne_iff_ne]; omega
      have HP : Hid (s.data.toList.head? = some 78) := by rw [HB.out, byte_eq (b := 78) hb]; rfl
      clear hb HB
      go_enter Try.func58, Try.ntmps58
      go_wp2
      have hwr : IntKind.i64.wrap (9 : Int) = 9 := by decide
      go_quiet (fail)
      clear hwr
      go_wp2_with fail
      refine (rangle_any (s.extract 1 s.size) 2 _ ht1 (by omega)).mono ?_
      rintro e w' ⟨⟨hj, rfl⟩ | ⟨hj, rfl⟩, rfl⟩
      · have HJ := Lib.hid hj
        clear hj
        go_wp2
        go_quiet (fail)
        go_wp2
        try (go_quiet (fail); go_wp2)
        go_ret2
        exact ⟨.inl ⟨⟨H1.out, .inl HP.out, HJ.out, fun h => by rw [HP.out] at h; cases h⟩, by rw [pval, if_neg (by rw [HP.out]; decide)]; rfl⟩, (by repeat (first | exact Below.refl _ _ | refine below_drewN ?_ _))⟩
      · have HJ := Lib.hid hj
        clear hj
        go_wp2
        go_quiet (fail)
        go_wp2
        try (go_quiet (fail); go_wp2)
        go_ret2
        exact ⟨pend_no (fun h => HJ.out h.2.2.1), (by repeat (first | exact Below.refl _ _ | refine below_drewN ?_ _))⟩
    · by_cases hb2 : (s[0].toNat : Int) = 83
      · have c1 : ((s[0].toNat : Int) == 78) = false := by rw [beq_eq_false_iff_ne]; omega
        have c2 : ((s[0].toNat : Int) != 78) = true := by rw [bne_iff_ne]; omega
        have c3 : ((s[0].toNat : Int) == 83) = true := by rw [beq_iff_eq]; exact hb2
        have c4 : ((s[0].toNat : Int) != 83) = false := by rw [bne_eq_false_iff_eq]; exact hb2
        have HP : Hid (s.data.toList.head? = some 83) := by rw [HB.out, byte_eq (b := 83) hb2]; rfl
        clear hb hb2 HB
        go_enter Try.func58, Try.ntmps58
        go_wp2
        have hwr : IntKind.i64.wrap (9 : Int) = 9 := by decide
        go_quiet (fail)
        clear hwr
        go_wp2_with fail
        refine (rangle_any (s.extract 1 s.size) 2 _ ht1 (by omega)).mono ?_
        rintro e w' ⟨⟨hj, rfl⟩ | ⟨hj, rfl⟩, rfl⟩
        · have ⟨v0, v1⟩ := jval_b _ _ hj (by omega)
          have HJ := Lib.hid hj
          clear hj
          generalize hv : jval (s.extract 1 s.size) 2 = v at *
          have HV := Lib.hid hv
          clear hv
          by_cases hz : v = 0
          · have z1 : (v == 0) = true := by rw [beq_iff_eq]; exact hz
            have HZ := Lib.hid hz
            clear hz
            go_wp2
            go_quiet (fail)
            go_wp2
            try (go_quiet (fail); go_wp2)
            go_ret2
            exact ⟨pend_no (fun h => h.2.2.2 HP.out (HV.out.trans HZ.out)), (by repeat (first | exact Below.refl _ _ | refine below_drewN ?_ _))⟩
          · have z1 : (v == 0) = false := by rw [beq_eq_false_iff_ne]; exact hz
            have HZ := Lib.hid hz
            clear hz
            go_wp2
            go_quiet (fail)
            go_wp2
            try (go_quiet (fail); go_wp2)
            go_ret2
            exact ⟨.inl ⟨⟨H1.out, .inr HP.out, HJ.out, fun _ h => HZ.out (HV.out.symm.trans h)⟩, by rw [pval, if_pos HP.out, HV.out]; rfl⟩, (by repeat (first | exact Below.refl _ _ | refine below_drewN ?_ _))⟩
        · have HJ := Lib.hid hj
          clear hj
          go_wp2
          go_quiet (fail)
          go_wp2
          try (go_quiet (fail); go_wp2)
          go_ret2
          exact ⟨pend_no (fun h => HJ.out h.2.2.1), (by repeat (first | exact Below.refl _ _ | refine below_drewN ?_ _))⟩
      · have c1 : ((s[0].toNat : Int) == 78) = false := by rw [beq_eq_false_iff_ne]; omega
        have c2 : ((s[0].toNat : Int) != 78) = true := by rw [bne_iff_ne]; omega
        have c3 : ((s[0].toNat : Int) == 83) = false := by rw [beq_eq_false_iff_ne]; omega
        have c4 : ((s[0].toNat : Int) != 83) = true := by rw [bne_iff_ne]; omega
        have HN : Hid (¬ (s.data.toList.head? = some 78 ∨ s.data.toList.head? = some 83)) := by
          intro h; rw [HB.out] at h
          rcases h with h | h
          · have := Option.some.inj h; rw [this] at hb; exact hb rfl
          · have := Option.some.inj h; rw [this] at hb2; exact hb2 rfl
        clear hb hb2 HB
        go_enter Try.func58, Try.ntmps58
        go_wp2
        have hwr : IntKind.i64.wrap (9 : Int) = 9 := by decide
        go_quiet (fail)
        clear hwr
        go_wp2
        go_ret2
        exact ⟨pend_no (fun h => HN.out h.2.1), (by repeat (first | exact Below.refl _ _ | refine below_drewN ?_ _))⟩
  · have hsz : ((s.size : Int) != 9) = true := by simp; omega
    have H1 := Lib.hid h1
    clear h1
    go_enter Try.func58, Try.ntmps58
    go_wp2
    have hwr : IntKind.i64.wrap (9 : Int) = 9 := by decide
    go_quiet (fail)
    clear hwr
    go_wp2
    go_ret2
    exact ⟨pend_no (fun h => H1.out h.1), (by repeat (first | exact Below.refl _ _ | refine below_drewN ?_ _))⟩

set_option maxHeartbeats 1600000 in
theorem parseLon (s : ByteArray) (w : World) (hm : s.size ≤ maxLen) :
    Calls Try.prog 57 #[.string s, .int .u8 69, .int .u8 87, .int .i64 3] w fun e w' => PEnd s 69 87 3 e ∧ w = w' := by
  unfold maxLen at hm
  by_cases h1 : s.size = 10
  · have hsz : ((s.size : Int) != 10) = false := by simp; omega
    have hs1 : s.size ≤ 10 := by omega
    have hs2 : 10 ≤ s.size := by omega
    have H1 := Lib.hid h1
    have h0 : 0 < s.size := by omega
    have HB := Lib.hid (head_byte s h0)
    have ht := tail_size s
    have ht1 : (s.extract 1 s.size).size ≤ maxLen := by unfold maxLen; omega
    clear h1 ht
    by_cases hb : (s[0].toNat : Int) = 69
    · have c1 : ((s[0].toNat : Int) == 69) = true := by rw [beq_iff_eq]; exact hb
      have c2 : ((s[0].toNat : Int) != 69) = false := by rw [bne_eq_false_iff_eq]; exact hb
      have c3 : ((s[0].toNat : Int) == 87) = false := by rw [beq_eq_false_iff_ne]; omega
      have c4 : ((s[0].toNat : Int) != 87) = true := by rw [bne_iff_ne]; omega
      have HP : Hid (s.data.toList.head? = some 69) := by rw [HB.out, byte_eq (b := 69) hb]; rfl
      clear hb HB
      go_enter Try.func57, Try.ntmps57
      go_wp2_with fail
      refine (join_any (s.extract 1 s.size) 3 _ ht1 (by omega)).mono ?_
      rintro e w' ⟨⟨hj, rfl⟩ | ⟨hj, rfl⟩, rfl⟩
      · have HJ := Lib.hid hj
        clear hj
        go_wp2
        go_ret2
        exact ⟨.inl ⟨⟨H1.out, .inl HP.out, HJ.out, fun h => by rw [HP.out] at h; cases h⟩, by rw [pval, if_neg (by rw [HP.out]; decide)]; rfl⟩, rfl⟩
      · have HJ := Lib.hid hj
        clear hj
        go_wp2
        go_ret2
        exact ⟨pend_no (fun h => HJ.out h.2.2.1), rfl⟩
    · by_cases hb2 : (s[0].toNat : Int) = 87
      · have c1 : ((s[0].toNat : Int) == 69) = false := by rw [beq_eq_false_iff_ne]; omega
        have c2 : ((s[0].toNat : Int) != 69) = true := by rw [bne_iff_ne]; omega
        have c3 : ((s[0].toNat : Int) == 87) = true := by rw [beq_iff_eq]; exact hb2
        have c4 : ((s[0].toNat : Int) != 87) = false := by rw [bne_eq_false_iff_eq]; exact hb2
        have HP : Hid (s.data.toList.head? = some 87) := by rw [HB.out, byte_eq (b := 87) hb2]; rfl
        clear hb hb2 HB
        go_enter Try.func57, Try.ntmps57
        go_wp2_with fail
        refine (join_any (s.extract 1 s.size) 3 _ ht1 (by omega)).mono ?_
        rintro e w' ⟨⟨hj, rfl⟩ | ⟨hj, rfl⟩, rfl⟩
        · have ⟨v0, v1⟩ := jval_b _ _ hj (by omega)
          have HJ := Lib.hid hj
          clear hj
          generalize hv : jval (s.extract 1 s.size) 3 = v at *
          have HV := Lib.hid hv
          clear hv
          by_cases hz : v = 0
          · have z1 : (v == 0) = true := by rw [beq_iff_eq]; exact hz
            have HZ := Lib.hid hz
            clear hz
            go_wp2
            go_ret2
            exact ⟨pend_no (fun h => h.2.2.2 HP.out (HV.out.trans HZ.out)), rfl⟩
          · have z1 : (v == 0) = false := by rw [beq_eq_false_iff_ne]; exact hz
            have HZ := Lib.hid hz
            clear hz
            go_wp2
            go_ret2
            exact ⟨.inl ⟨⟨H1.out, .inr HP.out, HJ.out, fun _ h => HZ.out (HV.out.symm.trans h)⟩, by rw [pval, if_pos HP.out, HV.out]; rfl⟩, rfl⟩
        · have HJ := Lib.hid hj
          clear hj
          go_wp2
          go_ret2
          exact ⟨pend_no (fun h => HJ.out h.2.2.1), rfl⟩
      · have c1 : ((s[0].toNat : Int) == 69) = false := by rw [beq_eq_false_iff_ne]; omega
        have c2 : ((s[0].toNat : Int) != 69) = true := by rw [bne_iff_ne]; omega
        have c3 : ((s[0].toNat : Int) == 87) = false := by rw [beq_eq_false_iff_ne]; omega
        have c4 : ((s[0].toNat : Int) != 87) = true := by rw [bne_iff_ne]; omega
        have HN : Hid (¬ (s.data.toList.head? = some 69 ∨ s.data.toList.head? = some 87)) := by
          intro h; rw [HB.out] at h
          rcases h with h | h
          · have := Option.some.inj h; rw [this] at hb; exact hb rfl
          · have := Option.some.inj h; rw [this] at hb2; exact hb2 rfl
        clear hb hb2 HB
        go_enter Try.func57, Try.ntmps57
        go_wp2
        go_ret2
        exact ⟨pend_no (fun h => HN.out h.2.1), rfl⟩
  · have hsz : ((s.size : Int) != 10) = true := by simp; omega
    have H1 := Lib.hid h1
    clear h1
    go_enter Try.func57, Try.ntmps57
    go_wp2
    go_ret2
    exact ⟨pend_no (fun h => H1.out h.1), rfl⟩

set_option maxHeartbeats 1600000 in
theorem rparseLon (s : ByteArray) (w : World) (hm : s.size ≤ maxLen) :
    Calls Try.prog 58 #[.string s, .string ⟨#[69, 87]⟩, .int .i64 3] w fun e w' => PEnd s 69 87 3 e ∧ Below w.heap.size w w' := by
  unfold maxLen at hm
  have hl0 : (((⟨#[69, 87]⟩ : ByteArray)[0]'(by decide)).toNat : Int) = 69 := rfl
  have hl1 : (((⟨#[69, 87]⟩ : ByteArray)[1]'(by decide)).toNat : Int) = 87 := rfl
  by_cases h1 : s.size = 10
  · have hsz : ((s.size : Int) != 10) = false := by simp; omega
    have hs1 : s.size ≤ 10 := by omega
    have hs2 : 10 ≤ s.size := by omega
    have H1 := Lib.hid h1
    have h0 : 0 < s.size := by omega
    have HB := Lib.hid (head_byte s h0)
    have ht := tail_size s
    have ht1 : (s.extract 1 s.size).size ≤ maxLen := by unfold maxLen; omega
    clear h1 ht
    by_cases hb : (s[0].toNat : Int) = 69
    · have c1 : ((s[0].toNat : Int) == 69) = true := by rw [beq_iff_eq]; exact hb
      have c2 : ((s[0].toNat : Int) != 69) = false := by rw [bne_eq_false_iff_eq]; exact hb
      have c3 : ((s[0].toNat : Int) == 87) = false := by rw [beq_eq_false_iff_ne]; omega
      have c4 : ((s[0].toNat : Int) != 87) = true := by rw [bne_iff_ne]; omega
      have HP : Hid (s.data.toList.head? = some 69) := by rw [HB.out, byte_eq (b := 69) hb]; rfl
      clear hb HB
      go_enter Try.func58, Try.ntmps58
      go_wp2
      have hwr : IntKind.i64.wrap (10 : Int) = 10 := by decide
      go_quiet (fail)
      clear hwr
      go_wp2_with fail
      refine (rangle_any (s.extract 1 s.size) 3 _ ht1 (by omega)).mono ?_
      rintro e w' ⟨⟨hj, rfl⟩ | ⟨hj, rfl⟩, rfl⟩
      · have HJ := Lib.hid hj
        clear hj
        go_wp2
        go_quiet (fail)
        go_wp2
        try (go_quiet (fail); go_wp2)
        go_ret2
        exact ⟨.inl ⟨⟨H1.out, .inl HP.out, HJ.out, fun h => by rw [HP.out] at h; cases h⟩, by rw [pval, if_neg (by rw [HP.out]; decide)]; rfl⟩, (by repeat (first | exact Below.refl _ _ | refine below_drewN ?_ _))⟩
      · have HJ := Lib.hid hj
        clear hj
        go_wp2
        go_quiet (fail)
        go_wp2
        try (go_quiet (fail); go_wp2)
        go_ret2
        exact ⟨pend_no (fun h => HJ.out h.2.2.1), (by repeat (first | exact Below.refl _ _ | refine below_drewN ?_ _))⟩
    · by_cases hb2 : (s[0].toNat : Int) = 87
      · have c1 : ((s[0].toNat : Int) == 69) = false := by rw [beq_eq_false_iff_ne]; omega
        have c2 : ((s[0].toNat : Int) != 69) = true := by rw [bne_iff_ne]; omega
        have c3 : ((s[0].toNat : Int) == 87) = true := by rw [beq_iff_eq]; exact hb2
        have c4 : ((s[0].toNat : Int) != 87) = false := by rw [bne_eq_false_iff_eq]; exact hb2
        have HP : Hid (s.data.toList.head? = some 87) := by rw [HB.out, byte_eq (b := 87) hb2]; rfl
        clear hb hb2 HB
        go_enter Try.func58, Try.ntmps58
        go_wp2
        have hwr : IntKind.i64.wrap (10 : Int) = 10 := by decide
        go_quiet (fail)
        clear hwr
        go_wp2_with fail
        refine (rangle_any (s.extract 1 s.size) 3 _ ht1 (by omega)).mono ?_
        rintro e w' ⟨⟨hj, rfl⟩ | ⟨hj, rfl⟩, rfl⟩
        · have ⟨v0, v1⟩ := jval_b _ _ hj (by omega)
          have HJ := Lib.hid hj
          clear hj
          generalize hv : jval (s.extract 1 s.size) 3 = v at *
          have HV := Lib.hid hv
          clear hv
          by_cases hz : v = 0
          · have z1 : (v == 0) = true := by rw [beq_iff_eq]; exact hz
            have HZ := Lib.hid hz
            clear hz
            go_wp2
            go_quiet (fail)
            go_wp2
            try (go_quiet (fail); go_wp2)
            go_ret2
            exact ⟨pend_no (fun h => h.2.2.2 HP.out (HV.out.trans HZ.out)), (by repeat (first | exact Below.refl _ _ | refine below_drewN ?_ _))⟩
          · have z1 : (v == 0) = false := by rw [beq_eq_false_iff_ne]; exact hz
            have HZ := Lib.hid hz
            clear hz
            go_wp2
            go_quiet (fail)
            go_wp2
            try (go_quiet (fail); go_wp2)
            go_ret2
            exact ⟨.inl ⟨⟨H1.out, .inr HP.out, HJ.out, fun _ h => HZ.out (HV.out.symm.trans h)⟩, by rw [pval, if_pos HP.out, HV.out]; rfl⟩, (by repeat (first | exact Below.refl _ _ | refine below_drewN ?_ _))⟩
        · have HJ := Lib.hid hj
          clear hj
          go_wp2
          go_quiet (fail)
          go_wp2
          try (go_quiet (fail); go_wp2)
          go_ret2
          exact ⟨pend_no (fun h => HJ.out h.2.2.1), (by repeat (first | exact Below.refl _ _ | refine below_drewN ?_ _))⟩
      · have c1 : ((s[0].toNat : Int) == 69) = false := by rw [beq_eq_false_iff_ne]; omega
        have c2 : ((s[0].toNat : Int) != 69) = true := by rw [bne_iff_ne]; omega
        have c3 : ((s[0].toNat : Int) == 87) = false := by rw [beq_eq_false_iff_ne]; omega
        have c4 : ((s[0].toNat : Int) != 87) = true := by rw [bne_iff_ne]; omega
        have HN : Hid (¬ (s.data.toList.head? = some 69 ∨ s.data.toList.head? = some 87)) := by
          intro h; rw [HB.out] at h
          rcases h with h | h
          · have := Option.some.inj h; rw [this] at hb; exact hb rfl
          · have := Option.some.inj h; rw [this] at hb2; exact hb2 rfl
        clear hb hb2 HB
        go_enter Try.func58, Try.ntmps58
        go_wp2
        have hwr : IntKind.i64.wrap (10 : Int) = 10 := by decide
        go_quiet (fail)
        clear hwr
        go_wp2
        go_ret2
        exact ⟨pend_no (fun h => HN.out h.2.1), (by repeat (first | exact Below.refl _ _ | refine below_drewN ?_ _))⟩
  · have hsz : ((s.size : Int) != 10) = true := by simp; omega
    have H1 := Lib.hid h1
    clear h1
    go_enter Try.func58, Try.ntmps58
    go_wp2
    have hwr : IntKind.i64.wrap (10 : Int) = 10 := by decide
    go_quiet (fail)
    clear hwr
    go_wp2
    go_ret2
    exact ⟨pend_no (fun h => H1.out h.1), (by repeat (first | exact Below.refl _ _ | refine below_drewN ?_ _))⟩
end Go.Proofs.Ytfkpplamhijgcaa
