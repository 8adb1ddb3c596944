/- Texts of angles and the angles of texts: what is written is read back, and what is read is what was written. No program in sight. -/
import Derived.Test.YtfkpplamhijgcaaPos
namespace Go.Proofs.Ytfkpplamhijgcaa
open Go.RowKit
set_option linter.unusedVariables false

theorem byte_of {n : Int} (h0 : 0 ≤ n) : ((UInt8.ofNat (48 + n % 10).toNat).toNat : Int) = 48 + n % 10 := by
  have : (UInt8.ofNat (48 + n % 10).toNat).toNat = (48 + n % 10).toNat := by simp; omega
  rw [this, Int.toNat_of_nonneg (by omega)]
theorem dgb_num (n : Int) (c : Nat) (h0 : 0 ≤ n) (h1 : n < pw c) : numv (dgb n c) = n ∧ alld (dgb n c) = true := by
  induction c generalizing n with
  | zero => simp only [pw] at h1; have : n = 0 := by omega
            subst this; exact ⟨rfl, rfl⟩
  | succ c ih =>
    simp only [pw] at h1
    have ⟨a1, a2⟩ := ih (n / 10) (by omega) (by omega)
    simp only [dgb]
    rw [numv_snoc, alld_snoc, a1, a2, byte_of h0]
    exact ⟨by omega, by rw [isd_yes (by rw [byte_of h0]; omega)]; rfl⟩
theorem dgb_snoc (l : List UInt8) (b : UInt8) (h : alld (l ++ [b]) = true) (ih : dgb (numv l) l.length = l) : dgb (numv (l ++ [b])) (l.length + 1) = l ++ [b] := by
  rw [alld_snoc, Bool.and_eq_true] at h
  have hb := of_decide_eq_true h.2
  have hv := numv_b l h.1
  rw [numv_snoc]
  simp only [dgb]
  rw [show (10 * numv l + ((b.toNat : Int) - 48)) / 10 = numv l by omega, ih, show (10 * numv l + ((b.toNat : Int) - 48)) % 10 = (b.toNat : Int) - 48 by omega]
  congr 2
  apply UInt8.toNat_inj.1
  rw [show (48 + ((b.toNat : Int) - 48)).toNat = b.toNat by omega]
  simp
theorem dgb_back (n : Nat) : ∀ l : List UInt8, l.length = n → alld l = true → dgb (numv l) n = l := by
  induction n with
  | zero => intro l hl _; obtain rfl := List.eq_nil_of_length_eq_zero hl; rfl
  | succ n ih =>
    intro l hl h
    have hne : l ≠ [] := by intro e; subst e; simp at hl
    have e := (List.dropLast_concat_getLast hne).symm
    have hl2 : l.dropLast.length = n := by simp [hl]
    rw [e] at h ⊢
    have h3 := dgb_snoc l.dropLast (l.getLast hne) h (by rw [hl2]; exact ih _ hl2 (by rw [alld_snoc, Bool.and_eq_true] at h; exact h.1))
    rw [hl2] at h3; exact h3
theorem numw_of {l : List UInt8} (h : alld l = true) : numw l = numv l := by unfold numw; rw [if_pos h]
theorem ext_mk (l : List UInt8) (a b : Nat) : ext ⟨l.toArray⟩ a b = (l.drop a).take (b - a) := by unfold ext; rw [Lib.extract_data]
theorem pw3 : pw 3 = 1000 := by decide

/-- the text of an angle is in order, and means it. -/
theorem sexb_ok (a : Int) (c : Nat) (h0 : 0 ≤ a) (h1 : a / 360000 < pw c) : jok ⟨(sexb a c).toArray⟩ c ∧ jval ⟨(sexb a c).toArray⟩ c = a := by
  have d1 := dgb_num (a / 360000) c (by omega) h1
  have d2 := dgb_num (a / 6000 % 60) 2 (by omega) (by rw [pw2]; omega)
  have d3 := dgb_num (a / 100 % 60) 2 (by omega) (by rw [pw2]; omega)
  have d4 := dgb_num (a % 100) 2 (by omega) (by rw [pw2]; omega)
  have hs : (⟨(sexb a c).toArray⟩ : ByteArray).size = c + 6 := by show (sexb a c).toArray.size = _; simp [sexb_len]
  have l1 := dgb_len (a / 360000) c
  have l2 := dgb_len (a / 6000 % 60) 2
  have l3 := dgb_len (a / 100 % 60) 2
  have l4 := dgb_len (a % 100) 2
  have e0 : ext ⟨(sexb a c).toArray⟩ 0 c = dgb (a / 360000) c := by
    rw [ext_mk, sexb]; simp [l1]
  have e1 : ext ⟨(sexb a c).toArray⟩ c (c + 2) = dgb (a / 6000 % 60) 2 := by
    rw [ext_mk, sexb, List.drop_left' l1, show c + 2 - c = 2 by omega, List.take_left' l2]
  have e2 : ext ⟨(sexb a c).toArray⟩ (c + 2) (c + 4) = dgb (a / 100 % 60) 2 := by
    rw [ext_mk, sexb, ← List.drop_drop, List.drop_left' l1, List.drop_left' l2, show c + 4 - (c + 2) = 2 by omega, List.take_left' l3]
  have e3 : ext ⟨(sexb a c).toArray⟩ (c + 4) (⟨(sexb a c).toArray⟩ : ByteArray).size = dgb (a % 100) 2 := by
    rw [hs, ext_mk, sexb, show c + 4 = c + 2 + 2 by omega, ← List.drop_drop, ← List.drop_drop, List.drop_left' l1, List.drop_left' l2, List.drop_left' l3, show c + 6 - (c + 2 + 2) = 2 by omega, List.take_of_length_le (by omega)]
  refine ⟨⟨hs, ?_, ?_, ?_⟩, ?_⟩
  · rw [alld_parts hs, e0, e1, e2, e3, d1.2, d2.2, d3.2, d4.2]; rfl
  · rw [e1, numw_of d2.2, d2.1]; omega
  · rw [e2, numw_of d3.2, d3.1]; omega
  · unfold jval; rw [e0, e1, e2, e3, numw_of d1.2, numw_of d2.2, numw_of d3.2, numw_of d4.2, d1.1, d2.1, d3.1, d4.1]; omega
/-- a text in order is that of its angle. -/
theorem sexb_back (s : ByteArray) (c : Nat) (h : jok s c) : sexb (jval s c) c = s.data.toList := by
  have hl : s.data.toList.length = c + 6 := h.1
  have hsz : s.size = c + 6 := h.1
  have x0 := alld_ext h.2.1 0 c
  have x1 := alld_ext h.2.1 c (c + 2)
  have x2 := alld_ext h.2.1 (c + 2) (c + 4)
  have x3 := alld_ext h.2.1 (c + 4) s.size
  have m1 := h.2.2.1
  have m2 := h.2.2.2
  have n0 : (ext s 0 c).length = c := by unfold ext; rw [Lib.extract_data]; simp; omega
  have n1 : (ext s c (c + 2)).length = 2 := by unfold ext; rw [Lib.extract_data]; simp; omega
  have n2 : (ext s (c + 2) (c + 4)).length = 2 := by unfold ext; rw [Lib.extract_data]; simp; omega
  have n3 : (ext s (c + 4) s.size).length = 2 := by unfold ext; rw [Lib.extract_data]; simp; omega
  have b0 := dgb_back c _ n0 x0
  have b1 := dgb_back 2 _ n1 x1
  have b2 := dgb_back 2 _ n2 x2
  have b3 := dgb_back 2 _ n3 x3
  have v0 := numv_b _ x0
  have v1 := numv_b _ x1
  have v2 := numv_b _ x2
  have v3 := numv_b _ x3
  rw [n1, pw2] at v1; rw [n2, pw2] at v2; rw [n3, pw2] at v3
  rw [numw_of x1] at m1; rw [numw_of x2] at m2
  have e : s.data.toList = ext s 0 c ++ (ext s c (c + 2) ++ (ext s (c + 2) (c + 4) ++ ext s (c + 4) s.size)) := by
    simp only [ext, Lib.extract_data]
    generalize s.data.toList = l at *
    rw [show c + 2 - c = 2 by omega, show c + 4 - (c + 2) = 2 by omega, show s.size - (c + 4) = 2 by have := h.1; omega, List.drop_zero, Nat.sub_zero,
      List.take_of_length_le (l := l.drop (c + 4)) (by simp; omega)]
    have e1 : l.drop (c + 4) = (l.drop (c + 2)).drop 2 := by rw [List.drop_drop]
    have e2 : l.drop (c + 2) = (l.drop c).drop 2 := by rw [List.drop_drop]
    rw [e1, List.take_append_drop, e2, List.take_append_drop, List.take_append_drop]
  rw [e]
  unfold sexb jval
  rw [numw_of x0, numw_of x1, numw_of x2, numw_of x3]
  generalize numv (ext s 0 c) = D at *
  generalize numv (ext s c (c + 2)) = M at *
  generalize numv (ext s (c + 2) (c + 4)) = S at *
  generalize numv (ext s (c + 4) s.size) = F at *
  rw [show (D * 360000 + M * 6000 + S * 100 + F) / 360000 = D by omega, show (D * 360000 + M * 6000 + S * 100 + F) / 6000 % 60 = M by omega,
    show (D * 360000 + M * 6000 + S * 100 + F) / 100 % 60 = S by omega, show (D * 360000 + M * 6000 + S * 100 + F) % 100 = F by omega, b0, b1, b2, b3]

theorem mk_back (s : ByteArray) (l : List UInt8) (h : s.data.toList = l) : s = ⟨l.toArray⟩ := by
  cases s; simp at h; subst h; simp
theorem tail_mk (b : UInt8) (l : List UInt8) : (⟨(b :: l).toArray⟩ : ByteArray).extract 1 (⟨(b :: l).toArray⟩ : ByteArray).size = ⟨l.toArray⟩ := by
  apply mk_back; rw [Lib.extract_to_end]; simp
theorem sgt_ok (a : Int) (p m : UInt8) (c : Nat) (hpm : p ≠ m) (h0 : a.natAbs / 360000 < pw c) : pok ⟨(sgt a p m c).toArray⟩ p m c ∧ pval ⟨(sgt a p m c).toArray⟩ m c = a := by
  by_cases h : a < 0
  · have e : sgt a p m c = m :: sexb (-a) c := by unfold sgt; rw [if_pos h]
    have ⟨k1, k2⟩ := sexb_ok (-a) c (by omega) (by omega)
    rw [e]
    have hd : (⟨(m :: sexb (-a) c).toArray⟩ : ByteArray).data.toList.head? = some m := rfl
    have ht := tail_mk m (sexb (-a) c)
    refine ⟨⟨?_, .inr hd, by rw [ht]; exact k1, fun _ => by rw [ht, k2]; omega⟩, ?_⟩
    · show (m :: sexb (-a) c).toArray.size = _; simp [sexb_len]
    · unfold pval; rw [if_pos hd, ht, k2]; omega
  · have e : sgt a p m c = p :: sexb a c := by unfold sgt; rw [if_neg h]
    have ⟨k1, k2⟩ := sexb_ok a c (by omega) (by omega)
    rw [e]
    have hd : (⟨(p :: sexb a c).toArray⟩ : ByteArray).data.toList.head? = some p := rfl
    have ht := tail_mk p (sexb a c)
    have hn : ¬ (⟨(p :: sexb a c).toArray⟩ : ByteArray).data.toList.head? = some m := by rw [hd]; intro h; exact hpm (Option.some.inj h)
    refine ⟨⟨?_, .inl hd, by rw [ht]; exact k1, fun h => absurd h hn⟩, ?_⟩
    · show (p :: sexb a c).toArray.size = _; simp [sexb_len]
    · unfold pval; rw [if_neg hn, ht, k2]
theorem sgt_back (s : ByteArray) (p m : UInt8) (c : Nat) (hc : c ≤ 4) (hpm : p ≠ m) (h : pok s p m c) : sgt (pval s m c) p m c = s.data.toList := by
  obtain ⟨hs, hh, hj, hz⟩ := h
  have ht : (s.extract 1 s.size).data.toList = s.data.toList.drop 1 := Lib.extract_to_end s 1
  have hb := sexb_back _ _ hj
  have ⟨v0, v1⟩ := jval_b _ _ hj hc
  have hcons : ∀ b, s.data.toList.head? = some b → s.data.toList = b :: s.data.toList.drop 1 := fun b hb => by
    cases h : s.data.toList with
    | nil => rw [h] at hb; cases hb
    | cons x xs => rw [h] at hb; simp at hb; subst hb; rfl
  by_cases hm : s.data.toList.head? = some m
  · have z := hz hm
    have e : pval s m c = - jval (s.extract 1 s.size) c := by unfold pval; rw [if_pos hm]
    rw [e]; unfold sgt; rw [if_pos (by omega), Int.neg_neg, hb, ht]; exact (hcons m hm).symm
  · have hp : s.data.toList.head? = some p := hh.resolve_right hm
    have e : pval s m c = jval (s.extract 1 s.size) c := by unfold pval; rw [if_neg hm]
    rw [e]; unfold sgt; rw [if_neg (by omega), hb, ht]; exact (hcons p hp).symm

theorem plat_text (a : Int) (h0 : -32400000 ≤ a) (h1 : a ≤ 32400000) : plat ⟨(latT a).toArray⟩ = (a, 0) := by
  have ⟨k1, k2⟩ := sgt_ok a 78 83 2 (by decide) (by rw [pw2]; omega)
  exact prs_in k1 k2 ⟨h0, h1⟩
theorem plon_text (a : Int) (h0 : -64800000 < a) (h1 : a ≤ 64800000) : plon ⟨(lonT a).toArray⟩ = (a, 0) := by
  have ⟨k1, k2⟩ := sgt_ok a 69 87 3 (by decide) (by rw [pw3]; omega)
  exact prs_in k1 k2 ⟨by omega, h1⟩
theorem plat_back (s : ByteArray) (h : (plat s).2 = 0) : latT (plat s).1 = s.data.toList ∧ -32400000 ≤ (plat s).1 ∧ (plat s).1 ≤ 32400000 := by
  unfold plat prs at *
  by_cases h1 : pok s 78 83 2
  · rw [if_pos h1] at h ⊢
    by_cases h2 : -32400000 ≤ pval s 83 2 ∧ pval s 83 2 ≤ 32400000
    · rw [if_pos h2]; exact ⟨sgt_back s _ _ _ (by omega) (by decide) h1, h2⟩
    · rw [if_neg h2] at h; cases h
  · rw [if_neg h1] at h; cases h
theorem plon_back (s : ByteArray) (h : (plon s).2 = 0) : lonT (plon s).1 = s.data.toList ∧ -64800000 < (plon s).1 ∧ (plon s).1 ≤ 64800000 := by
  unfold plon prs at *
  by_cases h1 : pok s 69 87 3
  · rw [if_pos h1] at h ⊢
    by_cases h2 : -64799999 ≤ pval s 87 3 ∧ pval s 87 3 ≤ 64800000
    · rw [if_pos h2]; exact ⟨sgt_back s _ _ _ (by omega) (by decide) h1, by omega, h2.2⟩
    · rw [if_neg h2] at h; cases h
  · rw [if_neg h1] at h; cases h
theorem ppos_text (a b : Int) (h0 : -32400000 ≤ a) (h1 : a ≤ 32400000) (h2 : -64800000 < b) (h3 : b ≤ 64800000) : ppos ⟨(latT a ++ lonT b).toArray⟩ = ((a, b), 0) := by
  have la : (latT a).length = 9 := by unfold latT; rw [sgt_len]
  have lb : (lonT b).length = 10 := by unfold lonT; rw [sgt_len]
  have hs : (⟨(latT a ++ lonT b).toArray⟩ : ByteArray).size = 19 := by show (latT a ++ lonT b).toArray.size = _; simp [la, lb]
  have e1 : (⟨(latT a ++ lonT b).toArray⟩ : ByteArray).extract 0 9 = ⟨(latT a).toArray⟩ := by
    apply mk_back; rw [Lib.extract_data]; simp [la]
  have e2 : (⟨(latT a ++ lonT b).toArray⟩ : ByteArray).extract 9 (⟨(latT a ++ lonT b).toArray⟩ : ByteArray).size = ⟨(lonT b).toArray⟩ := by
    apply mk_back; rw [Lib.extract_to_end]; simp [la]
  unfold ppos
  rw [e1, e2, plat_text a h0 h1, plon_text b h2 h3, if_neg (by rw [hs]; simp), if_neg (by simp), if_neg (by simp)]
theorem ppos_back (s : ByteArray) (h : (ppos s).2 = 0) : latT (ppos s).1.1 ++ lonT (ppos s).1.2 = s.data.toList ∧ (-32400000 ≤ (ppos s).1.1 ∧ (ppos s).1.1 ≤ 32400000) ∧ (-64800000 < (ppos s).1.2 ∧ (ppos s).1.2 ≤ 64800000) := by
  unfold ppos at *
  by_cases h1 : s.size = 19
  · rw [if_neg (by simp [h1])] at h ⊢
    by_cases h2 : (plat (s.extract 0 9)).2 = 0
    · rw [if_neg (by simp [h2])] at h ⊢
      by_cases h3 : (plon (s.extract 9 s.size)).2 = 0
      · rw [if_neg (by simp [h3])]
        have ⟨a1, a2⟩ := plat_back _ h2
        have ⟨b1, b2⟩ := plon_back _ h3
        refine ⟨?_, a2, b2⟩
        show latT (plat (s.extract 0 9)).1 ++ lonT (plon (s.extract 9 s.size)).1 = _
        rw [a1, b1, Lib.extract_to_end, Lib.extract_data]; simp
      · rw [if_pos h3] at h; exact absurd h h3
    · rw [if_pos h2] at h; exact absurd h h2
  · rw [if_pos h1] at h; cases h
theorem pcrs_text (t : Int) (h0 : 0 ≤ t) (h1 : t < 3600) : pcrs ⟨(dgb t 4).toArray⟩ = (t * 36000, 0) := by
  have ⟨k1, k2⟩ := dgb_num t 4 h0 (by rw [pw4]; omega)
  have hs : (⟨(dgb t 4).toArray⟩ : ByteArray).size = 4 := by show (dgb t 4).toArray.size = _; simp [dgb_len]
  unfold pcrs; rw [if_pos ⟨hs, k2⟩, k1, if_neg (by omega)]
theorem pcrs_back (s : ByteArray) (h : (pcrs s).2 = 0) : dgb (((pcrs s).1 % 129600000 + 18000) / 36000 % 3600) 4 = s.data.toList := by
  unfold pcrs at *
  by_cases h1 : s.size = 4 ∧ alld s.data.toList = true
  · rw [if_pos h1] at h ⊢
    by_cases h2 : numv s.data.toList ≥ 3600
    · rw [if_pos h2] at h; cases h
    · rw [if_neg h2]
      have hb := numv_b _ h1.2
      show dgb ((numv s.data.toList * 36000 % 129600000 + 18000) / 36000 % 3600) 4 = _
      rw [show (numv s.data.toList * 36000 % 129600000 + 18000) / 36000 % 3600 = numv s.data.toList by omega]
      exact dgb_back 4 _ h1.1 h1.2
  · rw [if_neg h1] at h; cases h
theorem pex_text (a : Int) (h0 : 0 ≤ a) (h1 : a < 129600000) : pex ⟨(sexb a 3).toArray⟩ = (a, 0) := by
  have ⟨k1, k2⟩ := sexb_ok a 3 h0 (by rw [pw3]; omega)
  unfold pex; rw [if_pos k1, k2, if_neg (by omega)]
theorem pex_back (s : ByteArray) (h : (pex s).2 = 0) : sexb ((pex s).1 % 129600000) 3 = s.data.toList := by
  unfold pex at *
  by_cases h1 : jok s 3
  · rw [if_pos h1] at h ⊢
    by_cases h2 : jval s 3 ≥ 129600000
    · rw [if_pos h2] at h; cases h
    · rw [if_neg h2]
      have hb := jval_b s 3 h1 (by omega)
      show sexb (jval s 3 % 129600000) 3 = _
      rw [show jval s 3 % 129600000 = jval s 3 by omega]
      exact sexb_back s 3 h1
  · rw [if_neg h1] at h; cases h
end Go.Proofs.Ytfkpplamhijgcaa
