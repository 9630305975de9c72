/- Who hears whom, in plain words. -/
import Derived.Test.YtojlmilkdijiaaaDoorFmN3
set_option linter.unusedVariables false
set_option linter.unusedSimpArgs false
namespace Go.FM
theorem has_bit {s : Nat} {j : Int} (h0 : 0 ≤ j) (h1 : j < 16) : has s j = true ↔ s / 2 ^ j.toNat % 2 = 1 := by
  unfold has; rw [decide_eq_true_iff]; exact ⟨fun h => h.2.2, fun h => ⟨h0, h1, h⟩⟩
theorem has_wth {s : Nat} {i j : Int} (hi : 0 ≤ i) (hi2 : i < 16) (h0 : 0 ≤ j) (h1 : j < 16) : has (wth s i) j = (has s j || decide (j = i)) := by
  obtain ⟨z, rfl⟩ := Int.eq_ofNat_of_zero_le hi
  rw [Bool.eq_iff_iff, has_bit h0 h1, wth_bit (by omega), Bool.or_eq_true, has_bit h0 h1, decide_eq_true_iff]
  constructor
  · rintro (h | h)
    · exact .inl h
    · exact .inr (by omega)
  · rintro (h | h)
    · exact .inl h
    · exact .inr (by omega)
theorem has_wto {s : Nat} {i j : Int} (hs : s < 65536) (hi : 0 ≤ i) (hi2 : i < 16) (h0 : 0 ≤ j) (h1 : j < 16) : has (wto s i) j = (has s j && !decide (j = i)) := by
  obtain ⟨z, rfl⟩ := Int.eq_ofNat_of_zero_le hi
  rw [Bool.eq_iff_iff, has_bit h0 h1, wto_bit (by omega) (by omega) hs, Bool.and_eq_true, has_bit h0 h1, Bool.not_eq_true', decide_eq_false_iff_not]
  constructor
  · rintro ⟨h, h2⟩; exact ⟨h, by omega⟩
  · rintro ⟨h, h2⟩; exact ⟨h, by omega⟩
theorem has_all {k : Nat} {j : Int} (hk : k ≤ 16) (h0 : 0 ≤ j) (h1 : j < k) : has (2 ^ k - 1) j = true := by
  rw [has_bit h0 (by omega)]
  obtain ⟨m, rfl⟩ := Int.eq_ofNat_of_zero_le h0
  have hm : m < k := by omega
  have := Nat.testBit_two_pow_sub_one k m
  rw [Nat.testBit, Nat.shiftRight_eq_div_pow] at this
  simp [hm] at this
  simpa using this
theorem getD_set (l : List Nat) (i j x : Nat) : (l.set i x).getD j 0 = if i = j ∧ i < l.length then x else l.getD j 0 := by
  rw [List.getD_eq_getElem?_getD, List.getD_eq_getElem?_getD, List.getElem?_set]
  by_cases h : i = j
  · subst h
    by_cases h2 : i < l.length
    · simp [h2]
    · simp [h2]
  · simp [h]
section
variable {s : NetS} {a b x y : Int}
theorem setH_get (f : Nat → Int → Nat) (hl : s.hr.length = 16) (hn : s.n ≤ 16) (he : s.setE a b = true) (hx : s.isIn x = true) : (NetS.setH f s a b).hr.getD x.toNat 0 = if x = b then f (s.hr.getD b.toNat 0) a else if x = a then f (s.hr.getD a.toNat 0) b else s.hr.getD x.toNat 0 := by
  have h1 := isIn_t hx
  unfold NetS.setE at he
  simp only [Bool.and_eq_true, decide_eq_true_eq] at he
  obtain ⟨⟨ha, hb⟩, hab⟩ := he
  have ha := isIn_t ha
  have hb := isIn_t hb
  have he : s.setE a b = true := setE_t (decide_eq_true ha) (decide_eq_true hb) hab
  unfold NetS.setH
  rw [if_pos he]
  simp only []
  rw [getD_set, getD_set, List.length_set, hl]
  by_cases hxb : x = b
  · rw [if_pos ⟨by omega, by omega⟩, if_pos hxb]
  · rw [if_neg (by omega), if_neg hxb]
    by_cases hxa : x = a
    · rw [if_pos ⟨by omega, by omega⟩, if_pos hxa]
    · rw [if_neg (by omega), if_neg hxa]
theorem setH_len (f : Nat → Int → Nat) (h : s.hr.length = 16) : (NetS.setH f s a b).hr.length = 16 := by
  unfold NetS.setH; split
  · simp [h]
  · exact h
theorem setH_isIn (f : Nat → Int → Nat) : (NetS.setH f s a b).isIn x = s.isIn x := by unfold NetS.isIn; rw [setH_n]
theorem hears_cut (hl : s.hr.length = 16) (hb : ∀ z ∈ s.hr, z < 65536) (hn : s.n ≤ 16) (hx : s.isIn x = true) (hy : s.isIn y = true) :
    (NetS.setH wto s a b).hears x y = (s.hears x y && !(s.setE a b && (decide (x = a ∧ y = b) || decide (x = b ∧ y = a)))) := by
  cases he : s.setE a b with
  | false =>
    have : NetS.setH wto s a b = s := if_neg (by rw [he]; decide)
    rw [this]; simp
  | true =>
    have h1 := isIn_t hx
    have h2 := isIn_t hy
    have he' := he
    unfold NetS.setE at he'
    simp only [Bool.and_eq_true, decide_eq_true_eq] at he'
    obtain ⟨⟨ha, hb'⟩, hab⟩ := he'
    have ha := isIn_t ha
    have hb' := isIn_t hb'
    unfold NetS.hears
    rw [setH_isIn, hx, setH_get wto hl hn he hx]
    simp only [Bool.true_and]
    by_cases hxb : x = b
    · subst hxb
      rw [if_pos rfl, has_wto (getD_hb hb _) (by omega) (by omega) (by omega) (by omega)]
      have : ¬ x = a := fun h => hab h.symm
      simp [this]
    · rw [if_neg hxb]
      by_cases hxa : x = a
      · subst hxa
        rw [if_pos rfl, has_wto (getD_hb hb _) (by omega) (by omega) (by omega) (by omega)]
        simp [hxb]
      · rw [if_neg hxa]; simp [hxa, hxb]
theorem hears_join (hl : s.hr.length = 16) (hb : ∀ z ∈ s.hr, z < 65536) (hn : s.n ≤ 16) (hx : s.isIn x = true) (hy : s.isIn y = true) :
    (NetS.setH wth s a b).hears x y = (s.hears x y || (s.setE a b && (decide (x = a ∧ y = b) || decide (x = b ∧ y = a)))) := by
  cases he : s.setE a b with
  | false =>
    have : NetS.setH wth s a b = s := if_neg (by rw [he]; decide)
    rw [this]; simp
  | true =>
    have h1 := isIn_t hx
    have h2 := isIn_t hy
    have he' := he
    unfold NetS.setE at he'
    simp only [Bool.and_eq_true, decide_eq_true_eq] at he'
    obtain ⟨⟨ha, hb'⟩, hab⟩ := he'
    have ha := isIn_t ha
    have hb' := isIn_t hb'
    unfold NetS.hears
    rw [setH_isIn, hx, setH_get wth hl hn he hx]
    simp only [Bool.true_and]
    by_cases hxb : x = b
    · subst hxb
      rw [if_pos rfl, has_wth (by omega) (by omega) (by omega) (by omega)]
      have : ¬ x = a := fun h => hab h.symm
      simp [this]
    · rw [if_neg hxb]
      by_cases hxa : x = a
      · subst hxa
        rw [if_pos rfl, has_wth (by omega) (by omega) (by omega) (by omega)]
        simp [hxb]
      · rw [if_neg hxa]; simp [hxa, hxb]
theorem setH_hb {f : Nat → Int → Nat} (hf : ∀ (x : Nat) (y : Int), x < 65536 → f x y < 65536) (hb : ∀ z ∈ s.hr, z < 65536) : ∀ z ∈ (NetS.setH f s a b).hr, z < 65536 := by
  unfold NetS.setH; split
  · exact set_hb (set_hb hb (hf _ _ (getD_hb hb _))) (hf _ _ (getD_hb hb _))
  · exact hb
theorem hears_new {n : Int} (h1 : 1 ≤ n) (h2 : n ≤ 16) (hx : 0 ≤ x ∧ x < n) (hy : 0 ≤ y ∧ y < n) : (netNew n).hears x y = true := by
  unfold NetS.hears
  rw [show (netNew n).isIn x = true from decide_eq_true hx, Bool.true_and]
  have : (netNew n).hr.getD x.toNat 0 = 2 ^ n.toNat - 1 := by
    show (List.replicate n.toNat (2 ^ n.toNat - 1) ++ List.replicate (16 - n.toNat) 0).getD x.toNat 0 = _
    rw [List.getD_eq_getElem?_getD, List.getElem?_append_left (by simp; omega), List.getElem?_replicate, if_pos (by omega)]
    rfl
  rw [this]
  exact has_all (by omega) hy.1 (by omega)
end
end Go.FM
