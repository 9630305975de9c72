/- The reference's reader of numbers against the code's, in plain words. -/
import Derived.Test.YtmjgphaobdplcaaFmU
set_option linter.unusedVariables false
namespace Go.FM
/-- The number that bytes write, seven bits each. -/
def pv : List Nat → Nat
  | [] => 0
  | b :: l => b % 128 + 128 * pv l
theorem pv_snoc (l : List Nat) (b : Nat) : pv (l ++ [b]) = pv l + b % 128 * 2 ^ (7 * l.length) := by
  induction l with
  | nil => simp [pv]
  | cons a l ih =>
    simp only [List.cons_append, pv, ih, List.length_cons]
    rw [Nat.mul_add 128, show 7 * (l.length + 1) = 7 * l.length + 7 by omega, Nat.pow_add, ← Nat.mul_assoc (b % 128), Nat.mul_comm _ (2 ^ 7), ← Nat.add_assoc]
theorem uenc_pv : ∀ (p : List Nat) (b : Nat), (∀ x ∈ p, 128 ≤ x ∧ x < 256) → b < 128 → (p ≠ [] → b ≠ 0) → uenc (pv (p ++ [b])) = p ++ [b]
  | [], b, _, hb, _ => by
    have : pv ([] ++ [b]) = b := by simp [pv]; omega
    rw [this, uenc_one hb]; rfl
  | a :: p, b, hp, hb, h0 => by
    have ha := hp a List.mem_cons_self
    have hb0 := h0 (by simp)
    have ih := uenc_pv p b (fun x hx => hp x (List.mem_cons_of_mem _ hx)) hb (fun _ => hb0)
    have hpos : 0 < pv (p ++ [b]) := by
      rw [pv_snoc]
      have : 0 < b % 128 * 2 ^ (7 * p.length) := Nat.mul_pos (by omega) (Nat.two_pow_pos _)
      omega
    simp only [List.cons_append, pv]
    rw [uenc_big (by omega), show (a % 128 + 128 * pv (p ++ [b])) / 128 = pv (p ++ [b]) by omega, ih]
    congr 1
    omega
theorem pv_uenc (m : Nat) : pv (uenc m) = m := by
  induction m using Nat.strongRecOn with
  | _ m ih =>
    by_cases h : m < 128
    · rw [uenc_one h]; simp [pv]; omega
    · rw [uenc_big h]
      simp only [pv]
      rw [ih (m / 128) (by omega)]; omega
theorem uenc_last {m : Nat} (h : 2 ≤ (uenc m).length) : (uenc m).getLastD 0 ≠ 0 := by
  induction m using Nat.strongRecOn with
  | _ m ih =>
    by_cases h1 : m < 128
    · rw [uenc_one h1] at h; simp at h
    · rw [uenc_big h1] at h ⊢
      by_cases h2 : m / 128 < 128
      · rw [uenc_one h2]; simp; omega
      · have hl : 2 ≤ (uenc (m / 128)).length := by
          rw [uenc_big h2]
          have := uenc_pos (m / 128 / 128)
          simp; omega
        have := ih (m / 128) (by omega) hl
        cases hq : uenc (m / 128) with
        | nil => rw [hq] at hl; simp at hl
        | cons a q => rw [hq] at this; simpa using this
theorem uscan_pre : ∀ (p : List Nat) (j n : Nat) (r : List Nat), (∀ b ∈ p, 128 ≤ b) → uscan j n (p ++ r) = none ∨ ∃ n', uscan j n (p ++ r) = uscan (j + p.length) n' r
  | [], j, n, r, _ => .inr ⟨n, rfl⟩
  | b :: p, j, n, r, h => by
    have hb := h b List.mem_cons_self
    simp only [List.cons_append, uscan]
    split
    · exact .inl rfl
    · rw [if_neg (by omega)]
      rcases uscan_pre p (j + 1) (n ||| ((b &&& 127) * 2 ^ (7 * j) % 18446744073709551616)) r (fun x hx => h x (List.mem_cons_of_mem _ hx)) with h1 | ⟨n', h1⟩
      · exact .inl h1
      · exact .inr ⟨n', by rw [h1, List.length_cons]; congr 1; omega⟩
/-- No end within the bytes. -/
theorem uscan_noend {l : List Nat} (h : ∀ b ∈ l, 128 ≤ b) : uscan 0 0 l = none := by
  rcases uscan_pre l 0 0 [] h with h1 | ⟨n', h1⟩
  · simpa using h1
  · simpa [uscan] using h1
theorem uscan_ten {l : List Nat} (hl : 10 ≤ l.length) (h : ∀ b ∈ l.take 10, 128 ≤ b) : uscan 0 0 l = none := by
  have e : l = l.take 9 ++ l.getD 9 0 :: l.drop 10 := by
    conv => lhs; rw [← List.take_append_drop 9 l, List.drop_eq_getElem_cons (by omega : 9 < l.length)]
    rw [List.getD_eq_getElem?_getD, List.getElem?_eq_getElem (by omega : 9 < l.length)]; rfl
  have h9 : 128 ≤ l.getD 9 0 := by
    refine h _ ?_
    rw [List.getD_eq_getElem?_getD, List.getElem?_eq_getElem (by omega : 9 < l.length)]
    exact List.mem_of_getElem? (i := 9) (by rw [List.getElem?_take, if_pos (by decide), List.getElem?_eq_getElem (by omega : 9 < l.length)]; rfl)
  have hp : ∀ b ∈ l.take 9, 128 ≤ b := fun b hb => h b (by
    obtain ⟨i, hi⟩ := List.mem_iff_getElem?.1 hb
    rw [List.getElem?_take] at hi
    split at hi
    · exact List.mem_of_getElem? (i := i) (by rw [List.getElem?_take, if_pos (by omega)]; exact hi)
    · cases hi)
  rw [e]
  rcases uscan_pre (l.take 9) 0 0 (l.getD 9 0 :: l.drop 10) hp with h1 | ⟨n', h1⟩
  · exact h1
  · rw [h1, uscan, show 0 + (l.take 9).length = 9 by simp; omega, if_pos (.inl ⟨rfl, by omega⟩)]
/-- The reference's test at the first byte below 128: these are the only bytes of that number. -/
theorem uscan_end {l : List Nat} (hs : Small l) {i : Nat} (hi : i < l.length) (h9 : i < 10) (hp : ∀ b ∈ l.take i, 128 ≤ b) (hb : l.getD i 0 < 128) :
    uscan 0 0 l = if uenc (pv (l.take (i + 1)) % 18446744073709551616) = l.take (i + 1) then some (pv (l.take (i + 1)) % 18446744073709551616, l.drop (i + 1)) else none := by
  have et : l.take (i + 1) = l.take i ++ [l.getD i 0] := by
    rw [List.take_add_one, List.getD_eq_getElem?_getD, List.getElem?_eq_getElem hi]; rfl
  have el : l = l.take (i + 1) ++ l.drop (i + 1) := (List.take_append_drop _ l).symm
  split
  · rename_i he
    have hm : pv (l.take (i + 1)) % 18446744073709551616 < 18446744073709551616 := Nat.mod_lt _ (by decide)
    have := uscan_uenc 9 _ 0 0 (l.drop (i + 1)) (Nat.lt_of_lt_of_le hm (by decide)) (by decide) (by simpa using hm) (fun h => absurd h (by decide)) (by decide)
    conv => lhs; rw [el, ← he]
    rw [this]; simp
  · rename_i he
    have hbad : (i = 9 ∧ 1 < l.getD i 0) ∨ (0 < i ∧ l.getD i 0 = 0) := by
      refine Classical.byContradiction fun hn => he ?_
      have h0 : l.take i ≠ [] → l.getD i 0 ≠ 0 := fun hne h0 => hn (.inr ⟨Nat.pos_of_ne_zero (fun e => hne (by rw [e]; rfl)), h0⟩)
      have hu := uenc_pv (l.take i) (l.getD i 0) (fun x hx => ⟨hp x hx, hs.take i x hx⟩) hb h0
      have hlt : pv (l.take i ++ [l.getD i 0]) < 18446744073709551616 := by
        have hpl : ∀ (q : List Nat), pv q < 2 ^ (7 * q.length) := fun q => by
          induction q with
          | nil => simp [pv]
          | cons a q ih => simp only [pv, List.length_cons]; rw [show 7 * (q.length + 1) = 7 + 7 * q.length by omega, Nat.pow_add]; omega
        have h1 := hpl (l.take i)
        have hl : (l.take i).length = i := by simp; omega
        rw [hl] at h1
        rw [pv_snoc, hl, Nat.mod_eq_of_lt hb]
        by_cases hi9 : i = 9
        · subst hi9
          have : l.getD 9 0 ≤ 1 := by
            have : ¬ 1 < l.getD 9 0 := fun h => hn (.inl ⟨rfl, h⟩)
            omega
          have h2 : l.getD 9 0 * 2 ^ (7 * 9) ≤ 1 * 2 ^ (7 * 9) := Nat.mul_le_mul_right _ this
          omega
        · have h2 : l.getD i 0 * 2 ^ (7 * i) ≤ 127 * 2 ^ (7 * i) := Nat.mul_le_mul_right _ (by omega)
          have h3 : 2 ^ (7 * i) ≤ 2 ^ 56 := Nat.pow_le_pow_right (by decide) (by omega)
          omega
      rw [et, Nat.mod_eq_of_lt hlt, hu]
    have e2 : l = l.take i ++ l.getD i 0 :: l.drop (i + 1) := by
      conv => lhs; rw [el, et]
      simp
    have hl : (l.take i).length = i := by simp; omega
    conv => lhs; rw [e2]
    rcases uscan_pre (l.take i) 0 0 (l.getD i 0 :: l.drop (i + 1)) hp with h1 | ⟨n', h1⟩
    · exact h1
    · rw [h1, uscan, hl, Nat.zero_add, if_pos hbad]
end Go.FM
namespace Go.FM
/-- The reference's place against the code's rest. -/
def Rr (n : Nat) (bs cur : List Nat) (bad : Bool) (at_ : Int) : Prop := (bad = true ∧ at_ = -1) ∨ (bad = false ∧ ∃ k, k ≤ n ∧ at_ = ((k : Nat) : Int) ∧ cur = bs.drop k)
theorem take_drop' (l : List Nat) (k m : Nat) : (l.take (k + m)).drop k = (l.drop k).take m := by
  rw [List.drop_take, show k + m - k = m by omega]
theorem getD_drop' (l : List Nat) (k i : Nat) : (l.drop k).getD i 0 = l.getD (k + i) 0 := by
  rw [List.getD_eq_getElem?_getD, List.getElem?_drop, ← List.getD_eq_getElem?_getD]
theorem pv_next {l : List Nat} {i a : Nat} (hi : i < l.length) (ha : a = pv (l.take i) % 18446744073709551616) : (a + (l.getD i 0 % 128 * 2 ^ (7 * i) % 18446744073709551616)) % 18446744073709551616 = pv (l.take (i + 1)) % 18446744073709551616 := by
  have et : l.take (i + 1) = l.take i ++ [l.getD i 0] := by
    rw [List.take_add_one, List.getD_eq_getElem?_getD, List.getElem?_eq_getElem hi]; rfl
  have hl : (l.take i).length = i := by simp; omega
  rw [et, pv_snoc, hl, ha]
  omega
theorem high_next {l : List Nat} {i : Nat} (hi : i < l.length) (h : ∀ b ∈ l.take i, 128 ≤ b) (hb : 128 ≤ l.getD i 0) : ∀ b ∈ l.take (i + 1), 128 ≤ b := by
  have et : l.take (i + 1) = l.take i ++ [l.getD i 0] := by
    rw [List.take_add_one, List.getD_eq_getElem?_getD, List.getElem?_eq_getElem hi]; rfl
  rw [et]
  intro b hb'
  rcases List.mem_append.1 hb' with h1 | h1
  · exact h b h1
  · simp only [List.mem_singleton] at h1; rw [h1]; exact hb
end Go.FM
namespace Go.FM
def rdI (bs : List Nat) (bad : Bool) (most : Int) : Nat × List Nat × Bool :=
  if (rdU bs bad).2.2 = true ∨ most < 0 ∨ most < ((rdU bs bad).1 : Int) then (0, (rdU bs bad).2.1, true) else ((rdU bs bad).1, (rdU bs bad).2.1, false)
theorem rdI_bad {bs : List Nat} {bad : Bool} {most : Int} (h : (rdU bs bad).2.2 = true ∨ most < 0 ∨ most < ((rdU bs bad).1 : Int)) : rdI bs bad most = (0, (rdU bs bad).2.1, true) := by unfold rdI; rw [if_pos h]
theorem rdI_good {bs : List Nat} {bad : Bool} {most : Int} (h1 : (rdU bs bad).2.2 = false) (h2 : ¬ most < 0) (h3 : ¬ most < ((rdU bs bad).1 : Int)) : rdI bs bad most = ((rdU bs bad).1, (rdU bs bad).2.1, false) := by
  unfold rdI; rw [if_neg (by rw [h1]; simp; omega)]
theorem rdI_le (bs : List Nat) (bad : Bool) (most : Int) (hm : most ≤ 9223372036854775807) : (rdI bs bad most).1 ≤ 9223372036854775807 := by
  unfold rdI; split
  · simp
  · rename_i h; simp at h ⊢; omega
def rdB (bs : List Nat) (bad : Bool) (most : Int) : List Nat × List Nat × Bool :=
  if (rdI bs bad most).2.2 = true ∨ (rdI bs bad most).2.1.length < (rdI bs bad most).1 then ([], (rdI bs bad most).2.1, true) else ((rdI bs bad most).2.1.take (rdI bs bad most).1, (rdI bs bad most).2.1.drop (rdI bs bad most).1, false)
theorem rdB_bad {bs : List Nat} {bad : Bool} {most : Int} (h : (rdI bs bad most).2.2 = true ∨ (rdI bs bad most).2.1.length < (rdI bs bad most).1) : rdB bs bad most = ([], (rdI bs bad most).2.1, true) := by unfold rdB; rw [if_pos h]
theorem rdB_good {bs : List Nat} {bad : Bool} {most : Int} (h1 : (rdI bs bad most).2.2 = false) (h2 : ¬ (rdI bs bad most).2.1.length < (rdI bs bad most).1) : rdB bs bad most = ((rdI bs bad most).2.1.take (rdI bs bad most).1, (rdI bs bad most).2.1.drop (rdI bs bad most).1, false) := by
  unfold rdB; rw [if_neg (by rw [h1]; simp; omega)]
end Go.FM
namespace Go.FM
theorem rdU_len (bs : List Nat) (bad : Bool) : (rdU bs bad).2.1.length ≤ bs.length := by
  unfold rdU
  split
  · exact Nat.le_refl _
  · split
    · rename_i h
      obtain ⟨k, h1, _, _⟩ := uscan_sub _ _ _ h
      rw [h1]; simp
    · exact Nat.le_refl _
theorem rdI_len (bs : List Nat) (bad : Bool) (most : Int) : (rdI bs bad most).2.1.length ≤ bs.length := by
  unfold rdI; split <;> exact rdU_len bs bad
theorem rdU_small {bs : List Nat} (h : Small bs) (bad : Bool) : Small (rdU bs bad).2.1 := by
  unfold rdU
  split
  · exact h
  · split
    · rename_i h1
      obtain ⟨k, h2, _, _⟩ := uscan_sub _ _ _ h1
      rw [h2]; exact h.drop k
    · exact h
theorem rdI_small {bs : List Nat} (h : Small bs) (bad : Bool) (most : Int) : Small (rdI bs bad most).2.1 := by
  unfold rdI; split <;> exact rdU_small h bad
theorem rdB_small {bs : List Nat} (h : Small bs) (bad : Bool) (most : Int) : Small (rdB bs bad most).1 := by
  unfold rdB; split
  · exact Small.nil
  · exact (rdI_small h bad most).take _
end Go.FM
