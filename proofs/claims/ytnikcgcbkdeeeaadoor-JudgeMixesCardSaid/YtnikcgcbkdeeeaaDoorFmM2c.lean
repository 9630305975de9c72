/- Numbers read back from bytes, in plain words. -/
import Derived.Test.YtnikcgcbkdeeeaaDoorFmM2
set_option linter.unusedVariables false
namespace Go.FM
/-- What the code's reader finds from the byte at place i on, n being what it has. -/
def uscan : Nat → Nat → List Nat → Option (Nat × List Nat)
  | _, _, [] => none
  | i, n, b :: r => if (i = 9 ∧ 1 < b) ∨ (0 < i ∧ b = 0) then none else
      if b < 128 then some (n ||| ((b &&& 127) * 2 ^ (7 * i) % 18446744073709551616), r) else uscan (i + 1) (n ||| ((b &&& 127) * 2 ^ (7 * i) % 18446744073709551616)) r
def rdU (bs : List Nat) (bad : Bool) : Nat × List Nat × Bool := if bad then (0, bs, true) else match uscan 0 0 bs with
  | some (v, r) => (v, r, false)
  | none => (0, bs, true)
theorem and127 (b : Nat) : b &&& 127 = b % 128 := by
  have := Nat.and_two_pow_sub_one_eq_mod b 7
  simpa using this
/-- One more byte. -/
theorem or_shift {n i b : Nat} (hn : n < 128 ^ i) (hb : b < 128) (h : n + b * 128 ^ i < 18446744073709551616) : n ||| (b * 2 ^ (7 * i) % 18446744073709551616) = n + b * 128 ^ i := by
  have e : 2 ^ (7 * i) = 128 ^ i := by rw [Nat.pow_mul]
  have h1 : b * 2 ^ (7 * i) % 18446744073709551616 = b * 128 ^ i := by rw [e]; exact Nat.mod_eq_of_lt (by omega)
  rw [h1, ← e, Nat.mul_comm b, Nat.or_comm, ← Nat.two_pow_add_eq_or_of_lt (by rw [e]; exact hn)]
  omega
/-- What was written is read. -/
theorem uscan_uenc : ∀ (k m i n : Nat) (r : List Nat), m < 128 ^ (k + 1) → n < 128 ^ i → n + m * 128 ^ i < 18446744073709551616 → (0 < i → m ≠ 0) → i ≤ 9 → uscan i n (uenc m ++ r) = some (n + m * 128 ^ i, r) := by
  intro k
  induction k with
  | zero =>
    intro m i n r hm hn hl hi h9
    have hm : m < 128 := by simpa using hm
    rw [uenc_one hm]
    simp only [List.cons_append, List.nil_append, uscan]
    rw [if_neg, if_pos hm, and127, Nat.mod_eq_of_lt hm, or_shift hn hm hl]
    rintro (⟨rfl, h1⟩ | ⟨h0, h1⟩)
    · have : 2 * 128 ^ 9 ≤ m * 128 ^ 9 := Nat.mul_le_mul_right _ h1
      omega
    · exact hi h0 h1
  | succ k ih =>
    intro m i n r hm hn hl hi h9
    by_cases h1 : m < 128
    · rw [uenc_one h1]
      simp only [List.cons_append, List.nil_append, uscan]
      rw [if_neg, if_pos h1, and127, Nat.mod_eq_of_lt h1, or_shift hn h1 hl]
      rintro (⟨rfl, h2⟩ | ⟨h0, h2⟩)
      · have : 2 * 128 ^ 9 ≤ m * 128 ^ 9 := Nat.mul_le_mul_right _ h2
        omega
      · exact hi h0 h2
    · rw [uenc_big h1]
      have hi9 : i ≠ 9 := fun e => by
        subst e
        have : 128 * 128 ^ 9 ≤ m * 128 ^ 9 := Nat.mul_le_mul_right _ (by omega)
        omega
      have hsm : m % 128 * 128 ^ i ≤ m * 128 ^ i := Nat.mul_le_mul_right _ (Nat.mod_le _ _)
      have hsum : m * 128 ^ i = m % 128 * 128 ^ i + (m / 128) * 128 ^ (i + 1) := by
        conv => lhs; rw [← Nat.mod_add_div m 128]
        rw [Nat.add_mul, Nat.pow_succ, Nat.mul_comm 128 (m / 128), Nat.mul_assoc, Nat.mul_comm 128]
      simp only [List.cons_append, uscan]
      rw [if_neg (by rintro (⟨h, _⟩ | ⟨_, h⟩) <;> omega), if_neg (by omega), and127, show (m % 128 + 128) % 128 = m % 128 by omega, or_shift hn (Nat.mod_lt _ (by decide)) (by omega)]
      have hn2 : n + m % 128 * 128 ^ i < 128 ^ (i + 1) := by
        have : m % 128 * 128 ^ i ≤ 127 * 128 ^ i := Nat.mul_le_mul_right _ (by omega)
        rw [Nat.pow_succ]; omega
      rw [ih (m / 128) (i + 1) _ r (by rw [Nat.div_lt_iff_lt_mul (by decide)]; rw [← Nat.pow_succ]; exact hm) hn2 (by omega) (fun _ => by omega) (by omega)]
      congr 2
      omega
theorem rdU_uenc {m : Nat} (hm : m < 18446744073709551616) (r : List Nat) : rdU (uenc m ++ r) false = (m, r, false) := by
  have h := uscan_uenc 9 m 0 0 r (Nat.lt_of_lt_of_le hm (by decide)) (by decide) (by simpa using hm) (fun h => absurd h (by decide)) (by decide)
  simp only [rdU, Bool.false_eq_true, if_false]
  rw [h]
  simp
theorem rdU_bad (bs : List Nat) : rdU bs true = (0, bs, true) := rfl
theorem rdU_nil : rdU [] false = (0, [], true) := rfl
theorem uscan_sub : ∀ (l : List Nat) (i n : Nat) {v : Nat} {r : List Nat}, uscan i n l = some (v, r) → ∃ k, r = l.drop k ∧ k ≤ l.length ∧ 0 < k
  | [], _, _, _, _, h => by simp [uscan] at h
  | b :: l, i, n, v, r, h => by
    simp only [uscan] at h
    split at h
    · cases h
    · split at h
      · injection h with h
        injection h with _ h
        exact ⟨1, by simp [h], by simp, by decide⟩
      · obtain ⟨k, h1, h2, h3⟩ := uscan_sub l _ _ h
        exact ⟨k + 1, by simp [h1], by simp; omega, by omega⟩
theorem uscan_lt : ∀ (l : List Nat) (i n : Nat) {v : Nat} {r : List Nat}, n < 18446744073709551616 → uscan i n l = some (v, r) → v < 18446744073709551616
  | [], _, _, _, _, _, h => by simp [uscan] at h
  | b :: l, i, n, v, r, hn, h => by
    have hb : n ||| ((b &&& 127) * 2 ^ (7 * i) % 18446744073709551616) < 18446744073709551616 := Nat.or_lt_two_pow (n := 64) hn (Nat.mod_lt _ (by decide))
    simp only [uscan] at h
    split at h
    · cases h
    · split at h
      · injection h with h
        injection h with h _
        rw [← h]; exact hb
      · exact uscan_lt l _ _ hb h
theorem rdU_lt (bs : List Nat) (bad : Bool) : (rdU bs bad).1 < 18446744073709551616 := by
  unfold rdU
  split
  · show (0 : Nat) < 18446744073709551616; decide
  · split
    · rename_i h; exact uscan_lt _ _ _ (by decide) h
    · show (0 : Nat) < 18446744073709551616; decide
theorem uscan_get {l : List Nat} {i n : Nat} (h : i < l.length) : uscan i n (l.drop i) = if (i = 9 ∧ 1 < l.getD i 0) ∨ (0 < i ∧ l.getD i 0 = 0) then none else
    if l.getD i 0 < 128 then some (n ||| ((l.getD i 0 &&& 127) * 2 ^ (7 * i) % 18446744073709551616), l.drop (i + 1)) else uscan (i + 1) (n ||| ((l.getD i 0 &&& 127) * 2 ^ (7 * i) % 18446744073709551616)) (l.drop (i + 1)) := by
  have e : l.drop i = l.getD i 0 :: l.drop (i + 1) := by
    rw [List.drop_eq_getElem_cons h, List.getD_eq_getElem?_getD, List.getElem?_eq_getElem h]; rfl
  rw [e, uscan]
/-- Cut short, the bytes of one number are none. -/
theorem uscan_cut : ∀ (m i n k : Nat), k < (uenc m).length → uscan i n ((uenc m).take k) = none := by
  intro m
  induction m using Nat.strongRecOn with
  | _ m ih =>
    intro i n k hk
    by_cases h1 : m < 128
    · rw [uenc_one h1] at hk ⊢
      have : k = 0 := by simpa using hk
      subst this; rfl
    · rw [uenc_big h1] at hk ⊢
      cases k with
      | zero => rfl
      | succ k =>
        simp only [List.take_succ_cons, uscan]
        split
        · rfl
        · rw [if_neg (by omega)]
          exact ih _ (by omega) _ _ _ (by simpa using hk)
/-- .. and so are those that end too late. -/
theorem uscan_long : ∀ (m i n : Nat) (z : List Nat), (∀ b ∈ z, b = 128) → uscan i n ((uenc m).dropLast ++ [(uenc m).getLastD 0 ||| 128] ++ z ++ [0]) = none := by
  have tail : ∀ (z : List Nat) (i n : Nat), (∀ b ∈ z, b = 128) → 0 < i → uscan i n (z ++ [0]) = none := by
    intro z
    induction z with
    | nil => intro i n _ hi; simp [uscan, hi]
    | cons b z ih =>
      intro i n hz hi
      have hb := hz b List.mem_cons_self
      subst hb
      simp only [List.cons_append, uscan]
      split
      · rfl
      · rw [if_neg (by decide)]
        exact ih _ _ (fun x hx => hz x (List.mem_cons_of_mem _ hx)) (by omega)
  intro m
  induction m using Nat.strongRecOn with
  | _ m ih =>
    intro i n z hz
    by_cases h1 : m < 128
    · rw [uenc_one h1]
      have : m ||| 128 = m + 128 := by
        have := or128 m
        rw [Nat.mod_eq_of_lt (by omega), Nat.mod_eq_of_lt h1] at this
        exact this
      have e : ([m] : List Nat).getLastD 0 ||| 128 = m + 128 := this
      rw [e]
      simp only [List.dropLast_singleton, List.nil_append, List.cons_append, uscan]
      split
      · rfl
      · rw [if_neg (by omega)]
        exact tail z _ _ hz (by omega)
    · have hne : uenc (m / 128) ≠ [] := by
        intro e
        have := uscan_cut (m / 128) 0 0
        rw [uenc] at e
        split at e <;> simp at e
      rw [uenc_big h1, List.dropLast_cons_of_ne_nil hne, List.getLastD_cons]
      simp only [List.cons_append, uscan]
      split
      · rfl
      · rw [if_neg (by omega)]
        have := ih (m / 128) (by omega) (i + 1) (n ||| (((m % 128 + 128) &&& 127) * 2 ^ (7 * i) % 18446744073709551616)) z hz
        rw [show (uenc (m / 128)).getLastD (m % 128 + 128) = (uenc (m / 128)).getLastD 0 from by
          cases h : uenc (m / 128) with
          | nil => exact absurd h hne
          | cons a l => rfl]
        simpa using this
end Go.FM
namespace Go.FM
theorem uenc_pos (m : Nat) : 1 ≤ (uenc m).length := by
  rw [uenc]; split <;> simp
theorem rdU_none {bs : List Nat} (h : uscan 0 0 bs = none) : rdU bs false = (0, bs, true) := by
  simp only [rdU, Bool.false_eq_true, if_false]; rw [h]
theorem rdU_some {bs r : List Nat} {v : Nat} (h : uscan 0 0 bs = some (v, r)) : rdU bs false = (v, r, false) := by
  simp only [rdU, Bool.false_eq_true, if_false]; rw [h]
theorem set_last {l : List Nat} (h : 1 ≤ l.length) (x : Nat) : l.set (l.length - 1) x = l.dropLast ++ [x] := by
  have hne : l ≠ [] := fun e => by rw [e] at h; simp at h
  conv => lhs; rw [← List.dropLast_concat_getLast hne]
  rw [List.set_append_right _ _ (by simp)]
  simp
theorem get_last {l : List Nat} {z : Nat} (h : l[l.length - 1]? = some z) : l.getLastD 0 = z := by
  rw [List.getLastD_eq_getLast?, List.getLast?_eq_getElem?, h]; rfl
/-- A number written longer than it must be. -/
theorem short_bad {m i z : Nat} (hz : (([] : List Nat) ++ uenc m)[0 + (uenc m).length - 1]? = some z) : rdU ((([] ++ uenc m).set (0 + (uenc m).length - 1) (z ||| 128) ++ List.replicate i 128) ++ [0]) false =
    (0, (([] ++ uenc m).set (0 + (uenc m).length - 1) (z ||| 128) ++ List.replicate i 128) ++ [0], true) := by
  refine rdU_none ?_
  simp only [List.nil_append, Nat.zero_add] at hz ⊢
  rw [set_last (uenc_pos m), ← get_last hz]
  exact uscan_long m 0 0 (List.replicate i 128) (fun b hb => List.eq_of_mem_replicate hb)
end Go.FM
