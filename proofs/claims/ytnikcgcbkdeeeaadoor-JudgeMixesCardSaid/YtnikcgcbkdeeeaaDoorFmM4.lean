/- Sets of nodes as numbers below 2^16: how many, the least, all of them. No program here. -/
set_option linter.unusedVariables false
set_option linter.unusedSimpArgs false
namespace Go.FM

def has (s : Nat) (i : Int) : Bool := decide (0 ≤ i ∧ i < 16 ∧ s / 2 ^ i.toNat % 2 = 1)
/-- How many of the lowest f bits are set. -/
def pc : Nat → Nat → Nat
  | 0, _ => 0
  | f + 1, s => s % 2 + pc f (s / 2)
def cnt (s : Nat) : Nat := pc 16 s
/-- Those that are set, from place o on. -/
def els : Nat → Nat → Nat → List Nat
  | 0, _, _ => []
  | f + 1, o, s => if s % 2 = 1 then o :: els f (o + 1) (s / 2) else els f (o + 1) (s / 2)
def lst (s : Nat) : List Nat := els 16 0 s
/-- The place of the lowest bit. -/
def low : Nat → Nat → Nat
  | 0, _ => 0
  | f + 1, s => if s % 2 = 1 then 0 else low f (s / 2) + 1
def least (s : Nat) : Int := if s = 0 then -1 else low 16 s
def wth (s : Nat) (i : Int) : Nat := if 0 ≤ i ∧ i < 16 then s ||| 2 ^ i.toNat else s
def wto (s : Nat) (i : Int) : Nat := if 0 ≤ i ∧ i < 16 then s &&& (65535 - 2 ^ i.toNat) else s
def most (s : Nat) (n : Int) : Bool := decide (1 ≤ n ∧ n ≤ 16 ∧ n < 2 * cnt s)

/-- All numbers b * 2^k .. (b + 1) * 2^k - 1. -/
def every (p : Nat → Bool) : Nat → Nat → Bool
  | 0, b => p b
  | k + 1, b => every p k (2 * b) && every p k (2 * b + 1)
theorem every_spec (p : Nat → Bool) : ∀ (k b : Nat), every p k b = true → ∀ n, b * 2 ^ k ≤ n → n < (b + 1) * 2 ^ k → p n = true
  | 0, b, h, n, h1, h2 => by
    have : n = b := by omega
    subst this; exact h
  | k + 1, b, h, n, h1, h2 => by
    simp only [every, Bool.and_eq_true] at h
    rw [Nat.pow_succ] at h1 h2
    by_cases hn : n < (2 * b + 1) * 2 ^ k
    · exact every_spec p k (2 * b) h.1 n (by rw [Nat.mul_comm 2 b, Nat.mul_assoc, Nat.mul_comm 2]; exact h1) hn
    · refine every_spec p k (2 * b + 1) h.2 n (by omega) ?_
      have : (2 * b + 1 + 1) * 2 ^ k = (b + 1) * (2 ^ k * 2) := by
        rw [show 2 * b + 1 + 1 = (b + 1) * 2 by omega, Nat.mul_assoc, Nat.mul_comm 2]
      omega
theorem every16 {p : Nat → Bool} (h : every p 16 0 = true) (n : Nat) (hn : n < 65536) : p n = true := every_spec p 16 0 h n (by omega) (by simpa using hn)
theorem every8 {p : Nat → Bool} (h : every p 8 0 = true) (n : Nat) (hn : n < 256) : p n = true := every_spec p 8 0 h n (by omega) (by simpa using hn)

theorem pc_add : ∀ (f g s : Nat), pc (f + g) s = pc f s + pc g (s / 2 ^ f)
  | 0, g, s => by simp [pc]
  | f + 1, g, s => by
    rw [show f + 1 + g = (f + g) + 1 by omega]
    simp only [pc]
    rw [pc_add f g (s / 2), Nat.pow_succ, Nat.mul_comm, ← Nat.div_div_eq_div_mul]
    omega
theorem pc_mod : ∀ (f s : Nat), pc f (s % 2 ^ f) = pc f s
  | 0, s => rfl
  | f + 1, s => by
    simp only [pc]
    have h1 : s % 2 ^ (f + 1) % 2 = s % 2 := by rw [Nat.pow_succ, Nat.mul_comm]; exact Nat.mod_mul_right_mod s 2 _
    have h2 : s % 2 ^ (f + 1) / 2 = s / 2 % 2 ^ f := by rw [Nat.pow_succ, Nat.mul_comm]; exact Nat.mod_mul_right_div_self s 2 _
    rw [h1, h2, pc_mod f]
theorem cnt_bytes (s : Nat) (h : s < 65536) : pc 8 (s / 256) + pc 8 (s % 256) = cnt s := by
  have h1 : pc 16 s = pc 8 s + pc 8 (s / 256) := pc_add 8 8 s
  have h2 : pc 8 (s % 256) = pc 8 s := pc_mod 8 s
  simp only [cnt]
  omega
theorem pc_le : ∀ (f s : Nat), pc f s ≤ f
  | 0, s => by simp [pc]
  | f + 1, s => by simp only [pc]; have := pc_le f (s / 2); omega
theorem and_mod2 (a b : Nat) : (a &&& b) % 2 = a % 2 * (b % 2) := by
  have h1 := Nat.mod_two_eq_zero_or_one a
  have h2 := Nat.mod_two_eq_zero_or_one b
  have h3 := Nat.and_mod_two_pow (a := a) (b := b) (n := 1)
  simp only [Nat.pow_one] at h3
  rw [h3]
  rcases h1 with h1 | h1 <;> rcases h2 with h2 | h2 <;> simp [h1, h2]
theorem or_mod2 (a b : Nat) : (a ||| b) % 2 = a % 2 + b % 2 - a % 2 * (b % 2) := by
  have h1 := Nat.mod_two_eq_zero_or_one a
  have h2 := Nat.mod_two_eq_zero_or_one b
  have h3 := Nat.or_mod_two_pow (a := a) (b := b) (n := 1)
  simp only [Nat.pow_one] at h3
  rw [h3]
  rcases h1 with h1 | h1 <;> rcases h2 with h2 | h2 <;> simp [h1, h2]
theorem and_div2 (a b : Nat) : (a &&& b) / 2 = a / 2 &&& b / 2 := by
  have := Nat.and_div_two_pow (a := a) (b := b) (n := 1)
  simpa using this
theorem or_div2 (a b : Nat) : (a ||| b) / 2 = a / 2 ||| b / 2 := by
  have := Nat.or_div_two_pow (a := a) (b := b) (n := 1)
  simpa using this
theorem pc_andor : ∀ (f a b : Nat), pc f (a ||| b) + pc f (a &&& b) = pc f a + pc f b
  | 0, a, b => rfl
  | f + 1, a, b => by
    simp only [pc, and_div2, or_div2, and_mod2, or_mod2]
    have := pc_andor f (a / 2) (b / 2)
    rcases Nat.mod_two_eq_zero_or_one a with h1 | h1 <;> rcases Nat.mod_two_eq_zero_or_one b with h2 | h2 <;> simp only [h1, h2] <;> omega
theorem pc_zero : ∀ (f : Nat), pc f 0 = 0
  | 0 => rfl
  | f + 1 => by simp [pc, pc_zero f]
/-- Fewer bits than there are places. -/
theorem pc_lt : ∀ (f k s : Nat), s < 2 ^ k → pc f s ≤ k
  | 0, k, s, _ => by simp [pc]
  | f + 1, 0, s, h => by
    have : s = 0 := by omega
    subst this; rw [pc_zero]; omega
  | f + 1, k + 1, s, h => by
    simp only [pc]
    have := pc_lt f k (s / 2) (by rw [Nat.pow_succ] at h; omega)
    omega

/-! ### the least, and all but that -/
theorem land_pred_even (t : Nat) (ht : t ≠ 0) : (2 * t) &&& (2 * t - 1) = 2 * (t &&& (t - 1)) := by
  have h1 : ((2 * t) &&& (2 * t - 1)) % 2 = 0 := by rw [and_mod2]; simp
  have h2 : ((2 * t) &&& (2 * t - 1)) / 2 = t &&& (t - 1) := by
    rw [and_div2]
    congr 1 <;> omega
  omega
theorem land_pred_odd (t : Nat) : (2 * t + 1) &&& (2 * t) = 2 * t := by
  have h1 : ((2 * t + 1) &&& (2 * t)) % 2 = 0 := by rw [and_mod2]; simp
  have h2 : ((2 * t + 1) &&& (2 * t)) / 2 = t := by
    rw [and_div2, show (2 * t + 1) / 2 = t by omega, show 2 * t / 2 = t by omega, Nat.and_self]
  omega
theorem els_pred : ∀ (f o s : Nat), s ≠ 0 → s < 2 ^ f → els f o s = (o + low f s) :: els f o (s &&& (s - 1))
  | 0, o, s, h, h2 => by simp at h2; omega
  | f + 1, o, s, h, h2 => by
    rcases Nat.mod_two_eq_zero_or_one s with hs | hs
    · obtain ⟨t, rfl⟩ : ∃ t, s = 2 * t := ⟨s / 2, by omega⟩
      have ht : t ≠ 0 := by omega
      rw [land_pred_even t ht]
      have e1 : 2 * t / 2 = t := by omega
      have e2 : 2 * (t &&& (t - 1)) / 2 = t &&& (t - 1) := by omega
      have e3 : 2 * t % 2 ≠ 1 := by omega
      have e4 : 2 * (t &&& (t - 1)) % 2 ≠ 1 := by omega
      simp only [els, low, e1, e2, if_neg e3, if_neg e4]
      rw [els_pred f (o + 1) t ht (by rw [Nat.pow_succ] at h2; omega)]
      congr 1; omega
    · obtain ⟨t, rfl⟩ : ∃ t, s = 2 * t + 1 := ⟨s / 2, by omega⟩
      rw [show 2 * t + 1 - 1 = 2 * t by omega, land_pred_odd]
      have e1 : (2 * t + 1) / 2 = t := by omega
      have e2 : 2 * t / 2 = t := by omega
      have e3 : (2 * t + 1) % 2 = 1 := by omega
      have e4 : 2 * t % 2 ≠ 1 := by omega
      simp only [els, low, e1, e2, if_pos e3, if_neg e4, Nat.add_zero]
theorem lst_pred (s : Nat) (h : s ≠ 0) (h2 : s < 65536) : lst s = low 16 s :: lst (s &&& (s - 1)) := by
  have := els_pred 16 0 s h (by simpa using h2)
  simpa [lst] using this
theorem els_zero : ∀ (f o : Nat), els f o 0 = []
  | 0, _ => rfl
  | f + 1, o => by simp [els, els_zero f]
theorem els_length : ∀ (f o s : Nat), (els f o s).length = pc f s
  | 0, _, _ => rfl
  | f + 1, o, s => by
    simp only [els, pc]
    have := els_length f (o + 1) (s / 2)
    rcases Nat.mod_two_eq_zero_or_one s with hs | hs
    · rw [if_neg (by omega)]; omega
    · rw [if_pos hs, List.length_cons]; omega
theorem lst_length (s : Nat) : (lst s).length = cnt s := els_length 16 0 s
theorem low_lt : ∀ (f s : Nat), s ≠ 0 → s < 2 ^ f → low f s < f
  | 0, s, h, h2 => by simp at h2; omega
  | f + 1, s, h, h2 => by
    simp only [low]
    split
    · omega
    · have := low_lt f (s / 2) (by omega) (by rw [Nat.pow_succ] at h2; omega)
      omega
theorem els_mem : ∀ (f o s i : Nat), i ∈ els f o s ↔ o ≤ i ∧ i < o + f ∧ s / 2 ^ (i - o) % 2 = 1
  | 0, o, s, i => by simp [els]; omega
  | f + 1, o, s, i => by
    have ih := els_mem f (o + 1) (s / 2) i
    have key : o + 1 ≤ i → s / 2 / 2 ^ (i - (o + 1)) = s / 2 ^ (i - o) := fun h => by
      rw [Nat.div_div_eq_div_mul, show i - o = (i - (o + 1)) + 1 by omega, Nat.pow_succ, Nat.mul_comm]
    have key2 : i = o → s / 2 ^ (i - o) = s := fun h => by subst h; simp
    simp only [els]
    split
    · rename_i hs
      rw [List.mem_cons, ih]
      constructor
      · rintro (rfl | ⟨h1, h2, h3⟩)
        · exact ⟨by omega, by omega, by simpa using hs⟩
        · exact ⟨by omega, by omega, by rw [← key h1]; exact h3⟩
      · rintro ⟨h1, h2, h3⟩
        by_cases e : i = o
        · exact .inl e
        · exact .inr ⟨by omega, by omega, by rw [key (by omega)]; exact h3⟩
    · rename_i hs
      rw [ih]
      constructor
      · rintro ⟨h1, h2, h3⟩
        exact ⟨by omega, by omega, by rw [← key h1]; exact h3⟩
      · rintro ⟨h1, h2, h3⟩
        by_cases e : i = o
        · rw [key2 e] at h3; omega
        · exact ⟨by omega, by omega, by rw [key (by omega)]; exact h3⟩

/-! ### with and without one -/
theorem add_eq_or : ∀ (i s : Nat), s / 2 ^ i % 2 = 0 → s + 2 ^ i = s ||| 2 ^ i
  | 0, s, h => by
    simp only [Nat.pow_zero, Nat.div_one] at h ⊢
    have h1 := or_mod2 s 1
    have h2 := or_div2 s 1
    rw [show (1 : Nat) / 2 = 0 from rfl, Nat.or_zero] at h2
    rw [show (1 : Nat) % 2 = 1 from rfl] at h1
    omega
  | i + 1, s, h => by
    rw [Nat.pow_succ, Nat.mul_comm, ← Nat.div_div_eq_div_mul] at h
    have ih := add_eq_or i (s / 2) h
    have h1 := or_mod2 s (2 ^ (i + 1))
    have h2 := or_div2 s (2 ^ (i + 1))
    have e1 : 2 ^ (i + 1) % 2 = 0 := by rw [Nat.pow_succ]; omega
    have e2 : 2 ^ (i + 1) / 2 = 2 ^ i := by rw [Nat.pow_succ]; omega
    rw [e1] at h1
    rw [e2] at h2
    simp only [Nat.mul_zero, Nat.add_zero, Nat.sub_zero] at h1
    have e3 : 2 ^ (i + 1) = 2 * 2 ^ i := by rw [Nat.pow_succ]; omega
    omega
theorem or_set : ∀ (i s : Nat), s / 2 ^ i % 2 = 1 → s ||| 2 ^ i = s
  | 0, s, h => by
    simp only [Nat.pow_zero, Nat.div_one] at h ⊢
    have h1 := or_mod2 s 1
    have h2 := or_div2 s 1
    rw [show (1 : Nat) / 2 = 0 from rfl, Nat.or_zero] at h2
    rw [show (1 : Nat) % 2 = 1 from rfl] at h1
    omega
  | i + 1, s, h => by
    rw [Nat.pow_succ, Nat.mul_comm, ← Nat.div_div_eq_div_mul] at h
    have ih := or_set i (s / 2) h
    have h1 := or_mod2 s (2 ^ (i + 1))
    have h2 := or_div2 s (2 ^ (i + 1))
    have e1 : 2 ^ (i + 1) % 2 = 0 := by rw [Nat.pow_succ]; omega
    have e2 : 2 ^ (i + 1) / 2 = 2 ^ i := by rw [Nat.pow_succ]; omega
    rw [e1] at h1
    rw [e2] at h2
    simp only [Nat.mul_zero, Nat.add_zero, Nat.sub_zero] at h1
    omega
/-- Without: in f places. -/
theorem and_not : ∀ (f i s : Nat), i < f → s < 2 ^ f → s &&& (2 ^ f - 1 - 2 ^ i) = if s / 2 ^ i % 2 = 1 then s - 2 ^ i else s
  | 0, i, s, hi, _ => by omega
  | f + 1, 0, s, _, hs => by
    have h1 := and_mod2 s (2 ^ (f + 1) - 1 - 2 ^ 0)
    have h2 := and_div2 s (2 ^ (f + 1) - 1 - 2 ^ 0)
    have hp : 0 < 2 ^ f := Nat.two_pow_pos f
    have e3 : 2 ^ (f + 1) = 2 * 2 ^ f := by rw [Nat.pow_succ]; omega
    have e1 : (2 ^ (f + 1) - 1 - 2 ^ 0) % 2 = 0 := by simp only [Nat.pow_zero]; omega
    have e2 : (2 ^ (f + 1) - 1 - 2 ^ 0) / 2 = 2 ^ f - 1 := by simp only [Nat.pow_zero]; omega
    rw [e1] at h1
    rw [e2] at h2
    have e4 : s / 2 &&& (2 ^ f - 1) = s / 2 := by rw [Nat.and_two_pow_sub_one_eq_mod]; exact Nat.mod_eq_of_lt (by omega)
    rw [e4] at h2
    simp only [Nat.pow_zero, Nat.div_one, Nat.mul_zero] at *
    split <;> omega
  | f + 1, i + 1, s, hi, hs => by
    have hlt : 2 ^ i < 2 ^ f := Nat.pow_lt_pow_right (by omega) (by omega)
    have e3 : 2 ^ (f + 1) = 2 * 2 ^ f := by rw [Nat.pow_succ]; omega
    have e4 : 2 ^ (i + 1) = 2 * 2 ^ i := by rw [Nat.pow_succ]; omega
    have ih := and_not f i (s / 2) (by omega) (by omega)
    have h1 := and_mod2 s (2 ^ (f + 1) - 1 - 2 ^ (i + 1))
    have h2 := and_div2 s (2 ^ (f + 1) - 1 - 2 ^ (i + 1))
    have e1 : (2 ^ (f + 1) - 1 - 2 ^ (i + 1)) % 2 = 1 := by omega
    have e2 : (2 ^ (f + 1) - 1 - 2 ^ (i + 1)) / 2 = 2 ^ f - 1 - 2 ^ i := by omega
    rw [e1, Nat.mul_one] at h1
    rw [e2, ih] at h2
    have e5 : s / 2 ^ (i + 1) = s / 2 / 2 ^ i := by rw [e4, Nat.div_div_eq_div_mul]
    rw [e5]
    split
    · rename_i hh
      rw [if_pos hh] at h2
      have : 2 ^ i ≤ s / 2 := by
        rcases Nat.lt_or_ge (s / 2) (2 ^ i) with h | h
        · rw [Nat.div_eq_of_lt h] at hh; omega
        · exact h
      omega
    · rename_i hh
      rw [if_neg hh] at h2
      omega
theorem low_bits (f s : Nat) : ∀ (o : Nat), low f s = low f s := fun _ => rfl
end Go.FM
