/- More on sets. -/
import Derived.Test.YtnikcgcbkdeeeaaDoorFmM4
set_option linter.unusedVariables false
namespace Go.FM
theorem bit_ltN {j : Nat} (h : j < 16) : 2 ^ j < 65536 := by
  have : 2 ^ j ≤ 2 ^ 15 := Nat.pow_le_pow_right (by omega) (by omega)
  have e : (2 : Nat) ^ 15 = 32768 := by decide
  omega
theorem bit_lt {i : Int} (h : i < 16) : 2 ^ i.toNat < 65536 := bit_ltN (by omega)
theorem pow_next {j : Nat} (h : j < 15) : 2 ^ j * 2 % 65536 = 2 ^ (j + 1) := by
  rw [← Nat.pow_succ]; exact Nat.mod_eq_of_lt (bit_ltN (by omega))
theorem wth_lt {s : Nat} (h : s < 65536) (i : Int) : wth s i < 65536 := by
  unfold wth; split
  · exact Nat.or_lt_two_pow (n := 16) h (bit_lt (by omega))
  · exact h
theorem wto_lt {s : Nat} (h : s < 65536) (i : Int) : wto s i < 65536 := by
  unfold wto; split
  · exact Nat.lt_of_le_of_lt Nat.and_le_left h
  · exact h
/-- -1, 0, 1. -/
def cmpI (a b : Int) : Int := if a < b then -1 else if b < a then 1 else 0
/-- Of views' numbers. -/
def cmpV (an : Nat) (ap : Int) (bn : Nat) (bp : Int) : Int := if cmpI an bn ≠ 0 then cmpI an bn else cmpI ap bp
def formV (n : Nat) (p : Int) : Bool := decide (0 ≤ p ∧ p < 16 ∧ (0 < n ∨ p = 0))
theorem has_yes {s : Nat} {i : Int} (h0 : 0 ≤ i) (h1 : i < 16) : decide ((((s / 2 ^ i.toNat) &&& 1 : Nat) : Int) = 1) = has s i := by
  rw [Nat.and_one_is_mod]
  simp only [has, decide_eq_decide]
  omega
theorem has_yes' {s : Nat} {i : Int} (h0 : 0 ≤ i) (h1 : i < 16) : decide ((((s / 2 ^ i.toNat) % 2 : Nat) : Int) = 1) = has s i := by
  simp only [has, decide_eq_decide]
  omega
theorem has_no {s : Nat} {i : Int} (h : ¬ (0 ≤ i) ∨ ¬ (i < 16)) : false = has s i := by
  simp only [has]
  exact (decide_eq_false (by omega)).symm
theorem most_yes {s : Nat} {i : Int} (h0 : 1 ≤ i) (h1 : i ≤ 16) : decide ((i : Int) < (2 * ((cnt s : Nat) : Int))) = most s i := by
  simp only [most, decide_eq_decide]
  omega
theorem most_no {s : Nat} {i : Int} (h : ¬ (1 ≤ i) ∨ ¬ (i ≤ 16)) : false = most s i := by
  simp only [most]
  exact (decide_eq_false (by omega)).symm
theorem wth_out {s : Nat} {i : Int} (h : ¬ (0 ≤ i) ∨ ¬ (i < 16)) : s = wth s i := by
  unfold wth; rw [if_neg (by omega)]
theorem wto_out {s : Nat} {i : Int} (h : ¬ (0 ≤ i) ∨ ¬ (i < 16)) : s = wto s i := by
  unfold wto; rw [if_neg (by omega)]
theorem has_spec' {s : Nat} {i : Int} {b : Bool} (h : has s i = b) (h0 : 0 ≤ i) (h1 : i < 16) : s / 2 ^ i.toNat % 2 = if b then 1 else 0 := by
  unfold has at h
  cases b with
  | true => have := of_decide_eq_true h; simp [this.2.2]
  | false => have := of_decide_eq_false h; simp; omega
theorem has_in {s : Nat} {i : Int} (h : has s i = true) : 0 ≤ i ∧ i < 16 := by
  have := of_decide_eq_true h
  exact ⟨this.1, this.2.1⟩
theorem wth_has {s : Nat} {i : Int} (h : has s i = true) : s = wth s i := by
  have hi := has_in h
  have := has_spec' h hi.1 hi.2
  unfold wth
  rw [if_pos hi, or_set _ _ (by simpa using this)]
theorem wto_has {s : Nat} {i : Int} (b_s : s < 65536) (h : has s i = false) : s = wto s i := by
  unfold wto
  split
  · rename_i hi
    have := has_spec' h hi.1 hi.2
    rw [and_not 16 i.toNat s (by omega) b_s, if_neg (by simp at this; omega)]
  · rfl
theorem wth_add {s : Nat} {i : Int} (h : has s i = false) (h0 : 0 ≤ i) (h1 : i < 16) : s + 2 ^ i.toNat = wth s i := by
  have := has_spec' h h0 h1
  unfold wth
  rw [if_pos ⟨h0, h1⟩]
  exact add_eq_or _ _ (by simpa using this)
theorem wto_sub {s : Nat} {i : Int} (b_s : s < 65536) (h : has s i = true) : s - 2 ^ i.toNat = wto s i := by
  have hi := has_in h
  have := has_spec' h hi.1 hi.2
  unfold wto
  rw [if_pos hi, and_not 16 i.toNat s (by omega) b_s, if_pos (by simpa using this)]
theorem has_le {s : Nat} {i : Int} (h : has s i = true) : 2 ^ i.toNat ≤ s := by
  have hi := has_in h
  have := has_spec' h hi.1 hi.2
  rcases Nat.lt_or_ge s (2 ^ i.toNat) with h | h
  · rw [Nat.div_eq_of_lt h] at this; simp at this
  · exact h
/-- The first j places. -/
theorem els_app : ∀ (f g o s : Nat), els (f + g) o s = els f o s ++ els g (o + f) (s / 2 ^ f)
  | 0, g, o, s => by simp [els]
  | f + 1, g, o, s => by
    rw [show f + 1 + g = (f + g) + 1 by omega]
    simp only [els]
    rw [els_app f g (o + 1) (s / 2), Nat.div_div_eq_div_mul, show 2 * 2 ^ f = 2 ^ (f + 1) by rw [Nat.pow_succ]; omega, show o + 1 + f = o + (f + 1) by omega]
    split <;> simp
theorem els_next (j s : Nat) : els (j + 1) 0 s = els j 0 s ++ (if s / 2 ^ j % 2 = 1 then [j] else []) := by
  rw [els_app j 1 0 s]
  simp only [els, Nat.zero_add]
theorem els_has {j s : Nat} {b : Bool} (hj : j < 16) (h : has s (j : Int) = b) : els (j + 1) 0 s = els j 0 s ++ (if b then [j] else []) := by
  have := has_spec' h (by omega) (by omega)
  rw [els_next, show s / 2 ^ j = s / 2 ^ ((j : Int)).toNat by simp]
  cases b <;> simp_all
theorem land_compl : ∀ (f t : Nat), t < 2 ^ f → t &&& (2 ^ f - 1 - t) = 0
  | 0, t, h => by
    have : t = 0 := by simpa using h
    subst this; rfl
  | f + 1, t, h => by
    have e3 : 2 ^ (f + 1) = 2 * 2 ^ f := by rw [Nat.pow_succ]; omega
    have h1 := and_mod2 t (2 ^ (f + 1) - 1 - t)
    have h2 := and_div2 t (2 ^ (f + 1) - 1 - t)
    have ih := land_compl f (t / 2) (by omega)
    have e1 : (2 ^ (f + 1) - 1 - t) / 2 = 2 ^ f - 1 - t / 2 := by omega
    rw [e1, ih] at h2
    rcases Nat.mod_two_eq_zero_or_one t with hm | hm
    · rw [hm] at h1; omega
    · have e2 : (2 ^ (f + 1) - 1 - t) % 2 = 0 := by omega
      rw [e2] at h1; omega
theorem land_neg : ∀ (f s : Nat), s ≠ 0 → s < 2 ^ f → s &&& (2 ^ f - s) = 2 ^ low f s
  | 0, s, h, h2 => by simp at h2; omega
  | f + 1, s, h, h2 => by
    have e3 : 2 ^ (f + 1) = 2 * 2 ^ f := by rw [Nat.pow_succ]; omega
    have k1 := and_mod2 s (2 ^ (f + 1) - s)
    have k2 := and_div2 s (2 ^ (f + 1) - s)
    simp only [low]
    rcases Nat.mod_two_eq_zero_or_one s with hs | hs
    · rw [if_neg (by omega), show 2 ^ (low f (s / 2) + 1) = 2 * 2 ^ low f (s / 2) by rw [Nat.pow_succ]; omega]
      have ih := land_neg f (s / 2) (by omega) (by omega)
      have e1 : (2 ^ (f + 1) - s) / 2 = 2 ^ f - s / 2 := by omega
      rw [e1, ih] at k2
      rw [hs] at k1
      omega
    · rw [if_pos hs, Nat.pow_zero]
      have e1 : (2 ^ (f + 1) - s) / 2 = 2 ^ f - 1 - s / 2 := by omega
      have e2 : (2 ^ (f + 1) - s) % 2 = 1 := by omega
      rw [e1, land_compl f (s / 2) (by omega)] at k2
      rw [hs, e2] at k1
      omega
theorem cmpV_ne {an bn : Nat} {ap bp : Int} (h : cmpI an bn ≠ 0) : cmpI an bn = cmpV an ap bn bp := by unfold cmpV; rw [if_pos h]
theorem cmpV_eq {an bn : Nat} {ap bp : Int} (h : ¬ (cmpI an bn ≠ 0)) : cmpI ap bp = cmpV an ap bn bp := by unfold cmpV; rw [if_neg h]
theorem cmpV_neg (an : Nat) (ap : Int) (bn : Nat) (bp : Int) : cmpV an ap bn bp = 0 - cmpV bn bp an ap := by
  unfold cmpV cmpI
  repeat' split
  all_goals omega
theorem cmpV_zero (an : Nat) (ap : Int) (bn : Nat) (bp : Int) : cmpV an ap bn bp = 0 ↔ an = bn ∧ ap = bp := by
  unfold cmpV cmpI
  repeat' split
  all_goals omega
theorem cmpV_bound (an : Nat) (ap : Int) (bn : Nat) (bp : Int) : -1 ≤ cmpV an ap bn bp ∧ cmpV an ap bn bp ≤ 1 := by
  unfold cmpV cmpI
  repeat' split
  all_goals omega
theorem cmpV_pos (an : Nat) (ap : Int) (bn : Nat) (bp : Int) : 0 < cmpV an ap bn bp ↔ bn < an ∨ bn = an ∧ bp < ap := by
  unfold cmpV cmpI
  repeat' split
  all_goals omega
/-! ### laws -/
theorem all_sub {k : Nat} (h0 : 1 ≤ k) (h1 : k ≤ 16) : (((1 * 2 ^ k % 65536 : Nat) : Int) - 1) % 65536 = ((2 ^ k - 1 : Nat) : Int) ∧ 2 ^ k - 1 < 65536 := by
  have hp : 0 < 2 ^ k := Nat.two_pow_pos k
  by_cases hk : k = 16
  · subst hk; decide
  · have := bit_ltN (j := k) (by omega)
    rw [Nat.one_mul, Nat.mod_eq_of_lt this]
    omega
theorem mask_lt {k : Nat} (a : Nat) : a &&& (2 ^ k - 1) < 2 ^ k := by
  have := Nat.two_pow_pos k
  exact Nat.lt_of_le_of_lt Nat.and_le_right (by omega)
theorem meet {a b k : Nat} (ha : most (a &&& (2 ^ k - 1)) k = true) (hb : most (b &&& (2 ^ k - 1)) k = true) : 0 < cnt ((a &&& b) &&& (2 ^ k - 1)) := by
  have h1 := (of_decide_eq_true ha).2.2
  have h2 := (of_decide_eq_true hb).2.2
  have h3 := pc_andor 16 (a &&& (2 ^ k - 1)) (b &&& (2 ^ k - 1))
  have h4 := pc_lt 16 k ((a &&& (2 ^ k - 1)) ||| (b &&& (2 ^ k - 1))) (Nat.or_lt_two_pow (mask_lt a) (mask_lt b))
  have e : (a &&& (2 ^ k - 1)) &&& (b &&& (2 ^ k - 1)) = (a &&& b) &&& (2 ^ k - 1) := by
    apply Nat.eq_of_testBit_eq
    intro i
    simp only [Nat.testBit_and]
    cases a.testBit i <;> cases b.testBit i <;> simp
  rw [e] at h3
  simp only [cnt] at *
  omega
theorem halves : ∀ (f k s : Nat), k ≤ f → s < 2 ^ f → pc f (s &&& (2 ^ k - 1)) + pc f ((2 ^ k - 1) &&& (2 ^ f - 1 - s)) = k
  | 0, k, s, hk, hs => by simp [pc]; omega
  | f + 1, 0, s, hk, hs => by
    simp only [Nat.pow_zero, Nat.sub_self, Nat.and_zero, Nat.zero_and]
    rw [pc_zero]
  | f + 1, k + 1, s, hk, hs => by
    have e3 : 2 ^ (f + 1) = 2 * 2 ^ f := by rw [Nat.pow_succ]; omega
    have e4 : 2 ^ (k + 1) = 2 * 2 ^ k := by rw [Nat.pow_succ]; omega
    have hp : 0 < 2 ^ k := Nat.two_pow_pos k
    have ih := halves f k (s / 2) (by omega) (by omega)
    simp only [pc, and_div2, and_mod2]
    have e1 : (2 ^ (k + 1) - 1) / 2 = 2 ^ k - 1 := by omega
    have e2 : (2 ^ (f + 1) - 1 - s) / 2 = 2 ^ f - 1 - s / 2 := by omega
    have e5 : (2 ^ (k + 1) - 1) % 2 = 1 := by omega
    rw [e1, e2, e5]
    have e6 : s % 2 * 1 + 1 * ((2 ^ (f + 1) - 1 - s) % 2) = 1 := by omega
    omega
theorem halves16 {k s : Nat} (hk : k ≤ 16) (hs : s < 65536) : cnt (s &&& (2 ^ k - 1)) + cnt ((2 ^ k - 1) &&& (65535 - s)) = k := halves 16 k s hk (by simpa using hs)
theorem lst_lt {s i z : Nat} (h : (lst s)[i]? = some z) : z < 16 := by
  have := List.mem_of_getElem? h
  have := (els_mem 16 0 s z).1 this
  omega
theorem least_lst (s : Nat) (b_s : s < 65536) : least s = if 0 < (lst s).length then (((lst s).getD 0 0 : Nat) : Int) else -1 := by
  by_cases h : s = 0
  · subst h; decide
  · rw [lst_pred s h b_s]
    simp [least, h]
/-! ### a set built up, and taken away -/
theorem has_lst {s z : Nat} : z ∈ lst s ↔ has s (z : Int) = true := by
  rw [lst, els_mem]
  simp only [has, decide_eq_true_eq]
  simp
  omega
/-- Bits of sets. -/
def bitAt (s j : Nat) : Prop := s / 2 ^ j % 2 = 1
theorem eq_of_bits : ∀ (f a b : Nat), a < 2 ^ f → b < 2 ^ f → (∀ j, j < f → (a / 2 ^ j % 2 = 1 ↔ b / 2 ^ j % 2 = 1)) → a = b
  | 0, a, b, ha, hb, _ => by simp at ha hb; omega
  | f + 1, a, b, ha, hb, h => by
    have h0 := h 0 (by omega)
    simp only [Nat.pow_zero, Nat.div_one] at h0
    have ih := eq_of_bits f (a / 2) (b / 2) (by rw [Nat.pow_succ] at ha; omega) (by rw [Nat.pow_succ] at hb; omega) (fun j hj => by
      have := h (j + 1) (by omega)
      rw [Nat.pow_succ, Nat.mul_comm, ← Nat.div_div_eq_div_mul, ← Nat.div_div_eq_div_mul] at this
      exact this)
    omega
theorem testBit_iff (s j : Nat) : s.testBit j = true ↔ s / 2 ^ j % 2 = 1 := by
  rw [Nat.testBit_eq_decide_div_mod_eq]; simp
theorem wth_bit {a z j : Nat} (hz : z < 16) : (wth a (z : Int)) / 2 ^ j % 2 = 1 ↔ a / 2 ^ j % 2 = 1 ∨ j = z := by
  unfold wth
  rw [if_pos (by omega), ← testBit_iff, ← testBit_iff]
  simp only [Int.toNat_natCast, Nat.testBit_or, Nat.testBit_two_pow, Bool.or_eq_true, decide_eq_true_eq]
  rw [eq_comm (a := z) (b := j)]
theorem wto_bit {a z j : Nat} (hz : z < 16) (hj : j < 16) (ha : a < 65536) : (wto a (z : Int)) / 2 ^ j % 2 = 1 ↔ a / 2 ^ j % 2 = 1 ∧ j ≠ z := by
  unfold wto
  rw [if_pos (by omega), ← testBit_iff, ← testBit_iff]
  simp only [Int.toNat_natCast, Nat.testBit_and, Bool.and_eq_true]
  have e : (65535 - 2 ^ z).testBit j = decide (j ≠ z) := by
    have : (2 ^ 16 - (2 ^ z + 1)).testBit j = (decide (j < 16) && !(2 ^ z).testBit j) := Nat.testBit_two_pow_sub_succ (bit_ltN hz) j
    rw [show 65535 - 2 ^ z = 2 ^ 16 - (2 ^ z + 1) by omega, this, Nat.testBit_two_pow]
    simp [hj]
    constructor <;> (intro h; omega)
  rw [e]; simp
/-- Behind i rounds: the places that the first i rounds met are in a, and no more in b. -/
structure Built (s n i a b : Nat) : Prop where
  la : a < 65536
  lb : b < 65536
  a : ∀ j, j < 16 → (a / 2 ^ j % 2 = 1 ↔ ∃ q, q < i ∧ (lst s)[(q + n) % (lst s).length]? = some j)
  b : ∀ j, j < 16 → (b / 2 ^ j % 2 = 1 ↔ s / 2 ^ j % 2 = 1 ∧ ¬ ∃ q, q < i ∧ (lst s)[(q + n) % (lst s).length]? = some j)
theorem Built.start {s n : Nat} (h : s < 65536) : Built s n 0 0 s := ⟨by omega, h, fun j _ => by simp, fun j _ => by simp⟩
theorem Built.next {s n i a b z : Nat} (h : Built s n i a b) (hi : i < (lst s).length) (hz : (lst s)[(i + n) % (lst s).length]? = some z) (b_s : s < 65536) :
    Built s n (i + 1) (wth (wth a (z : Int)) (z : Int)) (wto (wto b (z : Int)) (z : Int)) := by
  have hz16 := lst_lt hz
  have key : ∀ j, (∃ q, q < i + 1 ∧ (lst s)[(q + n) % (lst s).length]? = some j) ↔ (∃ q, q < i ∧ (lst s)[(q + n) % (lst s).length]? = some j) ∨ j = z := by
    intro j
    constructor
    · rintro ⟨q, hq, he⟩
      by_cases e : q = i
      · subst e; rw [hz] at he; injection he with he; exact .inr he.symm
      · exact .inl ⟨q, by omega, he⟩
    · rintro (⟨q, hq, he⟩ | rfl)
      · exact ⟨q, by omega, he⟩
      · exact ⟨i, by omega, hz⟩
  refine ⟨wth_lt (wth_lt h.la _) _, wto_lt (wto_lt h.lb _) _, fun j hj => ?_, fun j hj => ?_⟩
  · rw [wth_bit hz16, wth_bit hz16, h.a j hj, key]
    constructor
    · rintro ((h | h) | h)
      · exact .inl h
      · exact .inr h
      · exact .inr h
    · rintro (h | h)
      · exact .inl (.inl h)
      · exact .inr h
  · rw [wto_bit hz16 hj (wto_lt h.lb _), wto_bit hz16 hj h.lb, h.b j hj, key]
    constructor
    · rintro ⟨⟨⟨h1, h2⟩, h3⟩, _⟩
      exact ⟨h1, fun h => h.elim h2 h3⟩
    · rintro ⟨h1, h2⟩
      exact ⟨⟨⟨h1, fun h => h2 (.inl h)⟩, fun h => h2 (.inr h)⟩, fun h => h2 (.inr h)⟩
theorem Built.done {s n i a b : Nat} (h : Built s n i a b) (b_s : s < 65536) (hi : i = (lst s).length) : a = s ∧ b = 0 := by
  have all : ∀ j, j < 16 → ((∃ q, q < i ∧ (lst s)[(q + n) % (lst s).length]? = some j) ↔ s / 2 ^ j % 2 = 1) := by
    intro j hj
    have hm : j ∈ lst s ↔ s / 2 ^ j % 2 = 1 := by rw [lst, els_mem]; simp; omega
    rw [← hm]
    constructor
    · rintro ⟨q, _, he⟩; exact List.mem_of_getElem? he
    · intro hmem
      obtain ⟨p, hp⟩ := List.getElem?_of_mem hmem
      have hpl := (List.getElem?_eq_some_iff.1 hp).1
      -- q = (p - n) mod length
      refine ⟨(p + (lst s).length - n % (lst s).length) % (lst s).length, by rw [hi]; exact Nat.mod_lt _ (by omega), ?_⟩
      have hnl := Nat.mod_lt n (show 0 < (lst s).length by omega)
      have : ((p + (lst s).length - n % (lst s).length) % (lst s).length + n) % (lst s).length = p := by
        rw [Nat.mod_add_mod]
        have e : p + (lst s).length - n % (lst s).length + n = p + (lst s).length * (1 + n / (lst s).length) := by
          have := Nat.div_add_mod n (lst s).length
          rw [Nat.mul_add, Nat.mul_one]
          omega
        rw [e, Nat.add_mul_mod_self_left, Nat.mod_eq_of_lt hpl]
      rw [this]; exact hp
  refine ⟨eq_of_bits 16 a s (by simpa using h.la) (by simpa using b_s) fun j hj => by rw [h.a j hj, all j hj], eq_of_bits 16 b 0 (by simpa using h.lb) (by decide) fun j hj => ?_⟩
  rw [h.b j hj, all j hj]
  simp
end Go.FM
