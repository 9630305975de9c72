/- The sum of chapter 02 in plain words: bits of a register, what a burst of turned bits does to it. -/
import Derived.Test.YtnikcgcbkdeeeaaDoorFmS
set_option linter.unusedVariables false
namespace Go.FM
/-- One round of the register. -/
def cbit (c : Nat) : Nat := (c / 2) ^^^ (if c % 2 = 1 then 3988292384 else 0)
def cbits : Nat → Nat → Nat
  | 0, c => c
  | n + 1, c => cbit (cbits n c)
def cbyte (c b : Nat) : Nat := cbits 8 (c ^^^ b)
def crcR (c : Nat) (l : List Nat) : Nat := l.foldl cbyte c
def crc (l : List Nat) : Nat := 4294967295 - crcR 4294967295 l
theorem xor_mod2 (a b : Nat) : (a ^^^ b) % 2 = if a % 2 = b % 2 then 0 else 1 := by
  have h := Nat.testBit_xor (x := a) (y := b) (i := 0)
  simp only [Nat.testBit_zero] at h
  rcases Nat.mod_two_eq_zero_or_one a with h1 | h1 <;> rcases Nat.mod_two_eq_zero_or_one b with h2 | h2 <;> rcases Nat.mod_two_eq_zero_or_one (a ^^^ b) with h3 | h3 <;> simp [h1, h2, h3] at h ⊢
theorem cbit_xor (a b : Nat) : cbit (a ^^^ b) = cbit a ^^^ cbit b := by
  unfold cbit
  rw [xor_mod2, Nat.xor_div_two]
  rcases Nat.mod_two_eq_zero_or_one a with h | h <;> rcases Nat.mod_two_eq_zero_or_one b with k | k <;> simp [h, k]
  · ac_rfl
  · ac_rfl
  · have : ∀ x y z : Nat, x ^^^ y = x ^^^ z ^^^ (y ^^^ z) := fun x y z => by
      apply Nat.eq_of_testBit_eq; intro i; simp; cases x.testBit i <;> cases y.testBit i <;> cases z.testBit i <;> rfl
    exact this _ _ _
theorem cbits_xor (n a b : Nat) : cbits n (a ^^^ b) = cbits n a ^^^ cbits n b := by
  induction n with
  | zero => rfl
  | succ n ih => rw [cbits, ih, cbit_xor]; rfl
theorem cbit_lt {c : Nat} (h : c < 4294967296) : cbit c < 4294967296 := by
  unfold cbit
  refine Nat.xor_lt_two_pow (n := 32) (by omega) ?_
  split <;> decide
theorem cbits_lt (n : Nat) {c : Nat} (h : c < 4294967296) : cbits n c < 4294967296 := by
  induction n with
  | zero => exact h
  | succ n ih => exact cbit_lt ih
theorem cbit_zero {c : Nat} (h : c < 4294967296) (h0 : cbit c = 0) : c = 0 := by
  unfold cbit at h0
  by_cases hc : c % 2 = 1
  · rw [if_pos hc] at h0
    have h1 : c / 2 < 2 ^ 31 := by omega
    have h2 : (c / 2 ^^^ 3988292384).testBit 31 = true := by
      rw [Nat.testBit_xor, Nat.testBit_lt_two_pow h1]; decide
    rw [h0] at h2
    simp at h2
  · rw [if_neg hc, Nat.xor_zero] at h0
    omega
theorem cbits_zero (n : Nat) {c : Nat} (h : c < 4294967296) (h0 : cbits n c = 0) : c = 0 := by
  induction n with
  | zero => exact h0
  | succ n ih => exact ih (cbit_zero (cbits_lt n h) h0)
theorem cbits_add (m n c : Nat) : cbits (m + n) c = cbits m (cbits n c) := by
  induction m with
  | zero => simp [cbits]
  | succ m ih => rw [Nat.succ_add, cbits, cbits, ih]
/-- What stands above the register's low bits only comes down. -/
theorem cbits_high (n b : Nat) : cbits n (b * 2 ^ n) = b := by
  induction n generalizing b with
  | zero => simp [cbits]
  | succ n ih =>
    rw [show n + 1 = 1 + n by omega, cbits_add, show b * 2 ^ (1 + n) = (b * 2) * 2 ^ n by rw [Nat.pow_add]; simp [Nat.mul_assoc], ih]
    simp [cbits, cbit]
theorem split_xor (n x : Nat) : x = (x % 2 ^ n) ^^^ (x / 2 ^ n * 2 ^ n) := by
  apply Nat.eq_of_testBit_eq
  intro i
  rw [Nat.testBit_xor, Nat.testBit_mod_two_pow, Nat.testBit_mul_two_pow, Nat.testBit_div_two_pow]
  by_cases h : i < n
  · simp [h, Nat.not_le.2 h]
  · simp [h, Nat.not_lt.1 h]
theorem cbits_split (n x : Nat) : cbits n x = cbits n (x % 2 ^ n) ^^^ (x / 2 ^ n) := by
  conv => lhs; rw [split_xor n x, cbits_xor, cbits_high]
/-! ### bit by bit -/
/-- The register behind n bits of f. -/
def feed (c : Nat) (f : Nat → Bool) : Nat → Nat
  | 0 => c
  | n + 1 => cbit (feed c f n ^^^ (f n).toNat)
theorem feed_xor (c d : Nat) (f g : Nat → Bool) (n : Nat) : feed (c ^^^ d) (fun i => f i ^^ g i) n = feed c f n ^^^ feed d g n := by
  induction n with
  | zero => rfl
  | succ n ih =>
    simp only [feed]
    rw [ih, ← cbit_xor]
    congr 1
    have : (f n ^^ g n).toNat = (f n).toNat ^^^ (g n).toNat := by cases f n <;> cases g n <;> rfl
    rw [this]
    ac_rfl
theorem feed_lt {c : Nat} (h : c < 4294967296) (f : Nat → Bool) (n : Nat) : feed c f n < 4294967296 := by
  induction n with
  | zero => exact h
  | succ n ih =>
    refine cbit_lt (Nat.xor_lt_two_pow (n := 32) ih ?_)
    cases f n <;> decide
/-- Bits of a number, fed one by one. -/
theorem feed_bits (c b n : Nat) : feed c (fun i => b.testBit i) n = cbits n (c ^^^ (b % 2 ^ n)) := by
  induction n with
  | zero => simp [feed, cbits, Nat.mod_one]
  | succ n ih =>
    rw [feed, ih, cbits]
    congr 1
    have h1 : b % 2 ^ (n + 1) = (b % 2 ^ n) ^^^ ((b.testBit n).toNat * 2 ^ n) := by
      apply Nat.eq_of_testBit_eq
      intro i
      rw [Nat.testBit_xor, Nat.testBit_mod_two_pow, Nat.testBit_mod_two_pow, Nat.testBit_mul_two_pow]
      rcases Nat.lt_trichotomy i n with h | h | h
      · simp [h, Nat.lt_succ_of_lt h, Nat.not_le.2 h]
      · subst h
        cases b.testBit i <;> simp
      · have : ¬ i < n + 1 := by omega
        have h2 : ¬ i < n := by omega
        have h3 : n ≤ i := by omega
        have h4 : i - n ≠ 0 := by omega
        cases hb : b.testBit n <;> simp [this, h2, h3]
        rw [← Bool.not_eq_true, Nat.testBit_one_eq_true_iff_self_eq_zero]
        exact h4
    rw [h1, ← Nat.xor_assoc, cbits_xor n (c ^^^ b % 2 ^ n), cbits_high]
theorem feed_add (c : Nat) (f : Nat → Bool) (m n : Nat) : feed c f (m + n) = feed (feed c f m) (fun i => f (m + i)) n := by
  induction n with
  | zero => rfl
  | succ n ih => rw [← Nat.add_assoc, feed, feed, ih]
theorem feed_congr {c : Nat} {f g : Nat → Bool} {n : Nat} (h : ∀ i, i < n → f i = g i) : feed c f n = feed c g n := by
  induction n with
  | zero => rfl
  | succ n ih => rw [feed, feed, ih (fun i hi => h i (by omega)), h n (by omega)]
theorem feed_none (c n : Nat) {f : Nat → Bool} (h : ∀ i, i < n → f i = false) : feed c f n = cbits n c := by
  induction n with
  | zero => rfl
  | succ n ih => rw [feed, cbits, ih (fun i hi => h i (by omega)), h n (by omega)]; simp
/-- The bits of bytes. -/
def bitOf (l : List Nat) (j : Nat) : Bool := (l.getD (j / 8) 0).testBit (j % 8)
theorem cbyte_feed (c : Nat) {b : Nat} (hb : b < 256) : cbyte c b = feed c (fun i => b.testBit i) 8 := by
  rw [feed_bits, Nat.mod_eq_of_lt (by omega)]; rfl
theorem crcR_feed : ∀ (l : List Nat) (c : Nat), Small l → crcR c l = feed c (bitOf l) (8 * l.length)
  | [], c, _ => rfl
  | b :: l, c, h => by
    have hb := h b List.mem_cons_self
    show crcR (cbyte c b) l = _
    rw [crcR_feed l _ (fun x hx => h x (List.mem_cons_of_mem _ hx)), List.length_cons, show 8 * (l.length + 1) = 8 + 8 * l.length by omega, feed_add, cbyte_feed c hb]
    have h1 : feed c (fun i => b.testBit i) 8 = feed c (bitOf (b :: l)) 8 := feed_congr fun i hi => by
      unfold bitOf
      rw [Nat.div_eq_of_lt hi, Nat.mod_eq_of_lt hi]; rfl
    rw [h1]
    refine feed_congr fun i _ => ?_
    unfold bitOf
    rw [show (8 + i) / 8 = i / 8 + 1 by omega, show (8 + i) % 8 = i % 8 by omega]
    rfl
theorem crcR_append (c : Nat) (l m : List Nat) : crcR c (l ++ m) = crcR (crcR c l) m := by simp [crcR]
theorem cbyte_lt {c b : Nat} (hc : c < 4294967296) (hb : b < 256) : cbyte c b < 4294967296 := cbits_lt 8 (Nat.xor_lt_two_pow (n := 32) hc (by omega))
theorem crcR_lt : ∀ (l : List Nat) (c : Nat), c < 4294967296 → Small l → crcR c l < 4294967296
  | [], c, hc, _ => hc
  | b :: l, c, hc, h => crcR_lt l _ (cbyte_lt hc (h b List.mem_cons_self)) (fun x hx => h x (List.mem_cons_of_mem _ hx))
theorem crc_lt (l : List Nat) : crc l < 4294967296 := by unfold crc; omega
/-- A sum as bytes. -/
def four (s : Nat) : List Nat := [s % 256, s / 2 ^ 8 % 256, s / 2 ^ 16 % 256, s / 2 ^ 24 % 256]
def seal_ (l : List Nat) : List Nat := l ++ four (crc l)
theorem four_small (s : Nat) : Small (four s) := by
  intro b hb
  simp [four] at hb
  rcases hb with h | h | h | h <;> omega
theorem four_bits (s i : Nat) (h : i < 32) : bitOf (four s) i = s.testBit i := by
  have e : ∀ k, (s / 2 ^ (8 * k) % 2 ^ 8).testBit (i % 8) = s.testBit (8 * k + i % 8) := fun k => by
    rw [Nat.testBit_mod_two_pow, Nat.testBit_div_two_pow]
    have : i % 8 < 8 := by omega
    simp [this, Nat.add_comm]
  unfold bitOf
  have h4 : i / 8 < 4 := by omega
  have hi : i = 8 * (i / 8) + i % 8 := by omega
  conv => rhs; rw [hi]
  rw [← e]
  match i / 8, h4 with
  | 0, _ => simp [four]
  | 1, _ => simp [four]
  | 2, _ => simp [four]
  | 3, _ => simp [four]
theorem crcR_four (c : Nat) {s : Nat} (hs : s < 4294967296) : crcR c (four s) = cbits 32 (c ^^^ s) := by
  rw [crcR_feed _ _ (four_small s), show 8 * (four s).length = 32 from rfl]
  rw [feed_congr (g := fun i => s.testBit i) (fun i hi => four_bits s i hi), feed_bits, Nat.mod_eq_of_lt (by simpa using hs)]
theorem compl_xor {c : Nat} (h : c < 4294967296) : c ^^^ (4294967295 - c) = 4294967295 := by
  have e : 4294967295 - c = 2 ^ 32 - (c + 1) := by omega
  apply Nat.eq_of_testBit_eq
  intro i
  rw [Nat.testBit_xor, e, Nat.testBit_two_pow_sub_succ (by omega)]
  have h2 : Nat.testBit 4294967295 i = decide (i < 32) := by
    rw [show 4294967295 = 2 ^ 32 - 1 by rfl, Nat.testBit_two_pow_sub_one]
  rw [h2]
  by_cases hi : i < 32
  · simp [hi]
  · have : c.testBit i = false := Nat.testBit_lt_two_pow (Nat.lt_of_lt_of_le (show c < 2 ^ 32 by omega) (Nat.pow_le_pow_right (by decide) (by omega)))
    simp [hi, this]
/-- What is sealed leaves the register at one number, whatever it is. -/
theorem crcR_seal {l : List Nat} (h : Small l) : crcR 4294967295 (seal_ l) = cbits 32 4294967295 := by
  have hc := crcR_lt l 4294967295 (by decide) h
  rw [seal_, crcR_append, crcR_four _ (crc_lt l), crc, compl_xor hc]
theorem seal_small {l : List Nat} (h : Small l) : Small (seal_ l) := h.append (four_small _)
theorem seal_length (l : List Nat) : (seal_ l).length = l.length + 4 := by simp [seal_, four]
/-! ### turned bits -/
/-- i of the pattern's bits, from the bit k on, turned. -/
def turn (l : List Nat) (k pat : Nat) : Nat → List Nat
  | 0 => l
  | i + 1 => if pat.testBit i then (turn l k pat i).set ((k + i) / 8) ((turn l k pat i).getD ((k + i) / 8) 0 ^^^ 2 ^ ((k + i) % 8)) else turn l k pat i
theorem turn_length (l : List Nat) (k pat i : Nat) : (turn l k pat i).length = l.length := by
  induction i with
  | zero => rfl
  | succ i ih => rw [turn]; split <;> simp [ih]
theorem turn_small {l : List Nat} (h : Small l) (k pat i : Nat) : Small (turn l k pat i) := by
  induction i with
  | zero => exact h
  | succ i ih =>
    rw [turn]
    split
    · refine ih.set _ (Nat.xor_lt_two_pow (n := 8) (ih.getD _) ?_)
      have : (k + i) % 8 < 8 := by omega
      exact Nat.pow_lt_pow_right (by decide) this
    · exact ih
theorem turn_bit {l : List Nat} {k pat i : Nat} (hi : k + i ≤ 8 * l.length) (j : Nat) : bitOf (turn l k pat i) j = (bitOf l j ^^ (decide (k ≤ j ∧ j < k + i) && pat.testBit (j - k))) := by
  induction i with
  | zero =>
    have : decide (k ≤ j ∧ j < k + 0) = false := decide_eq_false (by omega)
    rw [this, turn, Bool.false_and, Bool.xor_false]
  | succ i ih =>
    have ih := ih (by omega)
    rw [turn]
    by_cases hp : pat.testBit i = true
    · rw [if_pos hp]
      have hlen : (k + i) / 8 < (turn l k pat i).length := by rw [turn_length]; omega
      unfold bitOf at ih ⊢
      by_cases hj : j / 8 = (k + i) / 8
      · rw [hj] at ih ⊢
        rw [List.getD_eq_getElem?_getD, List.getElem?_set_self hlen, Option.getD_some, Nat.testBit_xor, ih, Nat.testBit_two_pow]
        by_cases hje : j = k + i
        · subst hje
          have h1 : ¬ (k + i < k + i) := by omega
          simp [hp]
        · have h1 : ¬ ((k + i) % 8 = j % 8) := by omega
          have h2 : (k ≤ j ∧ j < k + (i + 1)) ↔ (k ≤ j ∧ j < k + i) := by omega
          simp [h1, h2]
      · rw [List.getD_eq_getElem?_getD, List.getElem?_set_ne (Ne.symm hj), ← List.getD_eq_getElem?_getD, ih]
        have h2 : (k ≤ j ∧ j < k + (i + 1)) ↔ (k ≤ j ∧ j < k + i) := by
          have : j ≠ k + i := fun e => hj (by rw [e])
          omega
        simp [h2]
    · rw [if_neg hp, ih]
      by_cases hje : j = k + i
      · subst hje
        have : pat.testBit i = false := by simpa using hp
        simp [this]
      · have h2 : (k ≤ j ∧ j < k + (i + 1)) ↔ (k ≤ j ∧ j < k + i) := by omega
        simp [h2]
/-- Turned bits within 32 are seen in the register. -/
theorem burst {l : List Nat} (hl : Small l) {k pat m : Nat} (hm : m ≤ 32) (hk : k + m ≤ 8 * l.length) (h : crcR 4294967295 (turn l k pat m) = crcR 4294967295 l) : pat % 2 ^ m = 0 := by
  rw [crcR_feed _ _ (turn_small hl k pat m), crcR_feed _ _ hl, turn_length] at h
  let f : Nat → Bool := fun j => decide (k ≤ j ∧ j < k + m) && pat.testBit (j - k)
  have h1 : feed 4294967295 (bitOf (turn l k pat m)) (8 * l.length) = feed 4294967295 (bitOf l) (8 * l.length) ^^^ feed 0 f (8 * l.length) := by
    rw [← feed_xor]
    exact feed_congr fun j _ => turn_bit hk j
  rw [h1] at h
  have h2 : feed 0 f (8 * l.length) = 0 := by
    have := congrArg (fun x => feed 4294967295 (bitOf l) (8 * l.length) ^^^ x) h
    simpa [← Nat.xor_assoc] using this
  have hz : ∀ n, cbits n 0 = 0 := fun n => by induction n with | zero => rfl | succ n ih => rw [cbits, ih]; rfl
  rw [show 8 * l.length = k + (m + (8 * l.length - k - m)) by omega, feed_add, feed_add] at h2
  rw [feed_none 0 k (fun i hi => by simp [f]; omega), hz] at h2
  have h3 : feed 0 (fun i => f (k + i)) m = cbits m (pat % 2 ^ m) := by
    have := feed_bits 0 pat m
    rw [Nat.zero_xor] at this
    rw [← this]
    exact feed_congr fun i hi => by simp [f, hi]
  rw [h3, feed_none _ _ (fun i hi => by simp only [f]; rw [decide_eq_false (by omega), Bool.false_and])] at h2
  have hb : pat % 2 ^ m < 4294967296 := Nat.lt_of_lt_of_le (Nat.mod_lt _ (Nat.two_pow_pos m)) (show 2 ^ m ≤ 2 ^ 32 from Nat.pow_le_pow_right (by decide) hm)
  exact cbits_zero m hb (cbits_zero _ (cbits_lt m hb) h2)
theorem turn_none {l : List Nat} {k pat : Nat} : ∀ m, pat % 2 ^ m = 0 → turn l k pat m = l
  | 0, _ => rfl
  | m + 1, h => by
    have h1 : pat.testBit m = false := by
      have := Nat.testBit_mod_two_pow pat (m + 1) m
      rw [h] at this
      simpa using this.symm
    have h2 : pat % 2 ^ m = 0 := by
      rw [← Nat.mod_mod_of_dvd pat (show 2 ^ m ∣ 2 ^ (m + 1) from ⟨2, by rw [Nat.pow_succ]⟩), h]; simp
    rw [turn, h1]
    simpa using turn_none m h2
/-- Sealed bytes with such bits turned are no sealed bytes, or nothing was turned. -/
theorem seal_burst {l q : List Nat} (hl : Small l) (hq : Small q) {k pat m : Nat} (hm : m ≤ 32) (hk : k + m ≤ 8 * (l.length + 4)) (h : turn (seal_ l) k pat m = seal_ q) : turn (seal_ l) k pat m = seal_ l := by
  have h1 := crcR_seal hq
  rw [← h, ← crcR_seal hl] at h1
  exact turn_none m (burst (seal_small hl) hm (by rw [seal_length]; exact hk) h1)
end Go.FM
namespace Go.FM
/-! ### the two programs' rounds -/
theorem and_one (c : Nat) : c &&& 1 = c % 2 := Nat.and_one_is_mod c
theorem cbit_code (c : Nat) : ((c / 2 ^ 1) ^^^ (3988292384 &&& ((0 - (((c &&& 1) : Nat) : Int)) % 4294967296).toNat)) = cbit c := by
  unfold cbit
  rw [and_one]
  rcases Nat.mod_two_eq_zero_or_one c with h | h
  · simp [h]
  · rw [h, if_pos rfl]
    have : (((0 : Int) - ((1 : Nat) : Int)) % 4294967296).toNat = 4294967295 := by decide
    rw [this]
    have : 3988292384 &&& 4294967295 = 3988292384 := by decide
    rw [this]
theorem low_bit (b j : Nat) : (b / 2 ^ j) &&& 1 = (b.testBit j).toNat := by
  rw [and_one, Nat.testBit_eq_decide_div_mod_eq]
  rcases Nat.mod_two_eq_zero_or_one (b / 2 ^ j) with h | h <;> simp [h]
theorem ref_step (d b j : Nat) : cbit (d ^^^ (b.testBit j).toNat) = if (d &&& 1) ^^^ ((b / 2 ^ j) &&& 1) = 1 then (d / 2 ^ 1) ^^^ 3988292384 else d / 2 ^ 1 := by
  rw [low_bit, and_one]
  unfold cbit
  rw [xor_mod2, Nat.xor_div_two]
  have e : (b.testBit j).toNat / 2 = 0 := by cases b.testBit j <;> rfl
  have e2 : (b.testBit j).toNat % 2 = (b.testBit j).toNat := by cases b.testBit j <;> rfl
  rw [e, Nat.xor_zero, e2]
  rcases Nat.mod_two_eq_zero_or_one d with h | h <;> cases b.testBit j <;> simp [h]
theorem ref_yes {d b j : Nat} (h : ((((d &&& 1) ^^^ ((b / 2 ^ j) &&& 1)) : Nat) : Int) = 1) : (d / 2 ^ 1) ^^^ 3988292384 = cbit (d ^^^ (b.testBit j).toNat) := by
  rw [ref_step, if_pos (by omega)]
theorem ref_no {d b j : Nat} (h : ¬ ((((d &&& 1) ^^^ ((b / 2 ^ j) &&& 1)) : Nat) : Int) = 1) : d / 2 ^ 1 = cbit (d ^^^ (b.testBit j).toNat) := by
  rw [ref_step, if_neg (by omega)]
theorem crcR_take {l : List Nat} {i : Nat} (h : i < l.length) (c : Nat) : crcR c (l.take (i + 1)) = cbyte (crcR c (l.take i)) (l.getD i 0) := by
  rw [List.take_add_one, crcR_append, List.getD_eq_getElem?_getD, List.getElem?_eq_getElem h]
  rfl
/-- What opens. -/
def openL (l : List Nat) : List Nat × Int := if l.length < 4 then ([], 3) else if l = seal_ (l.take (l.length - 4)) then (l.take (l.length - 4), 0) else ([], 5)
theorem open_seal (l : List Nat) : openL (seal_ l) = (l, 0) := by
  have h : (seal_ l).take ((seal_ l).length - 4) = l := by rw [seal_length, Nat.add_sub_cancel]; simp [seal_]
  unfold openL
  rw [h, if_neg (by rw [seal_length]; omega), if_pos rfl]
theorem openL_short {l : List Nat} (h : l.length < 4) : openL l = ([], 3) := by unfold openL; rw [if_pos h]
theorem openL_good {l : List Nat} (h : ¬ l.length < 4) (e : l = seal_ (l.take (l.length - 4))) : openL l = (l.take (l.length - 4), 0) := by unfold openL; rw [if_neg h, if_pos e]
theorem openL_bad {l : List Nat} (h : ¬ l.length < 4) (e : ¬ l = seal_ (l.take (l.length - 4))) : openL l = ([], 5) := by unfold openL; rw [if_neg h, if_neg e]
theorem openL_small {l : List Nat} (h : Small l) : Small (openL l).1 := by
  unfold openL
  split
  · exact Small.nil
  · split
    · exact h.take _
    · exact Small.nil
theorem openL_len (l : List Nat) : (openL l).1.length ≤ l.length := by
  unfold openL
  split
  · simp
  · split <;> simp
/-- Four bytes against a sum. -/
theorem four_eq {l : List Nat} (h : 4 ≤ l.length) : ((((l.drop (l.length - 4)).getD 0 0 : Nat) : Int) == (((crc (l.take (l.length - 4)) % 256) : Nat) : Int) && ((((l.drop (l.length - 4)).getD 1 0 : Nat) : Int) == (((crc (l.take (l.length - 4)) / 2 ^ 8 % 256) : Nat) : Int) &&
    ((((l.drop (l.length - 4)).getD 2 0 : Nat) : Int) == (((crc (l.take (l.length - 4)) / 2 ^ 16 % 256) : Nat) : Int) && (((l.drop (l.length - 4)).getD 3 0 : Nat) : Int) == (((crc (l.take (l.length - 4)) / 2 ^ 24 % 256) : Nat) : Int)))) = decide (l = seal_ (l.take (l.length - 4))) := by
  have hl : (l.drop (l.length - 4)).length = 4 := by rw [List.length_drop]; omega
  have hs : l = l.take (l.length - 4) ++ l.drop (l.length - 4) := (List.take_append_drop _ l).symm
  have key : (l = seal_ (l.take (l.length - 4))) ↔ l.drop (l.length - 4) = four (crc (l.take (l.length - 4))) := by
    unfold seal_
    refine ⟨fun h => List.append_cancel_left (hs.symm.trans h), fun h => by conv => lhs; rw [hs, h]⟩
  rw [show decide (l = seal_ (l.take (l.length - 4))) = decide (l.drop (l.length - 4) = four (crc (l.take (l.length - 4)))) from by simp only [key]]
  generalize l.drop (l.length - 4) = m at hl
  generalize crc (l.take (l.length - 4)) = s
  match m, hl with
  | [a, b, c, d], _ =>
    simp only [four, List.getD_cons_zero, List.getD_cons_succ]
    rw [Bool.eq_iff_iff]
    simp only [Bool.and_eq_true, beq_iff_eq, decide_eq_true_eq, List.cons.injEq, and_true]
    omega
/-! ### numbers as bytes -/
def uenc (n : Nat) : List Nat := if n < 128 then [n] else (n % 128 + 128) :: uenc (n / 128)
termination_by n
theorem uenc_small (n : Nat) : Small (uenc n) := by
  induction n using Nat.strongRecOn with
  | _ n ih =>
    rw [uenc]
    split
    · exact Small.one (by omega)
    · exact Small.cons (by omega) (ih _ (by omega))
theorem uenc_big {n : Nat} (h : ¬ n < 128) : uenc n = (n % 128 + 128) :: uenc (n / 128) := by conv => lhs; rw [uenc, if_neg h]
theorem uenc_one {n : Nat} (h : n < 128) : uenc n = [n] := by rw [uenc, if_pos h]
theorem uenc_len (n k : Nat) (h : n < 128 ^ (k + 1)) : (uenc n).length ≤ k + 1 := by
  induction k generalizing n with
  | zero => rw [uenc_one (by simpa using h)]; simp
  | succ k ih =>
    by_cases h1 : n < 128
    · rw [uenc_one h1]; simp
    · rw [uenc_big h1, List.length_cons]
      have := ih (n / 128) (by rw [Nat.div_lt_iff_lt_mul (by decide)]; rw [← Nat.pow_succ]; exact h)
      omega
theorem uenc_len10 {n : Nat} (h : n < 18446744073709551616) : (uenc n).length ≤ 10 := uenc_len n 9 (Nat.lt_of_lt_of_le h (by decide))
theorem or128 (n : Nat) : (n % 256) ||| 128 = n % 128 + 128 := by
  have e : n % 256 = n % 128 + 128 * (n / 128 % 2) := by omega
  have h1 : ∀ a, a < 128 → a ||| 128 = a + 128 := by decide +kernel
  rcases Nat.mod_two_eq_zero_or_one (n / 128) with h | h
  · rw [e, h, Nat.mul_zero, Nat.add_zero]; exact h1 _ (by omega)
  · rw [e, h]
    have h2 : ∀ a, a < 128 → (a + 128 * 1) ||| 128 = a + 128 := by decide +kernel
    exact h2 _ (by omega)
end Go.FM
namespace Go.FM
open Go
theorem four_get (s : Nat) {j : Nat} (h : j < 4) : (four s).take (j + 1) = (four s).take j ++ [s / 2 ^ (8 * j) % 256] := by
  match j, h with
  | 0, _ => simp [four]
  | 1, _ => simp [four]
  | 2, _ => simp [four]
  | 3, _ => simp [four]
theorem four_next (bs : List Nat) {n j : Nat} {v : Value} (h : j < 4) (ok : RowOk 1 v (n + j + 1) ((bs ++ (four (crc bs)).take j ++ [crc bs / 2 ^ (8 * j) % 256]).map encB)) : RowOk 1 v (n + (j + 1)) ((bs ++ (four (crc bs)).take (j + 1)).map encB) := by
  rw [four_get _ h, ← List.append_assoc]; exact ok
theorem four_nextS (bs : List Nat) {H : Hp} {w : World} {L : List Res} {e n j : Nat} {v : Value} (h : j < 4) (hs : St H w (row e 1 v (n + j + 1) ((bs ++ (four (crc bs)).take j ++ [crc bs / 2 ^ (8 * j) % 256]).map encB) :: L)) : St H w (row e 1 v (n + (j + 1)) ((bs ++ (four (crc bs)).take (j + 1)).map encB) :: L) := by
  rw [four_get _ h, ← List.append_assoc]; exact hs
end Go.FM
namespace Go.FM
theorem uenc_300 : bstr ([] ++ uenc 300) = ⟨#[172, 2]⟩ := by
  rw [uenc_big (by decide), uenc_one (by decide)]; rfl
theorem crc_check : crc [49, 50, 51, 52, 53, 54, 55, 56, 57] = 3421780262 := by decide +kernel
theorem turn_yes {l : List Nat} {k pat i z : Nat} (h : ((((pat / 2 ^ i) &&& 1) : Nat) : Int) = 1) (hz : (turn l k pat i)[(k + i) / 8]? = some z) : (turn l k pat i).set ((k + i) / 8) (z ^^^ (1 * 2 ^ ((k + i) % 8) % 256)) = turn l k pat (i + 1) := by
  have hb : pat.testBit i = true := by
    rw [low_bit] at h
    cases e : pat.testBit i with
    | true => rfl
    | false => rw [e] at h; simp at h
  have h8 : 2 ^ ((k + i) % 8) < 256 := Nat.lt_of_lt_of_le (Nat.pow_lt_pow_right (by decide) (show (k + i) % 8 < 8 by omega)) (by decide)
  rw [turn, if_pos hb, Nat.one_mul, Nat.mod_eq_of_lt h8, List.getD_eq_getElem?_getD, hz]
  rfl
theorem turn_no {l : List Nat} {k pat i : Nat} (h : ¬ ((((pat / 2 ^ i) &&& 1) : Nat) : Int) = 1) : turn l k pat i = turn l k pat (i + 1) := by
  have hb : pat.testBit i = false := by
    rw [low_bit] at h
    cases e : pat.testBit i with
    | false => rfl
    | true => rw [e] at h; simp at h
  rw [turn, hb]
  rfl
theorem burst_good {l : List Nat} (hl : Small l) {k pat m : Nat} (hm : m ≤ 32) (hk : k + m ≤ 8 * (l.length + 4)) (h : ¬ (openL (turn (seal_ l) k pat m)).2 = 5) : bstr (turn (seal_ l) k pat m) = bstr (seal_ l) := by
  congr 1
  have hs := turn_small (seal_small hl) k pat m
  unfold openL at h
  rw [if_neg (by rw [turn_length, seal_length]; omega)] at h
  split at h
  · rename_i e
    exact seal_burst hl (hs.take _) hm hk e
  · simp at h
end Go.FM
