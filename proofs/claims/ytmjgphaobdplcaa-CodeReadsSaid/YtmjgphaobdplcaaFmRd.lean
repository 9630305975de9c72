/- The two readers, by one state: what is left, and whether there was a fault. -/
import Derived.Test.YtmjgphaobdplcaaFmM2d
import Derived.Test.YtmjgphaobdplcaaFmT
set_option linter.unusedVariables false
set_option linter.unusedSimpArgs false
namespace Go.FM
open Go
/-- The reference's place. -/
def atOf (n : Nat) (cur : List Nat) (bad : Bool) : Int := if bad then -1 else (n : Int) - (cur.length : Int)
/-- What is left is an end of all. -/
def Suf (bs cur : List Nat) : Prop := ∃ k, k ≤ bs.length ∧ cur = bs.drop k
theorem atOf_true (n : Nat) (cur : List Nat) : atOf n cur true = -1 := rfl
theorem atOf_false (n : Nat) (cur : List Nat) : atOf n cur false = (n : Int) - (cur.length : Int) := rfl
theorem Suf.refl (bs : List Nat) : Suf bs bs := ⟨0, Nat.zero_le _, rfl⟩
theorem Suf.len {bs cur : List Nat} (h : Suf bs cur) : cur.length ≤ bs.length := by obtain ⟨k, hk, rfl⟩ := h; simp
theorem Suf.drop {bs cur : List Nat} (h : Suf bs cur) (m : Nat) : Suf bs (cur.drop m) := by
  obtain ⟨k, hk, rfl⟩ := h
  by_cases hm : k + m ≤ bs.length
  · exact ⟨k + m, hm, by rw [List.drop_drop]⟩
  · exact ⟨bs.length, Nat.le_refl _, by rw [List.drop_drop, List.drop_eq_nil_of_le (by omega), List.drop_length]⟩
theorem Suf.eq {bs cur : List Nat} (h : Suf bs cur) : cur = bs.drop (bs.length - cur.length) := by
  obtain ⟨k, hk, rfl⟩ := h
  rw [List.length_drop, show bs.length - (bs.length - k) = k by omega]
theorem rdU_sub (cur : List Nat) (bad : Bool) : ∃ m, (rdU cur bad).2.1 = cur.drop m := by
  unfold rdU
  split
  · exact ⟨0, rfl⟩
  · split
    · rename_i h
      obtain ⟨k, h1, _, _⟩ := uscan_sub _ _ _ h
      exact ⟨k, h1⟩
    · exact ⟨0, rfl⟩
theorem Suf.rdU {bs cur : List Nat} (h : Suf bs cur) (bad : Bool) : Suf bs (rdU cur bad).2.1 := by
  obtain ⟨m, e⟩ := rdU_sub cur bad
  rw [e]; exact h.drop m
theorem Suf.rdI {bs cur : List Nat} (h : Suf bs cur) (bad : Bool) (most : Int) : Suf bs (rdI cur bad most).2.1 := by
  unfold FM.rdI; split <;> exact h.rdU bad
theorem Suf.rdB {bs cur : List Nat} (h : Suf bs cur) (bad : Bool) (most : Int) : Suf bs (rdB cur bad most).2.1 := by
  unfold FM.rdB; split
  · exact h.rdI bad most
  · exact (h.rdI bad most).drop _
theorem Rr.at_ {n : Nat} {bs cur : List Nat} {bad : Bool} {a : Int} (h : Rr n bs cur bad a) (hn : bs.length = n) : a = atOf n cur bad := by
  rcases h with ⟨rfl, rfl⟩ | ⟨rfl, k, hk, rfl, rfl⟩
  · rfl
  · rw [atOf_false, List.length_drop]; omega
theorem atOf_neg {n : Nat} {cur : List Nat} {bad : Bool} (h : cur.length ≤ n) : atOf n cur bad < 0 ↔ bad = true := by
  cases bad
  · rw [atOf_false]; simp; omega
  · simp [atOf_true]
theorem atOf_neg' {n : Nat} {cur : List Nat} {bad : Bool} (h : cur.length ≤ n) : decide (atOf n cur bad < 0) = bad := by
  rw [Bool.eq_iff_iff, decide_eq_true_eq]; exact atOf_neg h
theorem atOf_bound {n : Nat} {cur : List Nat} {bad : Bool} (h : cur.length ≤ n) : -1 ≤ atOf n cur bad ∧ atOf n cur bad ≤ n := by
  cases bad
  · rw [atOf_false]; omega
  · rw [atOf_true]; omega
theorem rdB_at {bs cur : List Nat} {n : Nat} (hn : bs.length = n) (h : Suf bs cur) {m : Nat} (hm : m ≤ cur.length) : (bs.take ((n : Int) - (cur.length : Int) + (m : Int)).toNat).drop ((n : Int) - (cur.length : Int)).toNat = cur.take m := by
  have hl := h.len
  have e := h.eq
  have e1 : ((n : Int) - (cur.length : Int) + (m : Int)).toNat = (bs.length - cur.length) + m := by omega
  have e2 : ((n : Int) - (cur.length : Int)).toNat = bs.length - cur.length := by omega
  rw [e1, e2, take_drop']
  conv => rhs; rw [e]
end Go.FM
namespace Go.FM
theorem atOf_or (n : Nat) (cur : List Nat) (bad : Bool) : (bad = true ∧ atOf n cur bad = -1) ∨ (bad = false ∧ atOf n cur bad = (n : Int) - (cur.length : Int)) := by
  cases bad
  · exact .inr ⟨rfl, rfl⟩
  · exact .inl ⟨rfl, rfl⟩
end Go.FM
