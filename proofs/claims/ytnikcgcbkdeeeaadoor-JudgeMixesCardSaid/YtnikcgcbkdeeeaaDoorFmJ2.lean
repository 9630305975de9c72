/- The laws on sequences, in plain words (chapter 19). -/
import Derived.Test.YtnikcgcbkdeeeaaDoorFmJ1
set_option linter.unusedVariables false
set_option linter.unusedSimpArgs false
namespace Go.FM
open Go
section
variable {del d : List (List GItem)} {i j k : Nat} {l s : List GItem} {x e e1 e2 : GItem} {acc : Acc}
theorem longS_in (del : List (List GItem)) : longS del = [] ∨ longS del ∈ del := by
  rcases longTo_in (del := del) del.length with h | ⟨j, l, _, h2, h3⟩
  · exact .inl h
  · exact .inr (by unfold longS; rw [h3]; exact List.mem_of_getElem? h2)
theorem longS_len (h : ∀ l ∈ del, l.length ≤ k) : (longS del).length ≤ k := by
  rcases longS_in del with h1 | h1
  · rw [h1]; exact Nat.zero_le _
  · exact h _ h1
theorem totS_len {n : Nat} (hs : ∀ (j : Nat) (y : List GItem), j < i → del[j]? = some y → y.length ≤ n) (hi : del.length ≤ i) : (totS acc del).1.length ≤ n := by
  have h1 : (longS del).length ≤ n := longS_len fun l hl => by
    obtain ⟨j, hj⟩ := List.getElem?_of_mem hl
    exact hs j l (by have := (List.getElem?_eq_some_iff.1 hj).1; omega) hj
  unfold totS
  split
  · exact h1
  · exact Nat.zero_le _
theorem longS_ge (h : l ∈ del) : l.length ≤ (longS del).length := by
  obtain ⟨j, hj⟩ := List.getElem?_of_mem h
  exact long_ge hj
theorem mix_long (h0 : s ∈ d) (hd : ∀ l ∈ d, ∃ m, l = s.take m) : longS d = s := by
  have h1 := longS_ge h0
  rcases longS_in d with h2 | h2
  · rw [h2] at h1
    rw [h2]
    exact (List.eq_nil_of_length_eq_zero (by simpa using h1)).symm
  · obtain ⟨m, hm⟩ := hd _ h2
    rw [hm] at h1 ⊢
    rw [List.length_take] at h1
    exact List.take_of_length_le (by omega)
theorem mix_total (h0 : s ∈ d) (hd : ∀ l ∈ d, ∃ m, l = s.take m) (hok : ∀ j, j < s.length → okAt acc s j = true) : totS acc d = (s, true) := by
  have hl := mix_long h0 hd
  refine (totS_yes ?_ ?_).trans (by rw [hl])
  · rw [hl]
    refine List.all_eq_true.2 fun l hlm => decide_eq_true ?_
    obtain ⟨m, rfl⟩ := hd l hlm
    rw [List.length_take]
    by_cases h : m ≤ s.length
    · rw [Nat.min_eq_left h]
    · rw [Nat.min_eq_right (by omega), List.take_of_length_le (Nat.le_refl _), List.take_of_length_le (by omega)]
  · rw [hl]; exact okAll_end hok (Nat.le_refl _)
theorem okAt_snoc (hj : j < s.length) : okAt acc (s ++ [x]) j = okAt acc s j := by
  unfold okAt
  rw [List.getElem?_append_left hj, List.take_append_of_le_length (by omega)]
theorem ok_snoc (hok : ∀ j, j < s.length → okAt acc s j = true) (h : okAt acc (s ++ [x]) s.length = true) : ∀ j, j < (s ++ [x]).length → okAt acc (s ++ [x]) j = true := by
  intro j hj
  rw [List.length_append, List.length_singleton] at hj
  rcases Nat.lt_succ_iff_lt_or_eq.1 hj with hj | rfl
  · rw [okAt_snoc hj]; exact hok j hj
  · exact h
theorem ok_push {a : List (List Nat)} {v c : Nat} {m : List Nat} (ha : acc[v]? = some a) (hc : c = cntI s (v : Int)) (hm : a[c]? = some m) : okAt acc (s ++ [GItem.mk (v : Int) m]) s.length = true := by
  refine okAt_yes (x := GItem.mk (v : Int) m) (v := v) (c := c) (m := m) ?_ rfl ha ?_ hm rfl
  · rw [List.getElem?_append_right (Nat.le_refl _), Nat.sub_self]; rfl
  · rw [List.take_append_of_le_length (Nat.le_refl _), List.take_of_length_le (Nat.le_refl _)]; exact hc
theorem mix_swap (hok : ∀ j, j < s.length → okAt acc s j = true) (h1 : s[k]? = some e1) (h2 : s[k + 1]? = some e2) (hf : e1.From = e2.From) (hm : e1.M ≠ e2.M) : (totS acc [(s.set k e2).set (k + 1) e1]).2 = false := by
  have hk := (List.getElem?_eq_some_iff.1 h2).1
  have hy : ((s.set k e2).set (k + 1) e1)[k]? = some e2 := by
    rw [List.getElem?_set, if_neg (by omega), List.getElem?_set, if_pos rfl, if_pos (by omega)]
  have ht : ((s.set k e2).set (k + 1) e1).take k = s.take k := by
    rw [List.take_set_of_le (by omega), List.take_set_of_le (by omega)]
  have hl : longS [(s.set k e2).set (k + 1) e1] = (s.set k e2).set (k + 1) e1 := mix_long (by simp) (fun l hl => ⟨l.length, by rw [List.mem_singleton.1 hl, List.take_length]⟩)
  have hb : okAt acc ((s.set k e2).set (k + 1) e1) k = false := by
    have h3 := hok k (by omega)
    unfold okAt at h3 ⊢
    rw [h1] at h3
    rw [hy, ht]
    simp only [] at h3 ⊢
    rw [← hf]
    rw [Bool.and_eq_true] at h3
    rw [h3.1, of_decide_eq_true h3.2, Bool.true_and]
    exact decide_eq_false (fun h => hm (Option.some.inj h))
  rw [totS_no2 (by rw [hl]; exact okAll_no (j := k) (by simp; omega) hb)]
theorem longTo_app (i : Nat) (hi : i ≤ del.length) : longTo (del ++ [l]) i = longTo del i := by
  unfold longTo; rw [List.take_append_of_le_length hi]
theorem longS_nil : longS (del ++ [[]]) = longS del := by
  have h : (del ++ [[]])[del.length]? = some ([] : List GItem) := by rw [List.getElem?_append_right (Nat.le_refl _), Nat.sub_self]; rfl
  unfold longS
  rw [List.length_append, List.length_singleton, longTo_next h, longTo_app _ (Nat.le_refl _)]
  unfold longStep
  rw [if_neg (by simp)]
theorem okAt_more {more : List (List Nat)} (hf : ∀ x ∈ s, x.From ≠ (acc.length : Int)) (j : Nat) : okAt (acc ++ [more]) s j = okAt acc s j := by
  unfold okAt
  cases hx : s[j]? with
  | none => rfl
  | some x =>
    have := hf x (List.mem_of_getElem? hx)
    simp only []
    rw [List.length_append, List.length_singleton]
    by_cases h : 0 ≤ x.From ∧ x.From < (acc.length : Int)
    · rw [decide_eq_true h, decide_eq_true (show 0 ≤ x.From ∧ x.From < ((acc.length + 1 : Nat) : Int) by omega), List.getD_eq_getElem?_getD, List.getD_eq_getElem?_getD, List.getElem?_append_left (by omega)]
    · rw [decide_eq_false h, decide_eq_false (show ¬ (0 ≤ x.From ∧ x.From < ((acc.length + 1 : Nat) : Int)) by omega)]; rfl
theorem tot_others {more : List (List Nat)} (hf : ∀ l ∈ del, ∀ x ∈ l, x.From ≠ (acc.length : Int)) : (totS (acc ++ [more]) (del ++ [[]])).2 = (totS acc del).2 := by
  have h1 : longS (del ++ [[]]) = longS del := longS_nil
  have h2 : preS (del ++ [[]]) (longS del) = preS del (longS del) := by unfold preS; rw [List.all_append]; simp
  have h3 : ∀ x ∈ longS del, x.From ≠ (acc.length : Int) := by
    rcases longS_in del with h | h
    · rw [h]; intro x hx; cases hx
    · exact hf _ h
  have h4 : okAll (acc ++ [more]) (longS del) = okAll acc (longS del) := by
    unfold okAll; congr 1; funext j; exact okAt_more h3 j
  unfold totS
  rw [h1, h2, h4]
theorem others_all {n : Nat} (hfr : ∀ (j : Nat) (y : List GItem), j < i → del[j]? = some y → ∀ (m : Nat) (x : GItem), m < 200 → y[m]? = some x → x.From ≠ (acc.length : Int)) (hs : ∀ (j : Nat) (y : List GItem), j < i → del[j]? = some y → y.length ≤ n) (hn : n ≤ 200) (hi : del.length ≤ i) : ∀ l ∈ del, ∀ x ∈ l, x.From ≠ (acc.length : Int) := by
  intro l hl x hx
  obtain ⟨j, hj⟩ := List.getElem?_of_mem hl
  obtain ⟨m, hm⟩ := List.getElem?_of_mem hx
  have h1 := (List.getElem?_eq_some_iff.1 hj).1
  have h2 := (List.getElem?_eq_some_iff.1 hm).1
  have h3 := hs j l (by omega) hj
  exact hfr j l (by omega) hj m x (by omega) hm
theorem next_all3 {α : Type} {p : Nat → α → Prop} {l : List α} {i : Nat} {x : α} (ha : ∀ (j : Nat) (y : α), j < i → l[j]? = some y → p j y) (hx : l[i]? = some x) (hp : p i x) : ∀ (j : Nat) (y : α), j < i + 1 → l[j]? = some y → p j y := by
  intro j y hj hy
  rcases Nat.lt_succ_iff_lt_or_eq.1 hj with hj | rfl
  · exact ha j y hj hy
  · rw [hx] at hy; cases hy; exact hp
end
end Go.FM
