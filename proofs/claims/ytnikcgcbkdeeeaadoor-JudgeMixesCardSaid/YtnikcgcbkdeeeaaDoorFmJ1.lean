/- One sequence of which all that was delivered is a beginning: in plain words (chapter 19). -/
import Derived.Test.YtnikcgcbkdeeeaaDoorFmT
import Derived.Test.YtnikcgcbkdeeeaaDoorFmM6
set_option linter.unusedVariables false
set_option linter.unusedSimpArgs false
namespace Go.FM
open Go
abbrev Acc := List (List (List Nat))
def longStep (a l : List GItem) : List GItem := if a.length < l.length then l else a
def longTo (del : List (List GItem)) (i : Nat) : List GItem := (del.take i).foldl longStep []
def longS (del : List (List GItem)) : List GItem := longTo del del.length
theorem take_next {α : Type} {l : List α} {i : Nat} {x : α} (h : l[i]? = some x) : l.take (i + 1) = l.take i ++ [x] := by
  rw [List.take_add_one, h]; rfl
section
variable {del : List (List GItem)} {i j k : Nat} {l s s0 : List GItem} {x e : GItem} {acc : Acc}
theorem longTo_next (h : del[i]? = some l) : longTo del (i + 1) = longStep (longTo del i) l := by
  unfold longTo; rw [take_next h, List.foldl_append]; rfl
theorem longStep_len : (longStep s l).length = max s.length l.length := by
  unfold longStep; split <;> omega
theorem longTo_ge : ∀ (i j : Nat) (l : List GItem), j < i → del[j]? = some l → l.length ≤ (longTo del i).length
  | 0, j, l, h, _ => absurd h (Nat.not_lt_zero _)
  | i + 1, j, l, h, hl => by
    cases hi : del[i]? with
    | none =>
      have h1 := List.getElem?_eq_none_iff.1 hi
      have h2 := (List.getElem?_eq_some_iff.1 hl).1
      have : longTo del (i + 1) = longTo del i := by unfold longTo; rw [List.take_of_length_le (by omega), List.take_of_length_le h1]
      rw [this]
      exact longTo_ge i j l (by omega) hl
    | some m =>
      rw [longTo_next hi, longStep_len]
      rcases Nat.lt_succ_iff_lt_or_eq.1 h with h | rfl
      · have := longTo_ge i j l h hl; omega
      · rw [hi] at hl; cases hl; omega
theorem long_ge (hl : del[j]? = some l) : l.length ≤ (longS del).length := longTo_ge _ j l (List.getElem?_eq_some_iff.1 hl).1 hl
theorem longTo_in : ∀ i, longTo del i = [] ∨ ∃ j l, j < i ∧ del[j]? = some l ∧ longTo del i = l
  | 0 => .inl rfl
  | i + 1 => by
    cases hi : del[i]? with
    | none =>
      have h1 := List.getElem?_eq_none_iff.1 hi
      have : longTo del (i + 1) = longTo del i := by unfold longTo; rw [List.take_of_length_le (by omega), List.take_of_length_le h1]
      rw [this]
      rcases longTo_in i with h | ⟨j, l, h1, h2, h3⟩
      · exact .inl h
      · exact .inr ⟨j, l, by omega, h2, h3⟩
    | some m =>
      rw [longTo_next hi]
      unfold longStep
      split
      · exact .inr ⟨i, m, by omega, hi, rfl⟩
      · rcases longTo_in i with h | ⟨j, l, h1, h2, h3⟩
        · exact .inl h
        · exact .inr ⟨j, l, by omega, h2, h3⟩
def cntI (s : List GItem) (k : Int) : Nat := s.countP (fun y => decide (y.From = k))
def okAt (acc : Acc) (s : List GItem) (j : Nat) : Bool := match s[j]? with
  | none => true
  | some x => decide (0 ≤ x.From ∧ x.From < (acc.length : Int)) && decide ((acc.getD x.From.toNat [])[cntI (s.take j) x.From]? = some x.M)
def preS (del : List (List GItem)) (s : List GItem) : Bool := del.all (fun l => decide (l = s.take l.length))
def okAll (acc : Acc) (s : List GItem) : Bool := (List.range s.length).all (okAt acc s)
def totS (acc : Acc) (del : List (List GItem)) : List GItem × Bool := if preS del (longS del) = true ∧ okAll acc (longS del) = true then (longS del, true) else ([], false)
theorem totS_yes (h1 : preS del (longS del) = true) (h2 : okAll acc (longS del) = true) : totS acc del = (longS del, true) := if_pos ⟨h1, h2⟩
theorem totS_no1 (h1 : preS del (longS del) = false) : totS acc del = ([], false) := if_neg (fun h => by rw [h1] at h; exact absurd h.1 (by decide))
theorem totS_no2 (h2 : okAll acc (longS del) = false) : totS acc del = ([], false) := if_neg (fun h => by rw [h2] at h; exact absurd h.2 (by decide))
theorem preS_no (hl : del[j]? = some l) (h : l ≠ s.take l.length) : preS del s = false := by
  cases hp : preS del s with
  | false => rfl
  | true => exact absurd (of_decide_eq_true (List.all_eq_true.1 hp l (List.mem_of_getElem? hl))) h
theorem preS_end (ha : ∀ (j : Nat) (y : List GItem), j < i → del[j]? = some y → decide (y = s.take y.length) = true) (hi : del.length ≤ i) : preS del s = true := by
  refine List.all_eq_true.2 fun y hy => ?_
  obtain ⟨j, hj, rfl⟩ := List.mem_iff_getElem.1 hy
  exact ha j _ (by omega) (List.getElem?_eq_getElem hj)
theorem okAll_no (hj : j < s.length) (h : okAt acc s j = false) : okAll acc s = false := by
  cases hp : okAll acc s with
  | false => rfl
  | true => have := List.all_eq_true.1 hp j (List.mem_range.2 hj); rw [h] at this; cases this
theorem okAll_end (ha : ∀ j, j < i → okAt acc s j = true) (hi : s.length ≤ i) : okAll acc s = true :=
  List.all_eq_true.2 fun j hj => ha j (by have := List.mem_range.1 hj; omega)
theorem okAt_from (hx : s[j]? = some x) (h : ¬ (0 ≤ x.From ∧ x.From < (acc.length : Int))) : okAt acc s j = false := by
  unfold okAt; rw [hx]; simp [h]
theorem okAt_is {a : List (List Nat)} {c : Nat} (hx : s[j]? = some x) (h0 : 0 ≤ x.From) (ha : acc[x.From.toNat]? = some a) (hc : cntI (s.take j) x.From = c) : okAt acc s j = decide (a[c]? = some x.M) := by
  have h1 := (List.getElem?_eq_some_iff.1 ha).1
  unfold okAt; rw [hx]
  simp only []
  rw [decide_eq_true (show 0 ≤ x.From ∧ x.From < (acc.length : Int) by omega), Bool.true_and, List.getD_eq_getElem?_getD, ha, hc]; rfl
def cntL (n : Nat) (s : List GItem) : List Int := (List.range n).map (fun (k : Nat) => ((cntI s (k : Int) : Nat) : Int))
theorem cntL_nil (n : Nat) : cntL n [] = List.replicate n 0 := by
  apply List.ext_getElem?
  intro k
  unfold cntL
  rw [List.getElem?_map, List.getElem?_replicate]
  by_cases h : k < n
  · rw [List.getElem?_range h, if_pos h]; rfl
  · rw [List.getElem?_eq_none (by simp; omega), if_neg h]; rfl
theorem cntL_len (n : Nat) (s : List GItem) : (cntL n s).length = n := by unfold cntL; simp
theorem cntL_at {n m : Nat} {z : Int} (h : (cntL n s)[m]? = some z) : m < n ∧ z = ((cntI s (m : Int) : Nat) : Int) := by
  have hm := (List.getElem?_eq_some_iff.1 h).1
  rw [cntL_len] at hm
  unfold cntL at h
  rw [List.getElem?_map, List.getElem?_range hm] at h
  exact ⟨hm, (Option.some.inj h).symm⟩
theorem cntI_snoc (s : List GItem) (x : GItem) (k : Int) : cntI (s ++ [x]) k = cntI s k + (if x.From = k then 1 else 0) := by
  unfold cntI; rw [List.countP_append, List.countP_singleton]; simp
theorem cntL_next {n m : Nat} (hx : x.From = (m : Int)) (hm : m < n) : cntL n (s ++ [x]) = (cntL n s).set m (((cntI s (m : Int) : Nat) : Int) + 1) := by
  apply List.ext_getElem?
  intro k
  rw [List.getElem?_set, cntL_len]
  unfold cntL
  rw [List.getElem?_map]
  by_cases h : k < n
  · rw [List.getElem?_range h]
    by_cases hk : m = k
    · subst hk
      rw [if_pos rfl, if_pos h]
      show some ((cntI (s ++ [x]) (m : Int) : Nat) : Int) = _
      rw [cntI_snoc, if_pos hx]; simp
    · rw [if_neg hk, List.getElem?_map, List.getElem?_range h]
      show some ((cntI (s ++ [x]) (k : Int) : Nat) : Int) = some ((cntI s (k : Int) : Nat) : Int)
      rw [cntI_snoc, if_neg (by omega)]; rfl
  · rw [List.getElem?_eq_none (l := List.range n) (by simp; omega)]
    rw [if_neg (by omega), List.getElem?_map, List.getElem?_eq_none (by simp; omega)]; rfl
theorem okAt_n {a : List (List Nat)} {v c : Nat} (hx : s[j]? = some x) (hf : x.From = (v : Int)) (ha : acc[v]? = some a) (hc : c = cntI (s.take j) (v : Int)) : okAt acc s j = decide (a[c]? = some x.M) :=
  okAt_is hx (by omega) (by rw [hf, Int.toNat_natCast]; exact ha) (by rw [hf]; exact hc.symm)
theorem okAt_out {a : List (List Nat)} {v c : Nat} (hx : s[j]? = some x) (hf : x.From = (v : Int)) (ha : acc[v]? = some a) (hc : c = cntI (s.take j) (v : Int)) (h : a.length ≤ c) : okAt acc s j = false := by
  rw [okAt_n hx hf ha hc]; exact decide_eq_false (by rw [List.getElem?_eq_none h]; simp)
theorem okAt_ne {a : List (List Nat)} {v c : Nat} {m : List Nat} (hx : s[j]? = some x) (hf : x.From = (v : Int)) (ha : acc[v]? = some a) (hc : c = cntI (s.take j) (v : Int)) (hm : a[c]? = some m) (h : m ≠ x.M) : okAt acc s j = false := by
  rw [okAt_n hx hf ha hc]; exact decide_eq_false (by rw [hm]; intro e; exact h (Option.some.inj e))
theorem okAt_yes {a : List (List Nat)} {v c : Nat} {m : List Nat} (hx : s[j]? = some x) (hf : x.From = (v : Int)) (ha : acc[v]? = some a) (hc : c = cntI (s.take j) (v : Int)) (hm : a[c]? = some m) (h : m = x.M) : okAt acc s j = true := by
  rw [okAt_n hx hf ha hc]; exact decide_eq_true (by rw [hm, h])
theorem cntI_at {m : Nat} (hm : k < s.length) (hx : s[k]? = some x) (hf : x.From = (m : Int)) : cntI (s.take (k + 1)) (m : Int) = cntI (s.take k) (m : Int) + 1 := by rw [take_next hx, cntI_snoc, if_pos hf]
theorem cntI_pass {m : Nat} (hx : s[k]? = some x) (hf : x.From ≠ (m : Int)) : cntI (s.take (k + 1)) (m : Int) = cntI (s.take k) (m : Int) := by rw [take_next hx, cntI_snoc, if_neg hf]; rfl
def eqF {α β : Type} (f : α → β → Bool) (a : List α) (b : List β) : Bool := decide (a.length = b.length) && (List.zip a b).all (fun p => f p.1 p.2)
theorem eqF_len {α β : Type} {f : α → β → Bool} {a : List α} {b : List β} (h : a.length ≠ b.length) : eqF f a b = false := by unfold eqF; rw [decide_eq_false h]; rfl
theorem eqF_no {α β : Type} {f : α → β → Bool} {a : List α} {b : List β} {i : Nat} {x : α} {y : β} (hx : a[i]? = some x) (hy : b[i]? = some y) (h : f x y = false) : eqF f a b = false := by
  cases he : eqF f a b with
  | false => rfl
  | true =>
    unfold eqF at he
    rw [Bool.and_eq_true] at he
    have := List.all_eq_true.1 he.2 (x, y) (List.mem_of_getElem? (i := i) (by rw [List.getElem?_zip_eq_some]; exact ⟨hx, hy⟩))
    simp only [] at this
    rw [h] at this; cases this
theorem eqF_yes {α β : Type} {f : α → β → Bool} {a : List α} {b : List β} {i : Nat} (hl : a.length = b.length) (ha : ∀ j x y, j < i → a[j]? = some x → b[j]? = some y → f x y = true) (hi : a.length ≤ i) : eqF f a b = true := by
  unfold eqF
  rw [decide_eq_true hl, Bool.true_and]
  refine List.all_eq_true.2 fun p hp => ?_
  obtain ⟨j, hj⟩ := List.getElem?_of_mem hp
  obtain ⟨x, y⟩ := p
  rw [List.getElem?_zip_eq_some] at hj
  exact ha j x y (by have := (List.getElem?_eq_some_iff.1 hj.1).1; omega) hj.1 hj.2
theorem eqF_next {α β : Type} {f : α → β → Bool} {a : List α} {b : List β} {i : Nat} {x : α} {y : β} (ha : ∀ j x y, j < i → a[j]? = some x → b[j]? = some y → f x y = true) (hx : a[i]? = some x) (hy : b[i]? = some y) (h : f x y = true) : ∀ j x y, j < i + 1 → a[j]? = some x → b[j]? = some y → f x y = true := by
  intro j x' y' hj hx' hy'
  rcases Nat.lt_succ_iff_lt_or_eq.1 hj with hj | rfl
  · exact ha j x' y' hj hx' hy'
  · rw [hx] at hx'; rw [hy] at hy'; cases hx'; cases hy'; exact h
theorem eqF_dec {α : Type} [DecidableEq α] {a b : List α} : eqF (fun x y => decide (x = y)) a b = decide (a = b) := by
  by_cases h : a = b
  · subst h
    rw [decide_eq_true rfl]
    exact eqF_yes rfl (fun j x y _ hx hy => by rw [hx] at hy; cases hy; exact decide_eq_true rfl) (Nat.le_refl _)
  · rw [decide_eq_false h]
    cases he : eqF (fun x y => decide (x = y)) a b with
    | false => rfl
    | true =>
      exfalso
      apply h
      unfold eqF at he
      rw [Bool.and_eq_true] at he
      have hl := of_decide_eq_true he.1
      apply List.ext_getElem?
      intro j
      by_cases hj : j < a.length
      · rw [List.getElem?_eq_getElem hj, List.getElem?_eq_getElem (by omega)]
        have := List.all_eq_true.1 he.2 (a[j], b[j]) (List.mem_of_getElem? (i := j) (by rw [List.getElem?_zip_eq_some]; exact ⟨List.getElem?_eq_getElem hj, List.getElem?_eq_getElem (by omega)⟩))
        rw [show a[j] = b[j] from of_decide_eq_true this]
      · rw [List.getElem?_eq_none (by omega), List.getElem?_eq_none (by omega)]
theorem next_all2 {α : Type} {p : Nat → α → Bool} {l : List α} {i : Nat} {x : α} (ha : ∀ (j : Nat) (y : α), j < i → l[j]? = some y → p j y = true) (hx : l[i]? = some x) (hp : p i x = true) : ∀ (j : Nat) (y : α), j < i + 1 → l[j]? = some y → p j y = true := by
  intro j y hj hy
  rcases Nat.lt_succ_iff_lt_or_eq.1 hj with hj | rfl
  · exact ha j y hj hy
  · rw [hx] at hy; cases hy; exact hp
theorem okto_next (ha : ∀ j, j < k → okAt acc s j = true) (h : okAt acc s k = true) : ∀ j, j < k + 1 → okAt acc s j = true := by
  intro j hj
  rcases Nat.lt_succ_iff_lt_or_eq.1 hj with hj | rfl
  · exact ha j hj
  · exact h
theorem item_eq2 {a b : GItem} (h1 : a.From = b.From) (h2 : a.M = b.M) : a = b := by cases a; cases b; simp_all
theorem one_pass {v : Int} (hc : ∀ (m : Nat) (y : GItem), m < k → s[m]? = some y → y.From = v → okAt acc s m = true) (hx : s[k]? = some x) (h : x.From ≠ v) : ∀ (m : Nat) (y : GItem), m < k + 1 → s[m]? = some y → y.From = v → okAt acc s m = true := by
  intro m y hm hy hf
  rcases Nat.lt_succ_iff_lt_or_eq.1 hm with hm | rfl
  · exact hc m y hm hy hf
  · rw [hx] at hy; cases hy; exact absurd hf h
theorem one_good {v : Int} (hc : ∀ (m : Nat) (y : GItem), m < k → s[m]? = some y → y.From = v → okAt acc s m = true) (hx : s[k]? = some x) (h : okAt acc s k = true) : ∀ (m : Nat) (y : GItem), m < k + 1 → s[m]? = some y → y.From = v → okAt acc s m = true := by
  intro m y hm hy hf
  rcases Nat.lt_succ_iff_lt_or_eq.1 hm with hm | rfl
  · exact hc m y hm hy hf
  · exact h
theorem one_node {v : Nat} (hb : ∀ (m : Nat) (y : GItem), s[m]? = some y → 0 ≤ y.From → y.From < ((v : Nat) : Int) → okAt acc s m = true) (hc : ∀ (m : Nat) (y : GItem), m < k → s[m]? = some y → y.From = ((v : Nat) : Int) → okAt acc s m = true) (hk : s.length ≤ k) :
    ∀ (m : Nat) (y : GItem), s[m]? = some y → 0 ≤ y.From → y.From < ((v + 1 : Nat) : Int) → okAt acc s m = true := by
  intro m y hy h0 h1
  have hm := (List.getElem?_eq_some_iff.1 hy).1
  by_cases h : y.From = ((v : Nat) : Int)
  · exact hc m y (by omega) hy h
  · exact hb m y hy h0 (by omega)
theorem one_all {v q n : Nat} (hfr : ∀ (j : Nat) (y : GItem), j < q → s[j]? = some y → decide (0 ≤ y.From ∧ y.From < (n : Int)) = true) (hb : ∀ (m : Nat) (y : GItem), s[m]? = some y → 0 ≤ y.From → y.From < ((v : Nat) : Int) → okAt acc s m = true) (hq : s.length ≤ q) (hv : n ≤ v) : okAll acc s = true := by
  refine okAll_end (i := s.length) (fun j hj => ?_) (Nat.le_refl _)
  have hy := List.getElem?_eq_getElem hj
  have h1 := of_decide_eq_true (hfr j _ (by omega) hy)
  exact hb j _ hy h1.1 (by omega)
/-! ### the sequence, item by item -/
def extS (s0 l : List GItem) (k : Nat) : List GItem := if k ≤ s0.length then s0 else l.take k
theorem extS_zero (s0 l : List GItem) : extS s0 l 0 = s0 := if_pos (Nat.zero_le _)
theorem extS_len (hk : k ≤ l.length) : (extS s0 l k).length = max s0.length k := by
  unfold extS
  split
  · omega
  · rw [List.length_take]; omega
theorem extS_end : extS s0 l l.length = longStep s0 l := by
  unfold extS longStep
  by_cases h : l.length ≤ s0.length
  · rw [if_pos h, if_neg (by omega)]
  · rw [if_neg h, if_pos (by omega), List.take_length]
theorem take_all_eq {α : Type} {a b : List α} {k : Nat} (hl : a.length ≤ k) (h : ∀ m, m < k → a[m]? = b[m]?) : a = b.take k := by
  apply List.ext_getElem?
  intro m
  rw [List.getElem?_take]
  split
  · rename_i hm; exact h m hm
  · rw [List.getElem?_eq_none (by omega)]
/-- The next item is put behind. -/
theorem extS_push (hs : s = extS s0 l k) (ht : ∀ m, m < k → m < s0.length → l[m]? = s0[m]?) (hk : k = s.length) (hx : l[k]? = some x) : s ++ [x] = extS s0 l (k + 1) := by
  have hkl := (List.getElem?_eq_some_iff.1 hx).1
  have h1 := extS_len (s0 := s0) (l := l) (k := k) (by omega)
  rw [← hs] at h1
  unfold extS at hs ⊢
  rw [if_neg (by omega), take_next hx]
  congr 1
  split at hs
  · rw [hs]
    refine take_all_eq (by omega) fun m hm => (ht m hm (by omega)).symm
  · exact hs
theorem extS_stay (hs : s = extS s0 l k) (hk : ¬ k = s.length) (hkl : k < l.length) : s = extS s0 l (k + 1) := by
  have h1 := extS_len (s0 := s0) (l := l) (k := k) (by omega)
  rw [← hs] at h1
  unfold extS at hs ⊢
  rw [if_pos (by omega)] at hs
  rw [if_pos (by omega)]; exact hs
theorem ext_next (hs : s = extS s0 l (k + 1)) (ht : ∀ m, m < k → m < s0.length → l[m]? = s0[m]?) (he : s[k]? = some e) (hx : l[k]? = some x) (h : e = x) : ∀ m, m < k + 1 → m < s0.length → l[m]? = s0[m]? := by
  intro m hm h0
  rcases Nat.lt_succ_iff_lt_or_eq.1 hm with hm | rfl
  · exact ht m hm h0
  · unfold extS at hs
    rw [if_pos (by omega)] at hs
    rw [← hs, he, hx, h]
theorem one_bad (hs : s = extS (longTo del i) l (k + 1)) (hl : del[i]? = some l) (he : s[k]? = some e) (hx : l[k]? = some x) (h : e ≠ x) : totS acc del = ([], false) := by
  apply totS_no1
  cases hp : preS del (longS del) with
  | false => rfl
  | true =>
    exfalso
    have hkl := (List.getElem?_eq_some_iff.1 hx).1
    have pre : ∀ j y, del[j]? = some y → y = (longS del).take y.length := fun j y hy => of_decide_eq_true (List.all_eq_true.1 hp y (List.mem_of_getElem? hy))
    unfold extS at hs
    split at hs
    · rcases longTo_in (del := del) i with h0 | ⟨j, y, _, hy, h0⟩
      · rename_i hlen; rw [h0] at hlen; exact absurd hlen (by simp)
      · have h1 := pre j y hy
        have h2 := pre i l hl
        rw [hs, h0] at he
        rw [h1, List.getElem?_take] at he
        rw [h2, List.getElem?_take] at hx
        split at he
        · rw [if_pos hkl] at hx
          rw [he] at hx
          exact h (Option.some.inj hx)
        · cases he
    · rw [hs, List.getElem?_take, if_pos (by omega), hx] at he
      exact h (Option.some.inj he).symm
theorem pre_next (hp : ∀ j y, j < i → del[j]? = some y → decide (y = (longTo del i).take y.length) = true) (hl : del[i]? = some l) (ht : ∀ m, m < l.length → m < (longTo del i).length → l[m]? = (longTo del i)[m]?) : ∀ j y, j < i + 1 → del[j]? = some y → decide (y = (longTo del (i + 1)).take y.length) = true := by
  intro j y hj hy
  rw [longTo_next hl]
  refine decide_eq_true ?_
  unfold longStep
  have hge := longTo_ge (del := del) i
  rcases Nat.lt_succ_iff_lt_or_eq.1 hj with hj | rfl
  · have h1 := of_decide_eq_true (hp j y hj hy)
    have h2 := hge j y hj hy
    split
    · refine take_all_eq (Nat.le_refl _) fun m hm => ?_
      rw [ht m (by omega) (by omega)]
      have h3 : y[m]? = ((longTo del i).take y.length)[m]? := congrArg (fun z : List GItem => z[m]?) h1
      rw [h3, List.getElem?_take, if_pos hm]
    · exact h1
  · rw [hl] at hy
    cases hy
    split
    · rw [List.take_length]
    · exact take_all_eq (Nat.le_refl _) fun m hm => ht m hm (by omega)
end
end Go.FM
