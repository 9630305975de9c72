/- Chapter 06 in plain words: joined states, and what one lacks. -/
import Derived.Test.YtnikcgcbkdeeeaaDoorFmT
import Derived.Test.YtnikcgcbkdeeeaaDoorFmM4b
set_option linter.unusedVariables false
set_option linter.unusedSimpArgs false
namespace Go.FM
def sEnd (s : GState) : Int := s.Floor + (s.Items.length : Int)
def vcmp (a b : GViewID) : Int := cmpV a.N a.P b.N b.P
theorem vcmp_zero (a b : GViewID) : vcmp a b = 0 ↔ a = b := by
  unfold vcmp; rw [cmpV_zero]; cases a; cases b; simp
theorem vcmp_neg (a b : GViewID) : vcmp a b = 0 - vcmp b a := cmpV_neg _ _ _ _
theorem vcmp_pos (a b : GViewID) : 0 < vcmp a b ↔ b.N < a.N ∨ b.N = a.N ∧ b.P < a.P := cmpV_pos _ _ _ _
def sForm (s : GState) : Bool := formV s.V.N s.V.P && decide (0 ≤ s.Floor ∧ s.Floor ≤ 1073741824 ∧ (s.V.N = 0 → sEnd s ≤ 0)) && s.Items.all (fun x => decide (0 ≤ x.From ∧ x.From < 16))
/-- A state that has more, or as much and stands ahead. -/
def beats (t s : GState) (k i : Nat) : Bool := decide (t.V = s.V) && (decide (sEnd s < sEnd t) || (decide (sEnd t = sEnd s) && decide (k < i)))
def bestTo (l : List GState) (s : GState) (i : Nat) : Nat → Bool
  | 0 => decide (0 < s.V.N)
  | k + 1 => bestTo l s i k && !(match l[k]? with | some t => beats t s k i | none => false)
def insS (s : GState) : List GState → List GState
  | [] => [s]
  | x :: r => if 0 < vcmp x.V s.V then s :: x :: r else x :: insS s r
def joinTo (l : List GState) : Nat → List GState
  | 0 => []
  | i + 1 => match l[i]? with
    | some s => if bestTo l s i l.length then insS s (joinTo l i) else joinTo l i
    | none => joinTo l i
def joinS (l : List GState) : List GState := joinTo l l.length
def above1 (s : GState) (x : GState) : Bool := decide (0 < vcmp x.V s.V)
theorem insS_none (s : GState) : ∀ (a : List GState), a.any (above1 s) = false → insS s a = a ++ [s]
  | [], _ => rfl
  | x :: a, h => by
    simp only [List.any_cons, Bool.or_eq_false_iff, above1, decide_eq_false_iff_not] at h
    simp only [insS, if_neg h.1, List.cons_append]
    rw [insS_none s a h.2]
theorem insS_snoc (s : GState) (x : GState) : ∀ (a : List GState), a.any (above1 s) = true → insS s (a ++ [x]) = insS s a ++ [x]
  | [], h => by simp at h
  | y :: a, h => by
    simp only [List.any_cons, Bool.or_eq_true, above1, decide_eq_true_eq] at h
    simp only [insS, List.cons_append]
    by_cases h1 : 0 < vcmp y.V s.V
    · simp [if_pos h1]
    · simp only [if_neg h1, List.cons_append]
      rw [insS_snoc s x a (h.resolve_left h1)]
theorem insS_here (s : GState) (x : GState) : ∀ (a : List GState), a.any (above1 s) = false → 0 < vcmp x.V s.V → insS s (a ++ [x]) = a ++ [s] ++ [x]
  | [], _, h => by simp [insS, h]
  | y :: a, h, h2 => by
    simp only [List.any_cons, Bool.or_eq_false_iff, above1, decide_eq_false_iff_not] at h
    simp only [insS, List.cons_append, if_neg h.1]
    rw [insS_here s x a h.2 h2]
theorem insS_mem (s y : GState) : ∀ (a : List GState), y ∈ insS s a ↔ y = s ∨ y ∈ a
  | [] => by simp [insS]
  | x :: a => by
    simp only [insS]
    split
    · simp
    · simp only [List.mem_cons, insS_mem s y a]
      constructor
      · rintro (h | h | h) <;> simp [h]
      · rintro (h | h | h) <;> simp [h]
/-- What the loop that puts a state in has after k places. -/
def insTo (s : GState) (out : List GState) (k : Nat) : List GState × Bool := if (out.take k).any (above1 s) then (insS s (out.take k), true) else (out.take k, false)
theorem take_succ' {α : Type} {l : List α} {k : Nat} {x : α} (h : l[k]? = some x) : l.take (k + 1) = l.take k ++ [x] := by
  rw [List.take_add_one, h]; rfl
theorem insTo_next_d {s x : GState} {out : List GState} {k : Nat} {m : List GState} (h : out[k]? = some x) (hm : insTo s out k = (m, true)) : insTo s out (k + 1) = (m ++ [x], true) := by
  unfold insTo at hm ⊢
  rw [take_succ' h]
  split at hm
  · rename_i h1
    simp only [Prod.mk.injEq, and_true] at hm
    rw [if_pos (by simp [h1]), insS_snoc s x _ h1, hm]
  · simp at hm
theorem insTo_next_y {s x : GState} {out : List GState} {k : Nat} {m : List GState} (h : out[k]? = some x) (hm : insTo s out k = (m, false)) (hc : 0 < vcmp x.V s.V) : insTo s out (k + 1) = (m ++ [s] ++ [x], true) := by
  unfold insTo at hm ⊢
  rw [take_succ' h]
  split at hm
  · simp at hm
  · rename_i h1
    simp only [Prod.mk.injEq, and_true] at hm
    have h1' : (out.take k).any (above1 s) = false := by simpa using h1
    rw [if_pos (by simp [above1, hc]), insS_here s x _ h1' hc, hm]
theorem insTo_next_n {s x : GState} {out : List GState} {k : Nat} {m : List GState} (h : out[k]? = some x) (hm : insTo s out k = (m, false)) (hc : ¬ 0 < vcmp x.V s.V) : insTo s out (k + 1) = (m ++ [x], false) := by
  unfold insTo at hm ⊢
  rw [take_succ' h]
  split at hm
  · simp at hm
  · rename_i h1
    simp only [Prod.mk.injEq, and_true] at hm
    have h1' : (out.take k).any (above1 s) = false := by simpa using h1
    rw [if_neg (by simp [h1', above1, hc]), hm]
theorem insTo_end_d {s : GState} {out : List GState} {k : Nat} {m : List GState} (hk : out.length ≤ k) (hm : insTo s out k = (m, true)) : m = insS s out := by
  unfold insTo at hm
  rw [List.take_of_length_le hk] at hm
  split at hm
  · simp at hm; exact hm.symm
  · simp at hm
theorem insTo_end_n {s : GState} {out : List GState} {k : Nat} {m : List GState} (hk : out.length ≤ k) (hm : insTo s out k = (m, false)) : m ++ [s] = insS s out := by
  unfold insTo at hm
  rw [List.take_of_length_le hk] at hm
  split at hm
  · simp at hm
  · rename_i h1
    simp at hm; rw [insS_none s out (by simpa using h1), hm]
theorem insTo_zero (s : GState) (out : List GState) : insTo s out 0 = ([], false) := by simp [insTo]
theorem joinTo_mem (l : List GState) : ∀ (i : Nat) (y : GState), y ∈ joinTo l i → y ∈ l ∧ 0 < y.V.N
  | 0, y, h => by simp [joinTo] at h
  | i + 1, y, h => by
    simp only [joinTo] at h
    split at h
    · rename_i s hs
      split at h
      · rename_i hb
        rcases (insS_mem s y _).1 h with rfl | h
        · refine ⟨List.mem_of_getElem? hs, ?_⟩
          have key : ∀ k, bestTo l y i k = true → 0 < y.V.N := by
            intro k
            induction k with
            | zero => intro h; simpa [bestTo] using h
            | succ k ih => intro h; simp only [bestTo, Bool.and_eq_true] at h; exact ih h.1
          exact key _ hb
        · exact joinTo_mem l i y h
      · exact joinTo_mem l i y h
    · exact joinTo_mem l i y h
theorem insS_length (s : GState) : ∀ (a : List GState), (insS s a).length = a.length + 1
  | [] => rfl
  | x :: a => by
    simp only [insS]; split
    · simp
    · simp [insS_length s a]
theorem joinTo_length (l : List GState) : ∀ (i : Nat), (joinTo l i).length ≤ i
  | 0 => by simp [joinTo]
  | i + 1 => by
    have := joinTo_length l i
    simp only [joinTo]
    split
    · split
      · rw [insS_length]; omega
      · omega
    · omega
/-- What one lacks. -/
def restS (l : List GState) (v : GViewID) (had : Int) : List GItem × Nat :=
  if v.N = 0 then ([], 0) else match l.find? (fun s => decide (s.V = v)) with
  | none => ([], 6)
  | some s => if had < s.Floor ∨ sEnd s < had then ([], 1) else (s.Items.drop (had - s.Floor).toNat, 0)
def rightS (l : List GState) : Bool := l.all (fun s => decide (0 ≤ s.Floor ∧ s.Floor ≤ 1073741824)) && decide (l.length ≤ 40)
def idxP {α : Type} (p : α → Bool) : List α → Int
  | [] => -1
  | x :: r => if p x then 0 else if idxP p r = -1 then -1 else idxP p r + 1
theorem idxP_ge {α : Type} (p : α → Bool) : ∀ (l : List α), -1 ≤ idxP p l ∧ idxP p l < l.length
  | [] => by simp [idxP]
  | x :: r => by
    have := idxP_ge p r
    simp only [idxP, List.length_cons]
    split
    · omega
    · split <;> omega
theorem idxP_at {α : Type} (p : α → Bool) : ∀ (l : List α) (i : Nat) (x : α), l[i]? = some x → p x = true → (∀ (j : Nat) (y : α), j < i → l[j]? = some y → p y = false) → idxP p l = i
  | [], i, x, h, _, _ => by simp at h
  | y :: r, 0, x, h, hp, _ => by simp at h; subst h; simp [idxP, hp]
  | y :: r, i + 1, x, h, hp, ha => by
    have h0 := ha 0 y (by omega) rfl
    have := idxP_at p r i x (by simpa using h) hp (fun j z hj hz => ha (j + 1) z (by omega) (by simpa using hz))
    simp only [idxP, h0, this]
    rw [if_neg (by simp), if_neg (by omega)]; omega
theorem idxP_none {α : Type} (p : α → Bool) : ∀ (l : List α), (∀ (j : Nat) (y : α), l[j]? = some y → p y = false) → idxP p l = -1
  | [], _ => rfl
  | y :: r, ha => by
    have h0 := ha 0 y rfl
    have := idxP_none p r (fun j z hz => ha (j + 1) z (by simpa using hz))
    simp [idxP, h0, this]
theorem idxP_find {α : Type} (p : α → Bool) : ∀ (l : List α), (idxP p l = -1 ∧ l.find? p = none) ∨ ∃ i x, idxP p l = (i : Nat) ∧ l[i]? = some x ∧ l.find? p = some x
  | [] => .inl ⟨rfl, rfl⟩
  | y :: r => by
    by_cases h : p y = true
    · exact .inr ⟨0, y, by simp [idxP, h], rfl, by simp [h]⟩
    · have h' : p y = false := by simpa using h
      rcases idxP_find p r with ⟨h1, h2⟩ | ⟨i, x, h1, h2, h3⟩
      · exact .inl ⟨by simp [idxP, h', h1], by simp [h', h2]⟩
      · refine .inr ⟨i + 1, x, ?_, by simpa using h2, by simp [h', h3]⟩
        simp only [idxP, h', h1]
        rw [if_neg (by simp), if_neg (by omega)]; omega
end Go.FM
namespace Go.FM
theorem restS_zero {l : List GState} {v : GViewID} {had : Int} (h : v.N = 0) : restS l v had = ([], 0) := by unfold restS; rw [if_pos h]
theorem restS_none {l : List GState} {v : GViewID} {had : Int} (h : v.N ≠ 0) (hi : idxP (fun s : GState => decide (s.V = v)) l < 0) : restS l v had = ([], 6) := by
  unfold restS; rw [if_neg h]
  rcases idxP_find (fun s : GState => decide (s.V = v)) l with ⟨_, h2⟩ | ⟨i, x, h1, _, _⟩
  · rw [h2]
  · omega
theorem restS_find {l : List GState} {v : GViewID} {s : GState} (hi : ¬ idxP (fun s : GState => decide (s.V = v)) l < 0) (hx : l[(idxP (fun s : GState => decide (s.V = v)) l).toNat]? = some s) : l.find? (fun s => decide (s.V = v)) = some s := by
  rcases idxP_find (fun s : GState => decide (s.V = v)) l with ⟨h1, _⟩ | ⟨i, x, h1, h2, h3⟩
  · omega
  · rw [h1] at hx
    simp only [Int.toNat_natCast] at hx
    rw [h3, ← h2, hx]
theorem restS_out {l : List GState} {v : GViewID} {had : Int} {s : GState} (h : v.N ≠ 0) (hf : l.find? (fun s => decide (s.V = v)) = some s) (ho : had < s.Floor ∨ sEnd s < had) : restS l v had = ([], 1) := by
  unfold restS; rw [if_neg h, hf]; simp only; rw [if_pos ho]
theorem restS_in {l : List GState} {v : GViewID} {had : Int} {s : GState} (h : v.N ≠ 0) (hf : l.find? (fun s => decide (s.V = v)) = some s) (ho : ¬ (had < s.Floor ∨ sEnd s < had)) : restS l v had = (s.Items.drop (had - s.Floor).toNat, 0) := by
  unfold restS; rw [if_neg h, hf]; simp only; rw [if_neg ho]
theorem find_at {α : Type} {p : α → Bool} {l : List α} {i : Nat} {x : α} (hx : l[i]? = some x) (hp : p x = true) (ha : ∀ (j : Nat) (y : α), j < i → l[j]? = some y → p y = false) : l.find? p = some x := by
  rcases idxP_find p l with ⟨h1, _⟩ | ⟨k, z, h1, h2, h3⟩
  · have := idxP_at p l i x hx hp ha; omega
  · have := idxP_at p l i x hx hp ha
    obtain rfl : k = i := by omega
    rw [h3, ← h2, hx]
theorem find_none {α : Type} {p : α → Bool} {l : List α} (ha : ∀ (j : Nat) (y : α), l[j]? = some y → p y = false) : l.find? p = none := by
  rcases idxP_find p l with ⟨_, h⟩ | ⟨k, z, h1, h2, h3⟩
  · exact h
  · have := idxP_none p l ha; omega
theorem before_next {α : Type} {p : α → Bool} {l : List α} {i : Nat} {x : α} (ha : ∀ (j : Nat) (y : α), j < i → l[j]? = some y → p y = false) (hx : l[i]? = some x) (hp : p x = false) : ∀ (j : Nat) (y : α), j < i + 1 → l[j]? = some y → p y = false := by
  intro j y hj hy
  by_cases h : j < i
  · exact ha j y h hy
  · obtain rfl : j = i := by omega
    rw [hx] at hy; injection hy with hy; subst hy; exact hp
/-- Two lists, held against each other one by one. -/
theorem lists_ne_len {α : Type} [DecidableEq α] {a b : List α} (h : a.length ≠ b.length) : decide (a = b) = false := decide_eq_false fun e => h (by rw [e])
theorem lists_ne_at {α : Type} [DecidableEq α] {a b : List α} {i : Nat} {x y : α} (hx : a[i]? = some x) (hy : b[i]? = some y) (h : x ≠ y) : decide (a = b) = false := decide_eq_false fun e => by rw [e, hy] at hx; injection hx with hx; exact h hx.symm
theorem take_eq_next {α : Type} {a b : List α} {i : Nat} {x y : α} (h : a.take i = b.take i) (hx : a[i]? = some x) (hy : b[i]? = some y) (e : x = y) : a.take (i + 1) = b.take (i + 1) := by
  rw [take_succ' hx, take_succ' hy, h, e]
theorem lists_eq {α : Type} [DecidableEq α] {a b : List α} {i : Nat} (h : a.take i = b.take i) (ha : a.length ≤ i) (hb : b.length ≤ i) : decide (a = b) = true := decide_eq_true (by rwa [List.take_of_length_le ha, List.take_of_length_le hb] at h)
end Go.FM
namespace Go.FM
theorem item_eq {x y : GItem} (h1 : x.From = y.From) (h2 : bstr x.M = bstr y.M) (s1 : Small x.M) (s2 : Small y.M) : x = y := by
  have := (bstr_inj s1 s2).1 h2
  cases x; cases y; simp_all
theorem item_ne_from {x y : GItem} (h : x.From ≠ y.From) : x ≠ y := fun e => h (by rw [e])
theorem item_ne_m {x y : GItem} (h : ¬ bstr x.M = bstr y.M) : x ≠ y := fun e => h (by rw [e])
theorem state_eq {x y : GState} (h1 : x.V = y.V) (h2 : x.Floor = y.Floor) (h3 : decide (x.Items = y.Items) = true) : x = y := by
  have := of_decide_eq_true h3
  cases x; cases y; simp_all
theorem state_ne {x y : GState} (h : ¬ (x.V = y.V ∧ x.Floor = y.Floor ∧ x.Items = y.Items)) : x ≠ y := fun e => h (by rw [e]; exact ⟨rfl, rfl, rfl⟩)
theorem rightS_no {l : List GState} {i : Nat} {x : GState} (hx : l[i]? = some x) (h : x.Floor < 0 ∨ 1073741824 < x.Floor) : rightS l = false := by
  unfold rightS
  rw [Bool.and_eq_false_iff]
  left
  rw [List.all_eq_false]
  exact ⟨x, List.mem_of_getElem? hx, by simp; omega⟩
theorem rightS_end {l : List GState} {i : Nat} (h : ∀ (j : Nat) (y : GState), j < i → l[j]? = some y → decide (0 ≤ y.Floor ∧ y.Floor ≤ 1073741824) = true) (hi : l.length ≤ i) : rightS l = decide (l.length ≤ 40) := by
  unfold rightS
  have : l.all (fun s => decide (0 ≤ s.Floor ∧ s.Floor ≤ 1073741824)) = true := by
    rw [List.all_eq_true]
    intro x hx
    obtain ⟨j, hj, rfl⟩ := List.mem_iff_getElem.1 hx
    exact h j _ (by omega) (List.getElem?_eq_getElem hj)
  rw [this]; rfl
theorem rightS_spec {l : List GState} (h : rightS l = true) : (∀ s ∈ l, 0 ≤ s.Floor ∧ s.Floor ≤ 1073741824) ∧ l.length ≤ 40 := by
  unfold rightS at h
  simp only [Bool.and_eq_true, List.all_eq_true, decide_eq_true_eq] at h
  exact h
theorem next_all {α : Type} {p : α → Bool} {l : List α} {i : Nat} {x : α} (ha : ∀ (j : Nat) (y : α), j < i → l[j]? = some y → p y = true) (hx : l[i]? = some x) (hp : p x = true) : ∀ (j : Nat) (y : α), j < i + 1 → l[j]? = some y → p y = true := by
  intro j y hj hy
  by_cases h : j < i
  · exact ha j y h hy
  · obtain rfl : j = i := by omega
    rw [hx] at hy; injection hy with hy; subst hy; exact hp
theorem beats_iff (t s : GState) (k i : Nat) : beats t s k i = decide (t.V = s.V ∧ (sEnd s < sEnd t ∨ sEnd t = sEnd s ∧ k < i)) := by
  unfold beats
  rw [Bool.eq_iff_iff]
  simp
theorem bestTo_stay {l : List GState} {s t : GState} {i k : Nat} {b : Bool} (hb : b = bestTo l s i k) (hx : l[k]? = some t) (h : ¬ (t.V = s.V ∧ (sEnd s < sEnd t ∨ sEnd t = sEnd s ∧ k < i))) : b = bestTo l s i (k + 1) := by
  simp only [bestTo, hx, beats_iff, decide_eq_false h]; simpa using hb
theorem bestTo_lost {l : List GState} {s t : GState} {i k : Nat} (hx : l[k]? = some t) (h : t.V = s.V ∧ (sEnd s < sEnd t ∨ sEnd t = sEnd s ∧ k < i)) : false = bestTo l s i (k + 1) := by
  simp only [bestTo, hx, beats_iff, decide_eq_true h]; simp
theorem joinTo_yes {l : List GState} {s : GState} {i k : Nat} {b : Bool} (hx : l[i]? = some s) (hb : b = bestTo l s i k) (h : b = true) (hk : k = l.length) : joinTo l (i + 1) = insS s (joinTo l i) := by
  subst hk; subst h
  simp only [joinTo, hx, ← hb, if_true]
theorem joinTo_no {l : List GState} {s : GState} {i k : Nat} {b : Bool} (hx : l[i]? = some s) (hb : b = bestTo l s i k) (h : b = false) (hk : k = l.length) : joinTo l (i + 1) = joinTo l i := by
  subst hk; subst h
  simp [joinTo, hx, ← hb]
theorem insTo_len {s : GState} {out : List GState} {k : Nat} {m : List GState} {d : Bool} (h : insTo s out k = (m, d)) : m.length ≤ k + 1 ∧ (d = false → m.length ≤ k) := by
  unfold insTo at h
  split at h
  · simp only [Prod.mk.injEq] at h
    obtain ⟨rfl, rfl⟩ := h
    rw [insS_length, List.length_take]
    exact ⟨by omega, fun h => by cases h⟩
  · simp only [Prod.mk.injEq] at h
    obtain ⟨rfl, rfl⟩ := h
    rw [List.length_take]
    exact ⟨by omega, fun _ => by omega⟩
end Go.FM
namespace Go.FM
theorem restS_untold {l : List GState} {v : GViewID} {had : Int} (h : v.N ≠ 0) (ht : l.any (fun s => decide (s.V = v)) = false) : restS (joinS l) v had = ([], 6) := by
  unfold restS
  rw [if_neg h]
  have : (joinS l).find? (fun s => decide (s.V = v)) = none := by
    rw [List.find?_eq_none]
    intro s hs hv
    have hm := (joinTo_mem l _ s hs).1
    rw [List.any_eq_false] at ht
    exact ht s hm hv
  rw [this]
end Go.FM
