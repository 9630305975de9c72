/- What some functions of package slices compute. -/
import Derived.Test.YtkbllbphkdnmbaaFmM6
set_option linter.unusedVariables false
set_option linter.unusedSimpArgs false
namespace Go.FM
def bsGo (c : Nat → Bool) (i j : Nat) : Nat := if i < j then (if c ((i + j) / 2) then bsGo c ((i + j) / 2 + 1) j else bsGo c i ((i + j) / 2)) else i
termination_by j - i
decreasing_by all_goals omega
theorem bsGo_yes {c : Nat → Bool} {i j : Nat} (h : i < j) (hc : c ((i + j) / 2 ^ 1) = true) : bsGo c ((i + j) / 2 ^ 1 + 1) j = bsGo c i j := by
  conv => rhs; rw [bsGo]
  simp only [Nat.pow_one] at hc ⊢
  rw [if_pos h, if_pos hc]
theorem bsGo_no {c : Nat → Bool} {i j : Nat} (h : i < j) (hc : c ((i + j) / 2 ^ 1) = false) : bsGo c i ((i + j) / 2 ^ 1) = bsGo c i j := by
  conv => rhs; rw [bsGo]
  simp only [Nat.pow_one] at hc ⊢
  rw [if_pos h, if_neg (by rw [hc]; simp)]
theorem bsGo_end {c : Nat → Bool} {i j : Nat} (h : ¬ i < j) : bsGo c i j = i := by rw [bsGo, if_neg h]
theorem bsGo_le (c : Nat → Bool) (i j : Nat) (h : i ≤ j) : i ≤ bsGo c i j ∧ bsGo c i j ≤ j := by
  rw [bsGo]
  split
  · split
    · have := bsGo_le c ((i + j) / 2 + 1) j (by omega); omega
    · have := bsGo_le c i ((i + j) / 2) (by omega); omega
  · omega
termination_by j - i
decreasing_by all_goals omega
/-- Where it ends, if what is less stands ahead of all else. -/
theorem bsGo_spec (c : Nat → Bool) (i j n : Nat) (h : i ≤ j) (hj : j ≤ n) (hlo : ∀ k, k < i → c k = true) (hhi : ∀ k, j ≤ k → k < n → c k = false) (hm : ∀ k l, k ≤ l → l < n → c l = true → c k = true) :
    (∀ k, k < bsGo c i j → c k = true) ∧ (∀ k, bsGo c i j ≤ k → k < n → c k = false) := by
  rw [bsGo]
  split
  · split
    · rename_i h1 h2
      refine bsGo_spec c _ j n (by omega) hj (fun k hk => hm k ((i + j) / 2) (by omega) (by omega) h2) hhi hm
    · rename_i h1 h2
      refine bsGo_spec c i _ n (by omega) (by omega) hlo (fun k hk hkn => ?_) hm
      cases hck : c k with
      | false => rfl
      | true => exact absurd (hm _ k hk hkn hck) h2
  · exact ⟨fun k hk => hlo k hk, fun k hk hkn => hhi k (by omega) hkn⟩
termination_by j - i
decreasing_by all_goals omega
section
variable {α β : Type} {f : α → β → Int} {x : List α} {t : β}
def lessAt (f : α → β → Int) (x : List α) (t : β) (h : Nat) : Bool := match x[h]? with | some e => decide (f e t < 0) | none => false
theorem lessAt_some {h : Nat} {e : α} (hx : x[h]? = some e) : lessAt f x t h = decide (f e t < 0) := by unfold lessAt; rw [hx]
def bsIx (f : α → β → Int) (x : List α) (t : β) : Nat := bsGo (lessAt f x t) 0 x.length
def bsOk (f : α → β → Int) (x : List α) (t : β) : Bool := match x[bsIx f x t]? with | some e => decide (f e t = 0) | none => false
theorem bsIx_le : bsIx f x t ≤ x.length := (bsGo_le _ _ _ (Nat.zero_le _)).2
theorem bsOk_lt (h : bsOk f x t = true) : bsIx f x t < x.length := by
  unfold bsOk at h
  split at h
  · rename_i hx; exact (List.getElem?_eq_some_iff.1 hx).1
  · cases h
theorem bsOk_some {e : α} {i : Nat} (hi : bsIx f x t = i) (hx : x[i]? = some e) : bsOk f x t = decide (f e t = 0) := by unfold bsOk; rw [hi, hx]
theorem bsOk_none {i : Nat} (hi : bsIx f x t = i) (hx : x.length ≤ i) : bsOk f x t = false := by unfold bsOk; rw [hi, List.getElem?_eq_none hx]
end
/-! ### what DeleteFunc leaves, round by round -/
theorem del_start {α : Type} {p : α → Bool} {s : List α} (h : ¬ idxP p s = -1) : s.take (idxP p s).toNat = (s.take ((idxP p s).toNat + 1)).filter (fun x => !p x) ∧ (idxP p s).toNat < s.length := by
  rcases idxP_find p s with ⟨h1, _⟩ | ⟨i, x, h1, h2, h3⟩
  · exact absurd h1 h
  · rw [h1, Int.toNat_natCast]
    refine ⟨?_, (List.getElem?_eq_some_iff.1 h2).1⟩
    rw [take_succ' h2, List.filter_append]
    have hp : p x = true := by have := List.find?_some h3; simpa using this
    have : (s.take i).filter (fun x => !p x) = s.take i := by
      rw [List.filter_eq_self]
      intro a ha
      obtain ⟨j, hj, rfl⟩ := List.mem_iff_getElem.1 ha
      have hj' : j < i := by simp at hj; omega
      cases hpa : p (s.take i)[j] with
      | false => rfl
      | true =>
        exfalso
        have hge := idxP_ge p s
        have hjs : j < s.length := by simp at hj; omega
        rw [List.getElem_take] at hpa
        -- the first place is at most j
        have key : ∀ (l : List α) (j : Nat) (hj : j < l.length), p l[j] = true → idxP p l ≤ j := by
          intro l
          induction l with
          | nil => intro j hj; simp at hj
          | cons y l ih =>
            intro j hj hp
            simp only [idxP]
            split
            · omega
            · cases j with
              | zero => rename_i hn; simp at hp; exact absurd hp hn
              | succ j =>
                have := ih j (by simpa using hj) (by simpa using hp)
                split <;> omega
        have := key s j hjs hpa
        omega
    rw [this, List.filter_cons]
    simp [hp]
theorem del_keep {α : Type} {p : α → Bool} {s ys : List α} {i j : Nat} {e : α} (ha : ys.take i = (s.take j).filter (fun x => !p x)) (hb : ys.drop j = s.drop j) (hx : ys[j]? = some e) (hij : i < j) (hp : p e = false) :
    (ys.set i e).take (i + 1) = (s.take (j + 1)).filter (fun x => !p x) ∧ (ys.set i e).drop (j + 1) = s.drop (j + 1) := by
  have hjl := (List.getElem?_eq_some_iff.1 hx).1
  have hs : s[j]? = some e := by
    have : (ys.drop j)[0]? = (s.drop j)[0]? := by rw [hb]
    simpa [hx] using this.symm
  constructor
  · rw [take_succ' hs, List.filter_append, ← ha]
    have : (ys.set i e)[i]? = some e := by simp [show i < ys.length by omega]
    rw [take_succ' this, List.take_set_of_le (Nat.le_refl _)]
    simp [hp]
  · rw [List.drop_set, if_pos (by omega)]
    have := congrArg (List.drop 1) hb
    simpa [List.drop_drop] using this
theorem del_skip {α : Type} {p : α → Bool} {s ys : List α} {i j : Nat} {e : α} (ha : ys.take i = (s.take j).filter (fun x => !p x)) (hb : ys.drop j = s.drop j) (hx : ys[j]? = some e) (hp : p e = true) :
    ys.take i = (s.take (j + 1)).filter (fun x => !p x) ∧ ys.drop (j + 1) = s.drop (j + 1) := by
  have hs : s[j]? = some e := by
    have : (ys.drop j)[0]? = (s.drop j)[0]? := by rw [hb]
    simpa [hx] using this.symm
  constructor
  · rw [take_succ' hs, List.filter_append, ← ha]; simp [hp]
  · have := congrArg (List.drop 1) hb
    simpa [List.drop_drop] using this
theorem del_none {α : Type} {p : α → Bool} {s : List α} (h : idxP p s = -1) : s.filter (fun x => !p x) = s := by
  rw [List.filter_eq_self]
  intro a ha
  rcases idxP_find p s with ⟨_, h2⟩ | ⟨i, x, h1, _, _⟩
  · rw [List.find?_eq_none] at h2
    simpa using h2 a ha
  · omega
end Go.FM
namespace Go.FM
/-! ### the code's Join -/
def stepC (out : List GState) (s : GState) : List GState :=
  if bsOk (fun y0 y1 => (vcmp y0.V y1)) out s.V then
    (match out[bsIx (fun y0 y1 => (vcmp y0.V y1)) out s.V]? with | some e => if sEnd e < sEnd s then out.set (bsIx (fun y0 y1 => (vcmp y0.V y1)) out s.V) s else out | none => out)
  else out.take (bsIx (fun y0 y1 => (vcmp y0.V y1)) out s.V) ++ [s] ++ out.drop (bsIx (fun y0 y1 => (vcmp y0.V y1)) out s.V)
theorem stepC_ins {out : List GState} {s : GState} (h : bsOk (fun y0 y1 => (vcmp y0.V y1)) out s.V = false) : stepC out s = out.take (bsIx (fun y0 y1 => (vcmp y0.V y1)) out s.V) ++ [s] ++ out.drop (bsIx (fun y0 y1 => (vcmp y0.V y1)) out s.V) := by
  unfold stepC; rw [if_neg (by rw [h]; simp)]
theorem stepC_set {out : List GState} {s e : GState} (h : bsOk (fun y0 y1 => (vcmp y0.V y1)) out s.V = true) (hx : out[bsIx (fun y0 y1 => (vcmp y0.V y1)) out s.V]? = some e) (hl : sEnd e < sEnd s) : stepC out s = out.set (bsIx (fun y0 y1 => (vcmp y0.V y1)) out s.V) s := by
  unfold stepC; rw [if_pos h, hx]; simp only; rw [if_pos hl]
theorem stepC_stay {out : List GState} {s e : GState} (h : bsOk (fun y0 y1 => (vcmp y0.V y1)) out s.V = true) (hx : out[bsIx (fun y0 y1 => (vcmp y0.V y1)) out s.V]? = some e) (hl : ¬ sEnd e < sEnd s) : stepC out s = out := by
  unfold stepC; rw [if_pos h, hx]; simp only; rw [if_neg hl]
def cutTo (l : List GState) : Nat → List GState
  | 0 => []
  | k + 1 => match l[k]? with | some s => stepC (cutTo l k) s | none => cutTo l k
theorem cutTo_next {l : List GState} {i : Nat} {s : GState} (hx : l[i]? = some s) : cutTo l (i + 1) = stepC (cutTo l i) s := by simp only [cutTo, hx]
theorem stepC_mem {out : List GState} {s x : GState} (h : x ∈ stepC out s) : x = s ∨ x ∈ out := by
  unfold stepC at h
  split at h
  · split at h
    · split at h
      · rcases List.mem_or_eq_of_mem_set h with h | h
        · exact .inr h
        · exact .inl h
      · exact .inr h
    · exact .inr h
  · simp only [List.mem_append, List.mem_singleton] at h
    rcases h with (h | h) | h
    · exact .inr (List.mem_of_mem_take h)
    · exact .inl h
    · exact .inr (List.mem_of_mem_drop h)
theorem stepC_length (out : List GState) (s : GState) : (stepC out s).length ≤ out.length + 1 := by
  unfold stepC
  split
  · split
    · split
      · simp
      · omega
    · omega
  · simp; omega
theorem cutTo_length (l : List GState) : ∀ k, (cutTo l k).length ≤ k
  | 0 => by simp [cutTo]
  | k + 1 => by
    have := cutTo_length l k
    simp only [cutTo]
    split
    · have h2 := stepC_length (cutTo l k) (by assumption); omega
    · omega
theorem cutTo_mem (l : List GState) : ∀ k, ∀ x ∈ cutTo l k, x ∈ l
  | 0, x, h => by simp [cutTo] at h
  | k + 1, x, h => by
    simp only [cutTo] at h
    split at h
    · rename_i s hs
      rcases stepC_mem h with rfl | h
      · exact List.mem_of_getElem? hs
      · exact cutTo_mem l k x h
    · exact cutTo_mem l k x h
def joinC (l : List GState) : List GState := (cutTo l l.length).filter (fun x => !(decide (((x.V.N : Nat) : Int) = 0)))
end Go.FM
