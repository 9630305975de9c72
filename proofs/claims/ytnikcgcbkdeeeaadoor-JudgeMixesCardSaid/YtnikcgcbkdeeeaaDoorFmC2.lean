/- Parts put into cells, over lists. -/
import Derived.Test.YtnikcgcbkdeeeaaDoorFmC
set_option linter.unusedVariables false
set_option linter.unusedSimpArgs false
namespace Go.FM
open Go
def fillL (place : Nat → Option (Nat × Nat)) (cells : List Value) : List (Nat × Value) → Option (List Value)
  | [] => some cells
  | (i, v) :: rest =>
    match place i with
    | none => none
    | some (off, size) => if v.cells.size ≠ size ∨ off + v.cells.size > cells.length then none else fillL place (splice cells off v.cells.toList) rest
theorem zip_fold : ∀ (vs : List Value) (off k : Nat) (cells : List Value), off + k + vs.length ≤ cells.length →
    (vs.zipIdx k).foldl (fun (cs : Array Value) (p : Value × Nat) => cs.setIfInBounds (off + p.2) p.1) cells.toArray = (splice cells (off + k) vs).toArray
  | [], off, k, cells, h => by simp [splice]
  | v :: vs, off, k, cells, h => by
    simp only [List.zipIdx_cons, List.foldl_cons]
    rw [List.setIfInBounds_toArray, zip_fold vs off (k + 1) (cells.set (off + k) v) (by simp at h ⊢; omega)]
    congr 1
    apply List.ext_getElem?
    intro j
    simp only [List.length_cons] at h
    rw [splice_get (by simp; omega), splice_get (by simp; omega)]
    simp only [List.length_cons]
    by_cases h1 : off + (k + 1) ≤ j ∧ j < off + (k + 1) + vs.length
    · rw [if_pos h1, if_pos (by omega), show j - (off + k) = (j - (off + (k + 1))) + 1 by omega, List.getElem?_cons_succ]
    · rw [if_neg h1]
      by_cases h2 : j = off + k
      · rw [if_pos (by omega), h2, Nat.sub_self, List.getElem?_cons_zero, List.getElem?_set]
        simp; omega
      · rw [if_neg (by omega), List.getElem?_set, if_neg (by omega)]
theorem fill_list (place : Nat → Option (Nat × Nat)) : ∀ (ps : List (Nat × Value)) (cells cs : List Value), fillL place cells ps = some cs → Instr.fill place cells.toArray ps = some cs.toArray
  | [], cells, cs, h => by simp only [fillL] at h; injection h with h; subst h; rfl
  | (i, v) :: ps, cells, cs, h => by
    simp only [fillL] at h
    simp only [Instr.fill]
    cases hp : place i with
    | none => rw [hp] at h; cases h
    | some q =>
      obtain ⟨off, size⟩ := q
      rw [hp] at h
      simp only at h ⊢
      split at h
      · cases h
      · rename_i hc
        have h1 : v.cells.size = size := by omega
        have h2 : off + v.cells.size ≤ cells.length := by omega
        rw [if_neg (by simp; omega)]
        have hz := zip_fold v.cells.toList off 0 cells (by simp; omega)
        have e : v.cells.zipIdx.foldl (fun (cs : Array Value) (p : Value × Nat) => cs.setIfInBounds (off + p.2) p.1) cells.toArray = (splice cells off v.cells.toList).toArray := by
          rw [← Array.foldl_toList, Array.toList_zipIdx]
          exact hz
        have ih := fill_list place ps _ cs h
        rw [← e] at ih
        exact ih
theorem range_cells (z : List Value) (n : Nat) (h : 0 < z.length) : (Array.range (n * z.length)).map (fun i => z.toArray[i % z.toArray.size]!) = ((List.replicate n z).flatten).toArray := by
  apply Array.ext_getElem?
  intro j
  simp only [Array.getElem?_map, Array.getElem?_range, List.getElem?_toArray, List.size_toArray]
  induction n generalizing j with
  | zero => simp
  | succ n ih =>
    rw [List.replicate_succ', List.flatten_append]
    have hl : (List.replicate n z).flatten.length = n * z.length := by simp
    by_cases h1 : j < n * z.length
    · have h2 : j < (n + 1) * z.length := by rw [Nat.add_mul]; omega
      rw [List.getElem?_append_left (by rw [hl]; exact h1), ← ih j, if_pos h1, if_pos h2]
    · rw [List.getElem?_append_right (by rw [hl]; omega), hl]
      by_cases h2 : j < (n + 1) * z.length
      · rw [if_pos h2]
        have e : j % z.length = j - n * z.length := by
          rw [Nat.add_mul, Nat.one_mul] at h2
          have : j = (j - n * z.length) + n * z.length := by omega
          rw [this, Nat.add_mul_mod_self_right, Nat.mod_eq_of_lt (by omega)]; omega
        have h3 : j - n * z.length < z.length := by rw [Nat.add_mul, Nat.one_mul] at h2; omega
        simp [e, h3]
      · rw [if_neg h2]
        have h3 : z.length ≤ j - n * z.length := by rw [Nat.add_mul, Nat.one_mul] at h2; omega
        simp [h3]
end Go.FM
