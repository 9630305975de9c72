/- Slices of numbers that stay, and what chapter 02's law of joined numbers says in plain words. -/
import Derived.Test.YtnikcgcbkdeeeaaDoorFmP
import Derived.Test.YtnikcgcbkdeeeaaDoorFmM2c
set_option linter.unusedVariables false
namespace Go.FM
open Go
def encU (b : Nat) : Value := .int .u64 ((b : Nat) : Int)
def Big (l : List Nat) : Prop := ∀ b ∈ l, b < 18446744073709551616
theorem Big.getD {l : List Nat} (h : Big l) (i : Nat) : l.getD i 0 < 18446744073709551616 := by
  rw [List.getD_eq_getElem?_getD]
  cases e : l[i]? with
  | none => show (0 : Nat) < 18446744073709551616; decide
  | some b => simpa using h b (List.mem_of_getElem? e)
structure Us (H : Hp) (A : Option Addr) (n c : Nat) (bs : List Nat) : Prop where
  rd : Rd H A (bs.map encU)
  len : bs.length = n
  le : n ≤ c
  max : c ≤ maxLen
  lt : Big bs
theorem Us.mono {H H' : Hp} {A : Option Addr} {n c : Nat} {bs : List Nat} (h : Us H A n c bs) (hl : H.le H') : Us H' A n c bs := ⟨h.rd.mono hl, h.len, h.le, h.max, h.lt⟩
theorem Us.get {H : Hp} {A : Option Addr} {n c : Nat} {bs : List Nat} (h : Us H A n c bs) {i : Nat} (hi : i < n) : ∃ b off, A = some ⟨b, off, none⟩ ∧ ∀ {w : World} {L : List Res}, St H w L → w.cell? ⟨b, off + i * 1, none⟩ = some (.int .u64 ((bs.getD i 0 : Nat) : Int)) := by
  have hne : bs.map encU ≠ [] := fun e => by
    have := congrArg List.length e
    simp [h.len] at this
    omega
  obtain ⟨b, off, hA, hat⟩ := h.rd.at_ hne
  refine ⟨b, off, hA, fun {w L} hs => ?_⟩
  have hi' : i < bs.length := by rw [h.len]; exact hi
  have := (hat hs).cell i (v := encU (bs.getD i 0)) (by simp [hi'])
  simpa [encU] using this
/-! ### numbers one behind the other -/
def encs (l : List Nat) : List Nat := l.flatMap uenc
theorem encs_cons (a : Nat) (l : List Nat) : encs (a :: l) = uenc a ++ encs l := by simp [encs]
theorem encs_small (l : List Nat) : Small (encs l) := by
  intro b hb
  obtain ⟨a, _, h⟩ := List.mem_flatMap.1 hb
  exact uenc_small a b h
theorem encs_take {l : List Nat} {i : Nat} (h : i < l.length) : encs (l.take (i + 1)) = encs (l.take i) ++ uenc (l.getD i 0) := by
  unfold encs
  rw [List.take_add_one, List.getD_eq_getElem?_getD, List.getElem?_eq_getElem h, List.flatMap_append]
  simp
theorem encs_drop {l : List Nat} {i : Nat} (h : i < l.length) : encs (l.drop i) = uenc (l.getD i 0) ++ encs (l.drop (i + 1)) := by
  rw [List.drop_eq_getElem_cons h, encs_cons, List.getD_eq_getElem?_getD, List.getElem?_eq_getElem h]; rfl
theorem encs_len {l : List Nat} (hb : Big l) (i : Nat) : (encs (l.take i)).length ≤ 10 * i := by
  induction i with
  | zero => simp [encs]
  | succ i ih =>
    by_cases h : i < l.length
    · rw [encs_take h, List.length_append]
      have := uenc_len10 (hb.getD i)
      omega
    · rw [List.take_of_length_le (by omega)]
      rw [List.take_of_length_le (by omega)] at ih
      omega
theorem joins_step {l : List Nat} (hb : Big l) {i : Nat} (h : i < l.length) : rdU (encs (l.drop i)) false = (l.getD i 0, encs (l.drop (i + 1)), false) := by
  rw [encs_drop h]; exact rdU_uenc (hb.getD i) _
theorem joins_end {l : List Nat} {i : Nat} (h : l.length ≤ i) : rdU (encs (l.drop i)) false = (0, [], true) := by
  rw [List.drop_eq_nil_of_le h]; rfl
theorem encs_end {l : List Nat} {i : Nat} (h : l.length ≤ i) : encs (l.drop i) = [] := by rw [List.drop_eq_nil_of_le h]; rfl
/-- Cut short, in the midst. -/
def Cut (l bs : List Nat) (i : Nat) : Prop := ∃ j, bs = (encs (l.drop i)).take j ∧ j < (encs (l.drop i)).length
theorem cut_step {l bs : List Nat} (hb : Big l) {i : Nat} (h : i < l.length) (hc : Cut l bs i) (hg : (rdU bs false).2.2 = false) : (rdU bs false).1 = l.getD i 0 ∧ Cut l (rdU bs false).2.1 (i + 1) := by
  obtain ⟨j, rfl, hj⟩ := hc
  rw [encs_drop h] at hj hg ⊢
  by_cases h1 : (uenc (l.getD i 0)).length ≤ j
  · have e : (uenc (l.getD i 0) ++ encs (l.drop (i + 1))).take j = uenc (l.getD i 0) ++ (encs (l.drop (i + 1))).take (j - (uenc (l.getD i 0)).length) := by
      rw [List.take_append, List.take_of_length_le h1]
    rw [e, rdU_uenc (hb.getD i)]
    exact ⟨rfl, _, rfl, by rw [List.length_append] at hj; omega⟩
  · have e : (uenc (l.getD i 0) ++ encs (l.drop (i + 1))).take j = (uenc (l.getD i 0)).take j := by
      rw [List.take_append, show j - (uenc (l.getD i 0)).length = 0 by omega]; simp
    rw [e, rdU_none (uscan_cut _ _ _ _ (by omega))] at hg
    cases hg
theorem cut_end {l bs : List Nat} {i : Nat} (h : l.length ≤ i) : ¬ Cut l bs i := fun ⟨j, _, hj⟩ => by
  rw [encs_end h] at hj
  simp at hj
theorem cut_start {l : List Nat} {k : Nat} (h : k < (encs l).length) : Cut l ((encs l).take k) 0 := ⟨k, rfl, h⟩
end Go.FM
namespace Go.FM
theorem cut_eq {l bs : List Nat} {bad : Bool} {i nn : Nat} (hb : Big l) (h : i < l.length) (h0 : bad = false) (hc : bad = false → nn = i ∧ Cut l bs i) (hg : (rdU bs bad).2.2 = false) : (rdU bs bad).1 = l.getD i 0 ∧ Cut l (rdU bs bad).2.1 (i + 1) ∧ nn = i := by
  subst h0
  obtain ⟨h1, h2⟩ := hc rfl
  obtain ⟨h3, h4⟩ := cut_step hb h h2 hg
  exact ⟨h3, h4, h1⟩
end Go.FM
