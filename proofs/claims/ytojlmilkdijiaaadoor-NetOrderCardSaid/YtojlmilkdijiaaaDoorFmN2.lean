/- Packets come and go. -/
import Derived.Test.YtojlmilkdijiaaaDoorFmN
import Derived.Test.YtojlmilkdijiaaaDoorFmV
import Derived.Test.YtojlmilkdijiaaaDoorFmS2
set_option linter.unusedVariables false
set_option linter.unusedSimpArgs false
namespace Go.FM
open Go
section
variable {P : Program} {N : Nat} {ρ : Nat → Value} {w : World} {H : Hp} {L : List Res} {t e ty g n c : Nat} {x y : Operand} {A : Option Addr} {bs : List Nat}
/-- Bytes copied into a new slice that is as long. -/
theorem m_copyBs (hu : P.underlying t = some (.slice e)) (hi : Inf P e (.int .u8 0) 1 1) (h : St H w (row e 1 (.slice (some ⟨g, 0, none⟩) n n) n (List.replicate n (.int .u8 0)) :: L))
    (hx : Ev N ρ x (.slice (some ⟨g, 0, none⟩) n n)) (hy : Ev N ρ y (.slice A n c)) (hb : Bs H A n c bs) :
    ∃ v' w', Ex P N ρ w (.call { callee := .builtin .copy, args := #[x, y], argTypes := #[t, t] }) ty v' w' ∧ v' = .int .i64 (n : Int) ∧ RowOk 1 (.slice (some ⟨g, 0, none⟩) n n) bs.length (bs.map encB) ∧ St H w' (row e 1 (.slice (some ⟨g, 0, none⟩) n n) bs.length (bs.map encB) :: L) := by
  have hok : RowOk 1 (.slice (some ⟨g, 0, none⟩) n n) bs.length (bs.map encB) := ⟨by simp, by have h1 := hb.len; have h2 := hb.max; have h3 := hb.le; omega, .inr ⟨g, n, by rw [hb.len], by rw [hb.len]; exact Nat.le_refl _⟩⟩
  rcases hb.at_ with rfl | ⟨b, off, rfl, hat⟩
  · have hl : n = 0 := by rw [← hb.len]; rfl
    subst hl
    exact ⟨_, w, x_copy0 hu hi hx hy rfl, rfl, hok, h⟩
  · have hln : (bs.map encB).length = n := by rw [List.length_map, hb.len]
    have := m_copyRow (ty := ty) (k := n) hu hi h rfl hx hy (Nat.min_self n) (hat h) (by rw [hln, Nat.mul_one]) (by rw [List.length_replicate]; omega) (one_encB bs)
    have e1 : splice (List.replicate n (.int .u8 0)) 0 (bs.map encB) = bs.map encB := by
      apply List.ext_getElem?
      intro j
      rw [splice_get (by rw [hln, List.length_replicate]; omega)]
      by_cases hj : j < n
      · rw [if_pos (by omega), Nat.sub_zero]
      · rw [if_neg (by omega), List.getElem?_eq_none (by rw [List.length_replicate]; omega), List.getElem?_eq_none (by omega)]
    rw [e1] at this
    obtain ⟨v', w', h1, h2, h3⟩ := this
    obtain rfl := hb.len
    exact ⟨v', w', h1, h2, hok, h3⟩
end
def NetS.putE (s : NetS) (a b : Int) : Int := if s.isIn a = true ∧ s.isIn b = true then (if 4096 ≤ s.ps.length then 7 else 0) else 1
def NetS.putS (s : NetS) (a b : Int) (bs : List Nat) (k : Int) (v : Value) : NetS :=
  if s.isIn a = true ∧ s.isIn b = true then (if 4096 ≤ s.ps.length then NetS.mk s.n s.hr s.ps s.bi (s.lost + 1) else NetS.mk s.n s.hr (s.ps ++ [⟨a, b, v, bs⟩]) (s.bi ++ [k]) s.lost) else s
section
variable {s : NetS} {a b k : Int} {bs : List Nat} {v : Value}
theorem putE_no (h : s.isIn a = false ∨ s.isIn b = false) : s.putE a b = 1 := if_neg (by rcases h with h | h <;> simp [h])
theorem putS_no (h : s.isIn a = false ∨ s.isIn b = false) : s = s.putS a b bs k v := (if_neg (by rcases h with h | h <;> simp [h])).symm
theorem putE_full (h1 : s.isIn a = true) (h2 : s.isIn b = true) (h : 4096 ≤ s.ps.length) : s.putE a b = 7 := by unfold NetS.putE; rw [if_pos ⟨h1, h2⟩, if_pos h]
theorem putS_full (h1 : s.isIn a = true) (h2 : s.isIn b = true) (h : 4096 ≤ s.ps.length) : NetS.mk s.n s.hr s.ps s.bi (s.lost + 1) = s.putS a b bs k v := by unfold NetS.putS; rw [if_pos ⟨h1, h2⟩, if_pos h]
theorem putE_ok (h1 : s.isIn a = true) (h2 : s.isIn b = true) (h : ¬ 4096 ≤ s.ps.length) : s.putE a b = 0 := by unfold NetS.putE; rw [if_pos ⟨h1, h2⟩, if_neg h]
theorem putS_ok (h1 : s.isIn a = true) (h2 : s.isIn b = true) (h : ¬ 4096 ≤ s.ps.length) : NetS.mk s.n s.hr (s.ps ++ [⟨a, b, v, bs⟩]) (s.bi ++ [k]) s.lost = s.putS a b bs k v := by unfold NetS.putS; rw [if_pos ⟨h1, h2⟩, if_neg h]
end
end Go.FM
namespace Go.FM
open Go
section
variable {s : NetS} {a b i j k : Int} {bs : List Nat} {v : Value}
theorem putS_len (h1 : s.isIn a = true) (h2 : s.isIn b = true) (h : ¬ 4096 ≤ s.ps.length) : (s.putS a b bs k v).ps.length = s.ps.length + 1 := by rw [← putS_ok h1 h2 h]; simp
theorem cls_is (hc : s.cls i ≠ 0) : s.isIn i = true ∧ s.cls i = s.hr.getD i.toNat 0 ∧ (lst (s.hr.getD i.toNat 0)).all (fun k => decide (s.hr.getD k 0 = s.hr.getD i.toNat 0)) = true := by
  unfold NetS.cls at hc ⊢
  split at hc
  · split at hc
    · rename_i h1 h2; exact ⟨h1, by rw [if_pos h1, if_pos h2], h2⟩
    · exact absurd rfl hc
  · exact absurd rfl hc
theorem cls_hears (hc : s.cls i ≠ 0) : s.hears i j = has (s.cls i) j := by
  obtain ⟨h1, h2, _⟩ := cls_is hc
  unfold NetS.hears
  rw [h1, h2]; rfl
theorem cls_same (hc : s.cls i ≠ 0) (hj : s.isIn j = true) (hh : s.hears i j = true) : s.cls j = s.cls i := by
  obtain ⟨h1, h2, h3⟩ := cls_is hc
  rw [cls_hears hc, h2] at hh
  have h0 := (has_in hh).1
  have hm : j.toNat ∈ lst (s.hr.getD i.toNat 0) := has_lst.2 (by rw [Int.toNat_of_nonneg h0]; exact hh)
  have h4 := List.all_eq_true.1 h3 _ hm
  have h5 : s.hr.getD j.toNat 0 = s.hr.getD i.toNat 0 := of_decide_eq_true h4
  unfold NetS.cls
  rw [if_pos hj, if_pos h1, h5]
end
end Go.FM
namespace Go.FM
theorem setH_n (f : Nat → Int → Nat) (s : NetS) (a b : Int) : (NetS.setH f s a b).n = s.n := by unfold NetS.setH; split <;> rfl
end Go.FM
namespace Go.FM
theorem cls_lt {s : NetS} (h : ∀ x ∈ s.hr, x < 65536) (i : Int) : s.cls i < 65536 := by
  unfold NetS.cls
  split
  · split
    · exact getD_hb h _
    · decide
  · decide
end Go.FM
