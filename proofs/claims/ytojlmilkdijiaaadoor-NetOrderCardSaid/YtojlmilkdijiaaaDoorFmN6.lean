/- Packets doubled and turned. -/
import Derived.Test.YtojlmilkdijiaaaDoorFmN3
set_option linter.unusedVariables false
set_option linter.unusedSimpArgs false
namespace Go.FM
open Go
theorem kPk_any {H H' : Hp} {xs : List Pk} {cs : List Value} (h : kPk.toKn.rows H xs cs) : kPk.toKn.rows H' xs cs := h
theorem kI_any {H H' : Hp} {xs : List Int} {cs : List Value} (h : kI.toKn.rows H xs cs) : kI.toKn.rows H' xs cs := h
theorem pk_rows_set {H : Hp} {ps : List Pk} {cs : List Value} {i : Nat} {p q : Pk} (h : kPk.toKn.rows H ps cs) (hp : ps[i]? = some p) (h1 : q.From = p.From) (h2 : q.To = p.To) (h3 : q.v = p.v) (h4 : q.bs.length = p.bs.length) (h5 : Small q.bs) : kPk.toKn.rows H (ps.set i q) cs := by
  refine ⟨by rw [List.length_set]; exact h.1, fun j x hx => ?_⟩
  rw [List.getElem?_set] at hx
  by_cases hij : i = j
  · subst hij
    rw [if_pos rfl] at hx
    split at hx
    · injection hx with hx
      subst hx
      obtain ⟨c, ⟨e1, e2, e3, e4, e5, e6⟩, e7⟩ := h.2 i p hp
      refine ⟨c, ⟨by rw [h1, h2, h3]; exact e1, by rw [h1]; exact e2, by rw [h2]; exact e3, ?_, h5, by rw [h4]; exact e6⟩, e7⟩
      rw [h3]
      exact ⟨by simp, by rw [h4]; exact e4.2.1, by rw [h4]; exact e4.2.2⟩
    · cases hx
  · rw [if_neg hij] at hx
    exact h.2 j x hx
def NetS.doubleE (s : NetS) (i : Int) : Int := if 0 ≤ i ∧ i < s.ps.length then s.putE (s.peekP i).From (s.peekP i).To else 1
def NetS.doubleS (s : NetS) (i : Int) (v : Value) : NetS := if 0 ≤ i ∧ i < s.ps.length then s.putS (s.peekP i).From (s.peekP i).To (s.peekP i).Bytes (s.bi.getD i.toNat 0) v else s
theorem double_no {s : NetS} {i : Int} {v : Value} (h : ¬ (0 ≤ i ∧ i < s.ps.length)) : s.doubleE i = 1 ∧ s = s.doubleS i v := ⟨if_neg h, (if_neg h).symm⟩
theorem double_yes {s : NetS} {i : Int} {v : Value} (h : 0 ≤ i ∧ i < s.ps.length) : s.doubleE i = s.putE (s.peekP i).From (s.peekP i).To ∧ s.doubleS i v = s.putS (s.peekP i).From (s.peekP i).To (s.peekP i).Bytes (s.bi.getD i.toNat 0) v := ⟨if_pos h, if_pos h⟩
end Go.FM
namespace Go.FM
/-- A bit of a packet's bytes turned. -/
def turnB (bs : List Nat) (k : Int) : List Nat := bs.set (k.toNat / 8) (bs.getD (k.toNat / 8) 0 ^^^ (1 * 2 ^ (k.toNat % 8) % 256))
def NetS.turnOk (s : NetS) (i k : Int) : Prop := (0 ≤ i ∧ i < s.ps.length) ∧ (0 ≤ k ∧ k < 8 * ((s.peekP i).Bytes.length : Int))
instance (s : NetS) (i k : Int) : Decidable (s.turnOk i k) := by unfold NetS.turnOk; exact inferInstance
def NetS.turnE (s : NetS) (i k : Int) : Int := if s.turnOk i k then (if 2 ≤ s.bi.getD i.toNat 0 then 8 else 0) else 1
def NetS.turnS (s : NetS) (i k : Int) : NetS := if s.turnOk i k ∧ ¬ 2 ≤ s.bi.getD i.toNat 0 then (match s.ps[i.toNat]? with | some p => NetS.mk s.n s.hr (s.ps.set i.toNat ⟨p.From, p.To, p.v, turnB p.bs k⟩) (s.bi.set i.toNat (s.bi.getD i.toNat 0 + 1)) s.lost | none => s) else s
theorem turnB_len (bs : List Nat) (k : Int) : (turnB bs k).length = bs.length := List.length_set
section
variable {s : NetS} {i k : Int} {p : Pk}
theorem turnNo (h : ¬ s.turnOk i k) : s.turnE i k = 1 ∧ s = s.turnS i k := ⟨if_neg h, (if_neg (fun h1 => h h1.1)).symm⟩
theorem turnFull (h : s.turnOk i k) (h2 : 2 ≤ s.bi.getD i.toNat 0) : s.turnE i k = 8 ∧ s = s.turnS i k := ⟨by unfold NetS.turnE; rw [if_pos h, if_pos h2], (if_neg (fun h1 => h1.2 h2)).symm⟩
theorem turnOk1 (h : s.turnOk i k) (h2 : ¬ 2 ≤ s.bi.getD i.toNat 0) (hp : s.ps[i.toNat]? = some p) : s.turnE i k = 0 ∧ NetS.mk s.n s.hr (s.ps.set i.toNat ⟨p.From, p.To, p.v, turnB p.bs k⟩) (s.bi.set i.toNat (s.bi.getD i.toNat 0 + 1)) s.lost = s.turnS i k :=
  ⟨by unfold NetS.turnE; rw [if_pos h, if_neg h2], by unfold NetS.turnS; rw [if_pos ⟨h, h2⟩, hp]⟩
end
end Go.FM
