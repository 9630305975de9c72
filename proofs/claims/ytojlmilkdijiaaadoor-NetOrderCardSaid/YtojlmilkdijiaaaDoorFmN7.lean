/- A packet turned and doubled; a net that is full. -/
import Derived.Test.YtojlmilkdijiaaaDoorFmN5
import Derived.Test.YtojlmilkdijiaaaDoorFmN6
set_option linter.unusedVariables false
set_option linter.unusedSimpArgs false
namespace Go.FM
open Go
structure TurnsAt (s : NetS) (want : List Nat) (k : Int) (m : Nat) : Prop where
  n : s.n = 2
  len : s.ps.length = m + 1
  bl : s.bi.length = m + 1
  last : ∃ v, s.ps[m]? = some ⟨0, 1, v, want⟩
  bit : s.bi.getD m 0 = k
  lost : s.lost = 0
section
variable {s : NetS} {want : List Nat} {k i : Int} {m j : Nat}
theorem TurnsAt.inn (h : TurnsAt s want k m) (hi : i = (m : Int)) : 0 ≤ i ∧ i < s.ps.length := by have := h.len; omega
theorem TurnsAt.peek (h : TurnsAt s want k m) (hi : i = (m : Int)) : s.peekP i = ⟨0, 1, want⟩ := by
  obtain ⟨v, hv⟩ := h.last
  exact peek_at (p := ⟨0, 1, v, want⟩) (by omega) (by rw [hi, Int.toNat_natCast]; exact hv)
theorem TurnsAt.look (h : TurnsAt s want k m) (hi : i = (m : Int)) : s.lookE i = 0 := lookE_0 (h.inn hi)
theorem TurnsAt.ok (h : TurnsAt s want k m) (hi : i = (m : Int)) (hj : j < 8 * want.length) : s.turnOk i (j : Int) := ⟨h.inn hi, by rw [h.peek hi]; show (0 : Int) ≤ (j : Int) ∧ (j : Int) < 8 * (want.length : Int); omega⟩
theorem TurnsAt.full (h : TurnsAt s want k m) (hi : i = (m : Int)) (hj : j < 8 * want.length) (hk : ¬ k < 2) : s.turnE i (j : Int) = 8 ∧ TurnsAt (s.turnS i (j : Int)) want k m := by
  have hb : s.bi.getD i.toNat 0 = k := by rw [hi, Int.toNat_natCast]; exact h.bit
  have := turnFull (h.ok hi hj) (by rw [hb]; omega)
  exact ⟨this.1, by rw [← this.2]; exact h⟩
theorem TurnsAt.turn (h : TurnsAt s want k m) (hi : i = (m : Int)) (hj : j < 8 * want.length) (hk : k < 2) : s.turnE i (j : Int) = 0 ∧ TurnsAt (s.turnS i (j : Int)) (turnB want (j : Int)) (k + 1) m := by
  obtain ⟨v, hv⟩ := h.last
  have hb : s.bi.getD i.toNat 0 = k := by rw [hi, Int.toNat_natCast]; exact h.bit
  have := turnOk1 (p := ⟨0, 1, v, want⟩) (h.ok hi hj) (by rw [hb]; omega) (by rw [hi, Int.toNat_natCast]; exact hv)
  refine ⟨this.1, ?_⟩
  rw [← this.2, hb, hi, Int.toNat_natCast]
  have h1 := h.len
  have h2 := h.bl
  refine ⟨h.n, by show (s.ps.set m _).length = _; rw [List.length_set]; exact h1, by show (s.bi.set m _).length = _; rw [List.length_set]; exact h2, ⟨v, by show (s.ps.set m _)[m]? = _; rw [List.getElem?_set, if_pos rfl, if_pos (by omega)]⟩, ?_, h.lost⟩
  show (s.bi.set m (k + 1)).getD m 0 = k + 1
  rw [List.getD_eq_getElem?_getD, List.getElem?_set, if_pos rfl, if_pos (by omega)]; rfl
theorem TurnsAt.double (h : TurnsAt s want k m) (hi : i = (m : Int)) (hm : m + 1 < 4096) : s.doubleE i = 0 ∧ ∀ v, TurnsAt (s.doubleS i v) want k (m + 1) := by
  have hin : ∀ z : Int, 0 ≤ z → z < 2 → s.isIn z = true := fun z h0 h1 => decide_eq_true ⟨h0, by rw [h.n]; exact h1⟩
  have hb : s.bi.getD i.toNat 0 = k := by rw [hi, Int.toNat_natCast]; exact h.bit
  have h1 := h.len
  have h2 := h.bl
  have hE := putE_ok (s := s) (a := 0) (b := 1) (hin 0 (by decide) (by decide)) (hin 1 (by decide) (by decide)) (by omega)
  refine ⟨by rw [(double_yes (v := .slice none 0 0) (h.inn hi)).1, h.peek hi]; exact hE, fun v => ?_⟩
  rw [(double_yes (v := v) (h.inn hi)).2, h.peek hi, hb, ← putS_ok (hin 0 (by decide) (by decide)) (hin 1 (by decide) (by decide)) (by omega)]
  refine ⟨h.n, by simp [h1], by simp [h2], ⟨v, ?_⟩, ?_, h.lost⟩
  · show (s.ps ++ [_])[m + 1]? = _
    rw [List.getElem?_append_right (by omega), h1]; simp
  · show (s.bi ++ [k]).getD (m + 1) 0 = k
    rw [List.getD_eq_getElem?_getD, List.getElem?_append_right (by omega), h2]; simp
theorem TurnsAt.new (p : List Nat) (v : Value) : (netNew 2).putE 0 1 = 0 ∧ TurnsAt ((netNew 2).putS 0 1 p 0 v) p 0 0 := by
  have hin : ∀ z : Int, 0 ≤ z → z < 2 → (netNew 2).isIn z = true := fun z h0 h1 => decide_eq_true ⟨h0, h1⟩
  refine ⟨putE_ok (hin 0 (by decide) (by decide)) (hin 1 (by decide) (by decide)) (by decide), ?_⟩
  rw [← putS_ok (hin 0 (by decide) (by decide)) (hin 1 (by decide) (by decide)) (by decide)]
  exact ⟨rfl, rfl, rfl, ⟨v, rfl⟩, rfl, rfl⟩
end
/-- A net of two, in which packets from 1 to 0 with the same bytes are under way, none turned. -/
structure FullAt (s : NetS) (p : List Nat) (m : Nat) (l : Int) : Prop where
  n : s.n = 2
  hr : s.hr = (netNew 2).hr
  len : s.ps.length = m
  bl : s.bi.length = m
  all : ∀ q ∈ s.ps, q.From = 1 ∧ q.To = 0 ∧ q.bs = p
  lost : s.lost = l
section
variable {s : NetS} {p : List Nat} {m : Nat} {l i : Int}
theorem FullAt.new (p : List Nat) : FullAt (netNew 2) p 0 0 := ⟨rfl, rfl, rfl, rfl, fun q hq => absurd hq List.not_mem_nil, rfl⟩
theorem FullAt.inn (h : FullAt s p m l) (h0 : 0 ≤ i) (h1 : i < 2) : s.isIn i = true := decide_eq_true ⟨h0, by rw [h.n]; exact h1⟩
theorem FullAt.putE (h : FullAt s p m l) (hm : m < 4096) : s.putE 1 0 = 0 := putE_ok (h.inn (by decide) (by decide)) (h.inn (by decide) (by decide)) (by rw [h.len]; omega)
theorem FullAt.put (h : FullAt s p m l) (hm : m < 4096) (k : Int) (v : Value) : FullAt (s.putS 1 0 p k v) p (m + 1) l := by
  rw [← putS_ok (h.inn (by decide) (by decide)) (h.inn (by decide) (by decide)) (by rw [h.len]; omega)]
  refine ⟨h.n, h.hr, by simp [h.len], by simp [h.bl], fun q hq => ?_, h.lost⟩
  rcases List.mem_append.1 hq with hq | hq
  · exact h.all q hq
  · rw [List.mem_singleton.1 hq]; exact ⟨rfl, rfl, rfl⟩
theorem FullAt.busyE (h : FullAt s p 4096 l) : s.putE 1 0 = 7 := putE_full (h.inn (by decide) (by decide)) (h.inn (by decide) (by decide)) (by rw [h.len]; omega)
theorem FullAt.busy (h : FullAt s p 4096 l) (bs : List Nat) (k : Int) (v : Value) : FullAt (s.putS 1 0 bs k v) p 4096 (l + 1) := by
  rw [← putS_full (h.inn (by decide) (by decide)) (h.inn (by decide) (by decide)) (by rw [h.len]; omega)]
  exact ⟨h.n, h.hr, h.len, h.bl, h.all, by show s.lost + 1 = _; rw [h.lost]⟩
theorem FullAt.at_ (h : FullAt s p m l) (h0 : 0 ≤ i) (h1 : i < m) : (0 ≤ i ∧ i < s.ps.length) ∧ s.peekP i = ⟨1, 0, p⟩ := by
  have hlt : i.toNat < s.ps.length := by rw [h.len]; omega
  have hq := h.all _ (List.getElem_mem hlt)
  refine ⟨by rw [h.len]; omega, ?_⟩
  rw [peek_at h0 (List.getElem?_eq_getElem hlt), hq.1, hq.2.1, hq.2.2]
theorem FullAt.doubleBusy (h : FullAt s p 4096 l) (h0 : 0 ≤ i) (h1 : i < 4096) : s.doubleE i = 7 ∧ ∀ v, FullAt (s.doubleS i v) p 4096 (l + 1) := by
  obtain ⟨hin, hp⟩ := h.at_ h0 h1
  refine ⟨by rw [(double_yes (v := .slice none 0 0) hin).1, hp]; exact h.busyE, fun v => ?_⟩
  rw [(double_yes (v := v) hin).2, hp]; exact h.busy _ _ _
theorem FullAt.double (h : FullAt s p m l) (hm : m < 4096) (h0 : 0 ≤ i) (h1 : i < m) : s.doubleE i = 0 ∧ ∀ v, FullAt (s.doubleS i v) p (m + 1) l := by
  obtain ⟨hin, hp⟩ := h.at_ h0 h1
  refine ⟨by rw [(double_yes (v := .slice none 0 0) hin).1, hp]; exact h.putE hm, fun v => ?_⟩
  rw [(double_yes (v := v) hin).2, hp]; exact h.put hm _ _
theorem FullAt.hears (h : FullAt s p m l) : s.hears 1 0 = true := by
  have : s.hears 1 0 = (netNew 2).hears 1 0 := by unfold NetS.hears NetS.isIn; rw [h.n, h.hr]; rfl
  rw [this]; exact hears_new (by decide) (by decide) (by decide) (by decide)
theorem FullAt.take (h : FullAt s p (m + 1) l) (h0 : 0 ≤ i) (h1 : i < ((m + 1 : Nat) : Int)) : s.takeE i = 0 ∧ s.takeP i = ⟨1, 0, p⟩ ∧ FullAt (s.takeS i) p m l := by
  obtain ⟨hin, hp⟩ := h.at_ h0 h1
  have ht := take_yes hin (by rw [hp]; exact h.hears)
  refine ⟨ht.1, by rw [ht.2.1, hp], ?_⟩
  rw [← ht.2.2]
  refine ⟨h.n, h.hr, ?_, ?_, fun q hq => h.all q (List.mem_of_mem_eraseIdx hq), h.lost⟩
  · show (s.ps.eraseIdx i.toNat).length = m
    rw [List.length_eraseIdx_of_lt (by rw [h.len]; omega), h.len]; omega
  · show (s.bi.eraseIdx i.toNat).length = m
    rw [List.length_eraseIdx_of_lt (by rw [h.bl]; omega), h.bl]; omega
end
end Go.FM
