/- Two packets under way between nodes that are cut off. -/
import Derived.Test.YtojlmilkdijiaaaDoorFmN4
set_option linter.unusedVariables false
set_option linter.unusedSimpArgs false
namespace Go.FM
structure CutsAt (s : NetS) (K : Int) (ps : List Pk) (l : Int) (deaf : Bool) : Prop where
  n : s.n = K
  k2 : 2 ≤ K
  k16 : K ≤ 16
  hl : s.hr.length = 16
  hb : ∀ z ∈ s.hr, z < 65536
  ps : s.ps = ps
  lost : s.lost = l
  far : s.hears (K - 1) 0 = !deaf
  near : s.hears 0 0 = true
section
variable {s : NetS} {K l a b k : Int} {ps : List Pk} {d : Bool} {v : Value} {bs : List Nat}
theorem CutsAt.inn (h : CutsAt s K ps l d) (h0 : 0 ≤ a) (h1 : a < K) : s.isIn a = true := decide_eq_true ⟨h0, by rw [h.n]; exact h1⟩
theorem CutsAt.new (h2 : 2 ≤ K) (h16 : K ≤ 16) : CutsAt (netNew K) K [] 0 false :=
  ⟨rfl, h2, h16, netNew_len (by omega) h16, netNew_hb h16, rfl, rfl, hears_new (by omega) h16 (by omega) (by omega), hears_new (by omega) h16 (by omega) (by omega)⟩
theorem CutsAt.putE (h : CutsAt s K ps l d) (ha : 0 ≤ a ∧ a < K) (hb : 0 ≤ b ∧ b < K) (hp : ps.length < 4096) : s.putE a b = 0 :=
  putE_ok (h.inn ha.1 ha.2) (h.inn hb.1 hb.2) (by rw [h.ps]; omega)
theorem CutsAt.put (h : CutsAt s K ps l d) (ha : 0 ≤ a ∧ a < K) (hb : 0 ≤ b ∧ b < K) (hp : ps.length < 4096) : CutsAt (s.putS a b bs k v) K (ps ++ [⟨a, b, v, bs⟩]) l d := by
  rw [← putS_ok (h.inn ha.1 ha.2) (h.inn hb.1 hb.2) (by rw [h.ps]; omega)]
  exact ⟨h.n, h.k2, h.k16, h.hl, h.hb, by show s.ps ++ _ = _; rw [h.ps], h.lost, h.far, h.near⟩
theorem CutsAt.setE1 (h : CutsAt s K ps l d) : s.setE 0 (K - 1) = true := setE_t (h.inn (by decide) (by have := h.k2; omega)) (h.inn (by have := h.k2; omega) (by omega)) (by have := h.k2; omega)
theorem CutsAt.setE2 (h : CutsAt s K ps l d) : s.setE (K - 1) 0 = true := setE_t (h.inn (by have := h.k2; omega) (by omega)) (h.inn (by decide) (by have := h.k2; omega)) (by have := h.k2; omega)
theorem CutsAt.set {f : Nat → Int → Nat} (h : CutsAt s K ps l d) {d' : Bool} (hf : ∀ (x : Nat) (y : Int), x < 65536 → f x y < 65536) (h1 : (NetS.setH f s a b).hears (K - 1) 0 = !d') (h2 : (NetS.setH f s a b).hears 0 0 = true) : CutsAt (NetS.setH f s a b) K ps l d' :=
  ⟨by rw [setH_n]; exact h.n, h.k2, h.k16, setH_len f h.hl, setH_hb hf h.hb, by unfold NetS.setH; split <;> exact h.ps, by unfold NetS.setH; split <;> exact h.lost, h1, h2⟩
theorem CutsAt.cut1 (h : CutsAt s K ps l d) : CutsAt (NetS.setH wto s 0 (K - 1)) K ps l true := by
  have h2 := h.k2
  refine h.set (fun x y hx => wto_lt hx y) ?_ ?_
  · rw [hears_cut h.hl h.hb (by rw [h.n]; exact h.k16) (h.inn (by omega) (by omega)) (h.inn (by decide) (by omega)), h.setE1]; simp
  · rw [hears_cut h.hl h.hb (by rw [h.n]; exact h.k16) (h.inn (by decide) (by omega)) (h.inn (by decide) (by omega)), h.near]
    have : ¬ (0 : Int) = K - 1 := by omega
    simp [this]
theorem CutsAt.cut2 (h : CutsAt s K ps l d) : CutsAt (NetS.setH wto s (K - 1) 0) K ps l true := by
  have h2 := h.k2
  refine h.set (fun x y hx => wto_lt hx y) ?_ ?_
  · rw [hears_cut h.hl h.hb (by rw [h.n]; exact h.k16) (h.inn (by omega) (by omega)) (h.inn (by decide) (by omega)), h.setE2]; simp
  · rw [hears_cut h.hl h.hb (by rw [h.n]; exact h.k16) (h.inn (by decide) (by omega)) (h.inn (by decide) (by omega)), h.near]
    have : ¬ (0 : Int) = K - 1 := by omega
    simp [this]
theorem CutsAt.join (h : CutsAt s K ps l d) : CutsAt (NetS.setH wth s (K - 1) 0) K ps l false := by
  have h2 := h.k2
  refine h.set (fun x y hx => wth_lt hx y) ?_ ?_
  · rw [hears_join h.hl h.hb (by rw [h.n]; exact h.k16) (h.inn (by omega) (by omega)) (h.inn (by decide) (by omega)), h.setE2]; simp
  · rw [hears_join h.hl h.hb (by rw [h.n]; exact h.k16) (h.inn (by decide) (by omega)) (h.inn (by decide) (by omega)), h.near]; rfl
theorem CutsAt.peek {q : Pk} {rest : List Pk} (h : CutsAt s K (q :: rest) l d) : s.peekP 0 = ⟨q.From, q.To, q.bs⟩ := peek_at (by decide) (by rw [h.ps]; rfl)
theorem CutsAt.take {q : Pk} {rest : List Pk} (h : CutsAt s K (q :: rest) l d) (hh : s.hears q.From q.To = true) : s.takeE 0 = 0 ∧ s.takeP 0 = ⟨q.From, q.To, q.bs⟩ ∧ CutsAt (s.takeS 0) K rest l d := by
  have h0 : (0 : Int) ≤ 0 ∧ (0 : Int) < s.ps.length := by rw [h.ps]; simp
  have := take_yes h0 (by rw [h.peek]; exact hh)
  refine ⟨this.1, by rw [this.2.1, h.peek], ?_⟩
  rw [← this.2.2]
  exact ⟨h.n, h.k2, h.k16, h.hl, h.hb, by show s.ps.eraseIdx 0 = rest; rw [h.ps]; rfl, h.lost, h.far, h.near⟩
theorem CutsAt.takeCut {q : Pk} {rest : List Pk} (h : CutsAt s K (q :: rest) l d) (hh : s.hears q.From q.To = false) : s.takeE 0 = 10 ∧ s.takeP 0 = ⟨0, 0, []⟩ ∧ CutsAt (s.takeS 0) K rest (l + 1) d := by
  have h0 : (0 : Int) ≤ 0 ∧ (0 : Int) < s.ps.length := by rw [h.ps]; simp
  have := take_cut h0 (by rw [h.peek]; exact hh)
  refine ⟨this.1, this.2.1, ?_⟩
  rw [← this.2.2]
  exact ⟨h.n, h.k2, h.k16, h.hl, h.hb, by show s.ps.eraseIdx 0 = rest; rw [h.ps]; rfl, by show s.lost + 1 = _; rw [h.lost], h.far, h.near⟩
end
end Go.FM
