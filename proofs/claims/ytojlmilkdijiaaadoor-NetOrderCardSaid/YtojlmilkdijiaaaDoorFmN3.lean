/- An element taken out of a row, in place; bytes cloned. -/
import Derived.Test.YtojlmilkdijiaaaDoorFmN2
set_option linter.unusedVariables false
set_option linter.unusedSimpArgs false
namespace Go.FM
open Go
section
variable {P : Program} {N : Nat} {ρ : Nat → Value} {H : Hp} {w w' : World} {L : List Res} {t ty e e' size bytes n m c g cap i : Nat} {v : Value} {xs news : List Value} {x y : Operand} {z : Value}
/-- append(s[:i], u...) where s has the room: in place. -/
theorem m_appSelf {a : Addr} (hu : P.underlying t = some (.slice e')) (hi : Inf P e' z size bytes) (h : St H w (row e size v n xs :: L)) (ok : RowOk size v n xs) (hv : v = .slice (some ⟨g, 0, none⟩) n cap)
    (hx : Ev N ρ x (.slice (some ⟨g, 0, none⟩) i cap)) (hy : Ev N ρ y (.slice (some a) m c)) (hnews : At w a news) (hl : news.length = m * size) (h1 : ∀ u ∈ news, u.oneCell' = true) (hs : i + m ≤ n) :
    ∃ v' w', Ex P N ρ w (.call { callee := .builtin .append, args := #[x, y], argTypes := #[t, t] }) ty v' w' ∧ v' = .slice (some ⟨g, 0, none⟩) (i + m) cap ∧ St H w' (row e size v n (splice xs (i * size) news) :: L) := by
  have hcap : n ≤ cap := by
    rcases ok.2.2 with ⟨h2, rfl⟩ | ⟨g', cap', h2, h3⟩
    · omega
    · rw [hv] at h2; injection h2 with _ _ h2; omega
  obtain ⟨w', hr, hs'⟩ := h.putRow (P := P) hv (o := i * size) (news := news) (by rw [hl, ok.1, ← Nat.add_mul]; exact Nat.mul_le_mul_right _ hs) h1
  refine ⟨_, w', fun _ _ _ _ => ?_, rfl, hs'⟩
  have e1 : (en N ρ).eval x = .slice (some ⟨g, 0, none⟩) i cap := hx
  have e2 : (en N ρ).eval y = .slice (some a) m c := hy
  obtain ⟨i0, f1, _, f3, _⟩ := hi
  have hlc := run_loadCells_list (P := P) w a news hnews
  rw [hl] at hlc
  have hne : i + m ≤ cap := by omega
  have hcp : (Builtin.append_ #[t, t] ty #[.slice (some ⟨g, 0, none⟩) i cap, .slice (some a) m c]).run P w = .ok (.slice (some ⟨g, 0, none⟩) (i + m) cap) w' := by
    simp [Builtin.append_, run_underlying hu, Sem.run_bind, Builtin.lenOf, sizeOf, typeInfo, f1, f3, Builtin.firstCells, hlc, hr, hne, add_none]
  simp [execOp, resolve, invoke, builtin, e1, e2, hcp]
theorem sl_lhm {α : Type} {d : Kd α} {A : Option Addr} {lo hi_ mx : Operand} {a b : Int} {mc : Nat} {k k' k'' : IntKind} (hu : P.underlying t = some (.slice e)) (hi : Inf P e z d.sz bytes) (hx : Ev N ρ x (.slice A n c)) (hl : Ev N ρ lo (.int k a)) (hh : Ev N ρ hi_ (.int k' b)) (hm : Ev N ρ mx (.int k'' ((mc : Nat) : Int)))
    (h0 : 0 ≤ a) (h1 : a ≤ b) (h2 : b ≤ mc) (h3 : mc ≤ c) : Ex P N ρ w (.slice t x (some lo) (some hi_) (some mx)) ty (.slice (cutA A mc a.toNat d.sz) (b.toNat - a.toNat) (mc - a.toNat)) w := fun _ _ _ _ => by
  obtain ⟨i0, f1, _, f3, _⟩ := hi
  have e1 : (en N ρ).eval x = .slice A n c := hx
  have e2 : (en N ρ).eval lo = .int k a := hl
  have e3 : (en N ρ).eval hi_ = .int k' b := hh
  have e4 : (en N ρ).eval mx = .int k'' ((mc : Nat) : Int) := hm
  have h4 : 0 ≤ b := by omega
  obtain ⟨a', rfl⟩ := Int.eq_ofNat_of_zero_le h0
  obtain ⟨b', rfl⟩ := Int.eq_ofNat_of_zero_le h4
  have h5 : a' ≤ b' := by omega
  have h6 : b' ≤ mc := by omega
  simp [execOp, e1, e2, e3, e4, Instr.sliceAt, run_underlying hu, Instr.slice, Instr.sliceBounds, Instr.sliceBound, asIntOf, h3, h5, h6, sizeOf, typeInfo, f1, f3, cutA]
/-- The cells behind an element that is taken out moved up: what is left of the row. -/
theorem del_cells {cs vs : List Value} {n m sz : Nat} (hc : cs.length = n * sz) (hm : m < n) (hv : vs.length = sz) :
    (splice (splice cs (m * sz) (cs.drop ((m + 1) * sz))) ((n - 1) * sz) vs).take ((n - 1) * sz) = cs.take (m * sz) ++ cs.drop ((m + 1) * sz) := by
  have h1 : (m + 1) * sz = m * sz + sz := by rw [Nat.add_mul, Nat.one_mul]
  have h2 : (n - 1) * sz + sz = n * sz := by rw [← Nat.add_one_mul]; congr 1; omega
  have h3 : m * sz ≤ (n - 1) * sz := Nat.mul_le_mul_right _ (by omega)
  have hd : (cs.drop ((m + 1) * sz)).length = (n - 1) * sz - m * sz := by rw [List.length_drop, hc, h1]; omega
  have hl : (splice cs (m * sz) (cs.drop ((m + 1) * sz))).length = n * sz := by rw [splice_length (by rw [hd, hc]; omega), hc]
  rw [splice_take (by rw [hl]; omega)]
  apply List.ext_getElem?
  intro j
  rw [List.getElem?_take]
  by_cases hj : j < (n - 1) * sz
  · rw [if_pos hj, splice_get (by rw [hd, hc]; omega)]
    by_cases hj2 : j < m * sz
    · rw [if_neg (by omega), List.getElem?_append_left (by rw [List.length_take]; omega), List.getElem?_take, if_pos hj2]
    · rw [if_pos (by omega), List.getElem?_append_right (by rw [List.length_take]; omega), List.length_take, hc, Nat.min_eq_left (by omega)]
  · rw [if_neg hj, List.getElem?_eq_none]
    rw [List.length_append, List.length_take, hd]; omega
theorem del_ok {sz : Nat} {cs : List Value} (ok : RowOk sz (.slice (some ⟨g, 0, none⟩) n cap) n cs) (hm : m < n) : RowOk sz (.slice (some ⟨g, 0, none⟩) (n - 1) cap) (n - 1) (cs.take (m * sz) ++ cs.drop ((m + 1) * sz)) := by
  have hc := ok.1
  have h1 : (m + 1) * sz = m * sz + sz := by rw [Nat.add_mul, Nat.one_mul]
  have h2 : (n - 1) * sz + sz = n * sz := by rw [← Nat.add_one_mul]; congr 1; omega
  have h3 : m * sz ≤ (n - 1) * sz := Nat.mul_le_mul_right _ (by omega)
  refine ⟨by rw [List.length_append, List.length_take, List.length_drop, hc]; omega, by have := ok.2.1; omega, .inr ⟨g, cap, rfl, ?_⟩⟩
  rcases ok.2.2 with ⟨h, _⟩ | ⟨g', cap', h, hc⟩
  · cases h
  · injection h with _ _ h
    subst h; omega
theorem cutA_at {sz l : Nat} {cs : List Value} (h : St H w (row e sz (.slice (some ⟨g, 0, none⟩) n cap) n cs :: L)) (ok : RowOk sz (.slice (some ⟨g, 0, none⟩) n cap) n cs) (hl : l ≤ n) : ∃ a, cutA (some ⟨g, 0, none⟩) cap l sz = some a ∧ At w a (cs.drop (l * sz)) := by
  have hcap : n ≤ cap := by
    rcases ok.2.2 with ⟨h, _⟩ | ⟨g', cap', h, hc⟩
    · cases h
    · injection h with _ _ h
      omega
  by_cases hlc : l < cap
  · exact ⟨_, cutA_some hlc, h.rowAt 0 rfl rfl (l * sz) (drop_self _ _)⟩
  · have e1 : cap = l := by omega
    refine ⟨⟨g, 0, none⟩, by unfold cutA; rw [if_pos e1], ?_⟩
    rw [List.drop_eq_nil_of_le (by rw [ok.1]; exact Nat.mul_le_mul_right _ (by omega))]
    intro j u hu
    simp at hu
theorem erase_split {α : Type} (l : List α) (m : Nat) : l.eraseIdx m = l.take m ++ l.drop (m + 1) := List.eraseIdx_eq_take_drop_succ l m
end
end Go.FM
namespace Go.FM
open Go
section
variable {P : Program} {N : Nat} {ρ : Nat → Value} {H : Hp} {w w' : World} {L : List Res} {t ty e e2 n c : Nat} {v u : Value} {x y : Operand} {l bs : List Nat} {TB : Nat}
theorem St.pkBack {rs : List Res} {ps : List Pk} {i : Nat} {p : Pk} (h : St H w (pkRes TB p :: (rs ++ ((ps.eraseIdx i).map (pkRes TB) ++ L)))) (hp : ps[i]? = some p) : St H w (rs ++ (ps.map (pkRes TB) ++ L)) := by
  have := h.pkIn hp
  obtain ⟨hi, rfl⟩ := List.getElem?_eq_some_iff.1 hp
  rwa [List.set_getElem_self] at this
theorem bs_none {A : Option Addr} (ok : RowOk 1 (.slice A bs.length c) bs.length (bs.map encB)) (h : A.isNone = true) : bs = [] := by
  rcases ok.2.2 with ⟨h1, h2⟩ | ⟨g, cap, h1, _⟩
  · exact List.eq_nil_of_length_eq_zero h2
  · injection h1 with h1 _ _
    subst h1; cases h
theorem nilRowB (h : St H w L) (e : Nat) (hb : bs = []) : St H w (row e 1 (.slice none 0 0) bs.length (bs.map encB) :: L) := by
  subst hb; exact h.rowNil e 1
theorem nilOkB (hb : bs = []) : RowOk 1 (.slice none 0 0) bs.length (bs.map encB) := by subst hb; exact RowOk.nil 1
/-- append of a row of bytes of one's own to another. -/
theorem m_appRowB (hu : P.underlying t = some (.slice e)) (hi : Inf P e (.int .u8 0) 1 1) (h : St H w (row e 1 v n (l.map encB) :: L)) (ok : RowOk 1 v n (l.map encB)) (hx : Ev N ρ x v) (i : Nat) (hL : (row e 1 v n (l.map encB) :: L)[i]? = some (row e2 1 u bs.length (bs.map encB))) (ok2 : RowOk 1 u bs.length (bs.map encB))
    (hy : Ev N ρ y u) (hm : n + bs.length ≤ 140737488355328) :
    ∃ v' w', Ex P N ρ w (.call { callee := .builtin .append, args := #[x, y], argTypes := #[t, t] }) ty v' w' ∧ RowOk 1 v' (n + bs.length) ((l ++ bs).map encB) ∧ St H w' (row e 1 v' (n + bs.length) ((l ++ bs).map encB) :: L) := by
  rcases h.rowAll i hL ok2 with h1 | ⟨a, ⟨c', rfl⟩, hat⟩
  · have h2 : bs = [] := by simpa using h1
    subst h2
    obtain ⟨A, c', rfl, _⟩ := ok2.slice
    obtain ⟨i0, e1, _⟩ := hi
    exact ⟨v, w, m_append0 hu e1 h ok hx hy, by simpa using ok, by simpa using h⟩
  · rw [List.map_append]
    exact m_app hu hi rfl (by decide) h ok hx hy (by simp) hat (one_encB bs) (by omega) (by decide)
end
def NetS.lookE (s : NetS) (i : Int) : Int := if 0 ≤ i ∧ i < s.ps.length then 0 else 1
def NetS.peekP (s : NetS) (i : Int) : GPacket := if 0 ≤ i then (match s.ps[i.toNat]? with | some p => ⟨p.From, p.To, p.bs⟩ | none => ⟨0, 0, []⟩) else ⟨0, 0, []⟩
def NetS.outS (s : NetS) (m : Nat) : NetS := NetS.mk s.n s.hr (s.ps.eraseIdx m) (s.bi.eraseIdx m) s.lost
theorem peek_no {s : NetS} {i : Int} (h : ¬ (0 ≤ i ∧ i < s.ps.length)) : s.peekP i = ⟨0, 0, []⟩ := by
  unfold NetS.peekP
  split
  · rw [List.getElem?_eq_none (by omega)]
  · rfl
theorem peek_at {s : NetS} {i : Int} {p : Pk} (h0 : 0 ≤ i) (h : s.ps[i.toNat]? = some p) : s.peekP i = ⟨p.From, p.To, p.bs⟩ := by
  unfold NetS.peekP
  rw [if_pos h0, h]
theorem lookE_0 {s : NetS} {i : Int} (h : 0 ≤ i ∧ i < s.ps.length) : s.lookE i = 0 := if_pos h
theorem lookE_1 {s : NetS} {i : Int} (h : ¬ (0 ≤ i ∧ i < s.ps.length)) : s.lookE i = 1 := if_neg h
end Go.FM
namespace Go.FM
theorem RowOk.oneC {sz n : Nat} {v : Value} {xs : List Value} (ok : RowOk sz v n xs) : v.oneCell' = true := by
  obtain ⟨A, c, rfl, _⟩ := ok.slice
  rfl
theorem allC {α : Type} {p : α → Bool} {a : α} {l : List α} (h : p a = true) (hl : l.all p = true) : (a :: l).all p = true := by rw [List.all_cons, h, hl]; rfl
end Go.FM
namespace Go.FM
def NetS.lose (s : NetS) : NetS := NetS.mk s.n s.hr s.ps s.bi (s.lost + 1)
def NetS.dropS (s : NetS) (i : Int) : NetS := if 0 ≤ i ∧ i < s.ps.length then (s.outS i.toNat).lose else s
def NetS.takeE (s : NetS) (i : Int) : Int := if 0 ≤ i ∧ i < s.ps.length then (if s.hears (s.peekP i).From (s.peekP i).To = true then 0 else 10) else 1
def NetS.takeP (s : NetS) (i : Int) : GPacket := if (0 ≤ i ∧ i < s.ps.length) ∧ s.hears (s.peekP i).From (s.peekP i).To = true then s.peekP i else ⟨0, 0, []⟩
def NetS.takeS (s : NetS) (i : Int) : NetS := if 0 ≤ i ∧ i < s.ps.length then (if s.hears (s.peekP i).From (s.peekP i).To = true then s.outS i.toNat else (s.outS i.toNat).lose) else s
theorem look_in {s : NetS} {i : Int} (h : s.lookE i = 0) : 0 ≤ i ∧ i < s.ps.length := by
  by_cases h1 : 0 ≤ i ∧ i < s.ps.length
  · exact h1
  · rw [lookE_1 h1] at h; cases h
theorem look_out {s : NetS} {i : Int} (h : s.lookE i ≠ 0) : ¬ (0 ≤ i ∧ i < s.ps.length) := fun h1 => h (lookE_0 h1)
theorem drop_no {s : NetS} {i : Int} (h : ¬ (0 ≤ i ∧ i < s.ps.length)) : s = s.dropS i := (if_neg h).symm
theorem drop_yes {s : NetS} {i : Int} (h : 0 ≤ i ∧ i < s.ps.length) : (s.outS i.toNat).lose = s.dropS i := (if_pos h).symm
section
variable {s : NetS} {i : Int}
theorem take_no (h : ¬ (0 ≤ i ∧ i < s.ps.length)) : s.takeE i = 1 ∧ s.takeP i = ⟨0, 0, []⟩ ∧ s = s.takeS i := ⟨if_neg h, if_neg (fun h1 => h h1.1), (if_neg h).symm⟩
theorem take_yes (h : 0 ≤ i ∧ i < s.ps.length) (hh : s.hears (s.peekP i).From (s.peekP i).To = true) : s.takeE i = 0 ∧ s.takeP i = s.peekP i ∧ s.outS i.toNat = s.takeS i :=
  ⟨by unfold NetS.takeE; rw [if_pos h, if_pos hh], if_pos ⟨h, hh⟩, by unfold NetS.takeS; rw [if_pos h, if_pos hh]⟩
theorem take_cut (h : 0 ≤ i ∧ i < s.ps.length) (hh : s.hears (s.peekP i).From (s.peekP i).To = false) : s.takeE i = 10 ∧ s.takeP i = ⟨0, 0, []⟩ ∧ (s.outS i.toNat).lose = s.takeS i :=
  ⟨by unfold NetS.takeE; rw [if_pos h, if_neg (by rw [hh]; decide)], if_neg (fun h1 => by rw [hh] at h1; exact absurd h1.2 (by decide)), by unfold NetS.takeS; rw [if_pos h, if_neg (by rw [hh]; decide)]⟩
theorem hears_out (a b : Int) (m : Nat) : (s.outS m).hears a b = s.hears a b := rfl
end
end Go.FM
