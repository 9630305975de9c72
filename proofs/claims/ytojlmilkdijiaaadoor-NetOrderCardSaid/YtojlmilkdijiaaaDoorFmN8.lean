/- Nets of two, in which all packets go from 0 to 1. A row that is lent. -/
import Derived.Test.YtojlmilkdijiaaaDoorFmN7
set_option linter.unusedVariables false
set_option linter.unusedSimpArgs false
namespace Go.FM
open Go
section
variable {H : Hp} {w w' : World} {L L' : List Res} {e size n : Nat} {v : Value} {xs : List Value}
/-- A row of one's own stays as it is for a while, and is one's own again behind that. -/
theorem St.lendRow (h : St H w (row e size v n xs :: L)) (ok : RowOk size v n xs) : ∃ H' A c, H.le H' ∧ St H' w L ∧ v = .slice A n c ∧ n ≤ c ∧ c ≤ maxLen ∧ Rd H' A xs ∧ ∀ {w' L'}, St H' w' L' → St H w' (row e size v n xs :: L') := by
  rcases ok.2.2 with ⟨rfl, rfl⟩ | ⟨g, cap, rfl, hc⟩
  · have hx : xs = [] := List.eq_nil_of_length_eq_zero (by simpa using ok.1)
    subst hx
    exact ⟨H, none, 0, Hp.le.refl H, h.drop, rfl, Nat.le_refl _, Nat.zero_le _, .inl rfl, fun h' => h'.rowNil e size⟩
  · obtain ⟨o, ho, h1, h2⟩ := h.freeze (g := g) rfl
    have ho' := ho
    obtain ⟨g', cap', cur, e1, rfl, _, hcm, _, h4⟩ := ho
    have hcm' : cap ≤ maxLen := by injection e1 with _ _ e1; omega
    refine ⟨_, _, cap, H.le_add g _ h1, h2, rfl, hc, hcm', .inr ⟨g, 0, cur, e, (0, 0), rfl, Hp.add_at H g _, fun j u hu => ?_⟩, fun {w' L'} h' => ?_⟩
    · rw [← h4, List.getElem?_take] at hu
      split at hu
      · simpa using hu
      · cases hu
    · have h3 := St.weaken (H.le_add g _ h1) h'
      refine ⟨h3.os, h3.out, h3.tape, h3.fz, fun r hr g2 hk => ?_, List.pairwise_cons.2 ⟨fun s hs g2 hk hk2 => ?_, h3.sep⟩⟩
      · rcases List.mem_cons.1 hr with rfl | hr
        · have hk : some g = some g2 := hk
          injection hk with hk
          subst hk
          exact ⟨h1, _, h'.fz g _ (Hp.add_at H g _), ho'⟩
        · exact h3.own r hr g2 hk
      · have hk : some g = some g2 := hk
        injection hk with hk
        subst hk
        have := (h'.own s hs g hk2).1
        rw [Hp.add_at] at this
        cases this
/-- Bytes that are lent. -/
theorem St.lendBs {bs : List Nat} (h : St H w (row e 1 v n (bs.map encB) :: L)) (ok : RowOk 1 v n (bs.map encB)) (hs : Small bs) (hn : n ≤ 140737488351232) : ∃ H' A c, H.le H' ∧ St H' w L ∧ v = .slice A n c ∧ By H' A n c bs ∧ ∀ {w' L'}, St H' w' L' → St H w' (row e 1 v n (bs.map encB) :: L') := by
  obtain ⟨H', A, c, h1, h2, h3, h4, h4', h5, h6⟩ := h.lendRow ok
  have hl : bs.length = n := by have := ok.1; simpa using this
  refine ⟨H', A, c, h1, h2, h3, ⟨⟨h5, hl, h4, h4', hs⟩, hn⟩, h6⟩
theorem St.lendBsC {A : Option Addr} {c : Nat} {bs : List Nat} (h : St H w (row e 1 (.slice A n c) n (bs.map encB) :: L)) (ok : RowOk 1 (.slice A n c) n (bs.map encB)) (hs : Small bs) (hn : n ≤ 140737488351232) : ∃ H', H.le H' ∧ St H' w L ∧ By H' A n c bs ∧ ∀ {w' L'}, St H' w' L' → St H w' (row e 1 (.slice A n c) n (bs.map encB) :: L') := by
  obtain ⟨H', A', c', h1, h2, h3, h4, h5⟩ := h.lendBs ok hs hn
  injection h3 with e1 e2 e3
  subst e1 e3
  exact ⟨H', h1, h2, h4, h5⟩
theorem NetOk.any {H H' : Hp} {s : NetS} {vb : Value} {cb : List Value} {vt : Value} {ct : List Value} (h : NetOk H s vb cb vt ct) : NetOk H' s vb cb vt ct :=
  ⟨h.n1, h.n16, h.hl, h.hb, h.okb, kPk_any h.hkb, h.okt, kI_any h.hkt, h.len, h.max, h.l0⟩
end
def enP (q : Pk) : Int × Int × List Nat := (q.From, q.To, q.bs)
def en01 (b : List Nat) : Int × Int × List Nat := (0, 1, b)
structure TwoAt (s : NetS) (l : List (List Nat)) (k : List Int) : Prop where
  n : s.n = 2
  hr : s.hr = (netNew 2).hr
  ps : s.ps.map enP = l.map en01
  bi : s.bi = k
  kl : k.length = l.length
  lost : s.lost = 0
section
variable {s : NetS} {l : List (List Nat)} {k : List Int} {i : Int} {b : List Nat} {m j : Nat}
theorem TwoAt.new : TwoAt (netNew 2) [] [] := ⟨rfl, rfl, rfl, rfl, rfl, rfl⟩
theorem TwoAt.len (h : TwoAt s l k) : s.ps.length = l.length := by have := congrArg List.length h.ps; simpa using this
theorem TwoAt.inn (h : TwoAt s l k) (h0 : 0 ≤ i) (h1 : i < 2) : s.isIn i = true := decide_eq_true ⟨h0, by rw [h.n]; exact h1⟩
theorem TwoAt.putE (h : TwoAt s l k) (hl : l.length < 4096) : s.putE 0 1 = 0 := putE_ok (h.inn (by decide) (by decide)) (h.inn (by decide) (by decide)) (by rw [h.len]; omega)
theorem TwoAt.put (h : TwoAt s l k) (hl : l.length < 4096) (b : List Nat) (z : Int) (v : Value) : TwoAt (s.putS 0 1 b z v) (l ++ [b]) (k ++ [z]) := by
  rw [← putS_ok (h.inn (by decide) (by decide)) (h.inn (by decide) (by decide)) (by rw [h.len]; omega)]
  refine ⟨h.n, h.hr, ?_, ?_, by simp [h.kl], h.lost⟩
  · show (s.ps ++ [_]).map enP = _
    rw [List.map_append, List.map_append, h.ps]; rfl
  · show s.bi ++ [z] = _
    rw [h.bi]
theorem TwoAt.get (h : TwoAt s l k) (hb : l[m]? = some b) : ∃ v, s.ps[m]? = some ⟨0, 1, v, b⟩ := by
  have h1 : (s.ps.map enP)[m]? = some (0, 1, b) := by rw [h.ps, List.getElem?_map, hb]; rfl
  rw [List.getElem?_map] at h1
  cases hq : s.ps[m]? with
  | none => rw [hq] at h1; cases h1
  | some q =>
    rw [hq] at h1
    obtain ⟨f, t, v, bs⟩ := q
    have h2 : (f, t, bs) = ((0 : Int), (1 : Int), b) := Option.some.inj h1
    injection h2 with h3 h4
    injection h4 with h4 h5
    subst h3 h4 h5
    exact ⟨v, rfl⟩
theorem TwoAt.at_ (h : TwoAt s l k) (hi : i = (m : Int)) (hb : l[m]? = some b) : (0 ≤ i ∧ i < s.ps.length) ∧ s.peekP i = ⟨0, 1, b⟩ := by
  obtain ⟨v, hv⟩ := h.get hb
  have := (List.getElem?_eq_some_iff.1 hv).1
  exact ⟨by omega, peek_at (p := ⟨0, 1, v, b⟩) (by omega) (by rw [hi, Int.toNat_natCast]; exact hv)⟩
theorem TwoAt.look (h : TwoAt s l k) (hi : i = (m : Int)) (hb : l[m]? = some b) : s.lookE i = 0 := lookE_0 (h.at_ hi hb).1
theorem TwoAt.double (h : TwoAt s l k) (hl : l.length < 4096) (hi : i = (m : Int)) (hb : l[m]? = some b) : s.doubleE i = 0 ∧ ∀ v, TwoAt (s.doubleS i v) (l ++ [b]) (k ++ [k.getD m 0]) := by
  obtain ⟨hin, hp⟩ := h.at_ hi hb
  refine ⟨by rw [(double_yes (v := .slice none 0 0) hin).1, hp]; exact h.putE hl, fun v => ?_⟩
  rw [(double_yes (v := v) hin).2, hp, hi, Int.toNat_natCast, h.bi]; exact h.put hl _ _ _
theorem TwoAt.turn (h : TwoAt s l k) (hi : i = (m : Int)) (hb : l[m]? = some b) (hj : j < 8 * b.length) (hk : k.getD m 0 < 2) : s.turnE i (j : Int) = 0 ∧ TwoAt (s.turnS i (j : Int)) (l.set m (turnB b (j : Int))) (k.set m (k.getD m 0 + 1)) := by
  obtain ⟨v, hv⟩ := h.get hb
  obtain ⟨hin, hp⟩ := h.at_ hi hb
  have hok : s.turnOk i (j : Int) := ⟨hin, by rw [hp]; show (0 : Int) ≤ (j : Int) ∧ (j : Int) < 8 * (b.length : Int); omega⟩
  have hbi : s.bi.getD i.toNat 0 = k.getD m 0 := by rw [hi, Int.toNat_natCast, h.bi]
  have := turnOk1 (p := ⟨0, 1, v, b⟩) hok (by rw [hbi]; omega) (by rw [hi, Int.toNat_natCast]; exact hv)
  refine ⟨this.1, ?_⟩
  rw [← this.2, hbi, hi, Int.toNat_natCast]
  refine ⟨h.n, h.hr, ?_, ?_, by simp [h.kl], h.lost⟩
  · show (s.ps.set m _).map enP = _
    rw [List.map_set, List.map_set, h.ps]; rfl
  · show s.bi.set m _ = _
    rw [h.bi]
theorem TwoAt.hears (h : TwoAt s l k) : s.hears 0 1 = true := by
  have : s.hears 0 1 = (netNew 2).hears 0 1 := by unfold NetS.hears NetS.isIn; rw [h.n, h.hr]; rfl
  rw [this]; exact hears_new (by decide) (by decide) (by decide) (by decide)
theorem map_eraseIdx' {α β : Type} (f : α → β) (l : List α) (m : Nat) : (l.eraseIdx m).map f = (l.map f).eraseIdx m := by
  rw [List.eraseIdx_eq_take_drop_succ, List.eraseIdx_eq_take_drop_succ, List.map_append, List.map_take, List.map_drop]
theorem TwoAt.take (h : TwoAt s l k) (hi : i = (m : Int)) (hb : l[m]? = some b) : s.takeE i = 0 ∧ s.takeP i = ⟨0, 1, b⟩ ∧ TwoAt (s.takeS i) (l.eraseIdx m) (k.eraseIdx m) := by
  obtain ⟨hin, hp⟩ := h.at_ hi hb
  have ht := take_yes hin (by rw [hp]; exact h.hears)
  refine ⟨ht.1, by rw [ht.2.1, hp], ?_⟩
  rw [← ht.2.2, hi, Int.toNat_natCast]
  have hm := (List.getElem?_eq_some_iff.1 hb).1
  refine ⟨h.n, h.hr, ?_, ?_, ?_, h.lost⟩
  · show (s.ps.eraseIdx m).map enP = _
    rw [map_eraseIdx', map_eraseIdx', h.ps]
  · show s.bi.eraseIdx m = _
    rw [h.bi]
  · rw [List.length_eraseIdx_of_lt (by rw [h.kl]; omega), List.length_eraseIdx_of_lt hm, h.kl]
end
theorem turnB_ne {p : List Nat} {j : Nat} (hj : j < 8 * p.length) : turnB p (j : Int) ≠ p := by
  intro h
  unfold turnB at h
  rw [Int.toNat_natCast] at h
  have hl : j / 8 < p.length := by omega
  have h1 := congrArg (fun l : List Nat => l.getD (j / 8) 0) h
  simp only [List.getD_eq_getElem?_getD] at h1
  rw [List.getElem?_set_self hl, List.getElem?_eq_getElem hl] at h1
  simp only [Option.getD_some] at h1
  have h2 : p[j / 8] ^^^ (p[j / 8] ^^^ (1 * 2 ^ (j % 8) % 256)) = p[j / 8] ^^^ p[j / 8] := congrArg (fun z => p[j / 8] ^^^ z) h1
  rw [← Nat.xor_assoc, Nat.xor_self, Nat.zero_xor] at h2
  have h3 : j % 8 < 8 := Nat.mod_lt _ (by decide)
  have h4 : ∀ z, z < 8 → 1 * 2 ^ z % 256 ≠ 0 := by decide
  exact h4 _ h3 h2
theorem small_turn {p : List Nat} (h : Small p) (k : Int) : Small (turnB p k) :=
  h.set _ (Nat.xor_lt_two_pow (n := 8) (h.getD _) (Nat.mod_lt _ (by decide)))
theorem turnB_str {p : List Nat} {j : Nat} (h : Small p) (hj : j < 8 * p.length) : ¬ bstr (turnB p (j : Int)) = bstr p := fun e => turnB_ne hj ((bstr_inj (small_turn h _) h).1 e)
/-- The messages of a list, each with its place ahead. -/
def msgs (l : List (List Nat)) (J : List Nat) : List (List Nat) := J.map (fun k => k :: l.getD k [])
theorem msgs_get {l : List (List Nat)} {J : List Nat} {m z : Nat} (h : J[m]? = some z) : (msgs l J)[m]? = some (z :: l.getD z []) := by unfold msgs; rw [List.getElem?_map, h]; rfl
theorem msgs_erase (l : List (List Nat)) (J : List Nat) (m : Nat) : (msgs l J).eraseIdx m = msgs l (J.eraseIdx m) := (map_eraseIdx' _ _ _).symm
theorem msgs_snoc (l : List (List Nat)) (i : Nat) : msgs l (List.range i) ++ [i :: l.getD i []] = msgs l (List.range (i + 1)) := by unfold msgs; rw [List.range_succ, List.map_append]; rfl
theorem msgs_len (l : List (List Nat)) (J : List Nat) : (msgs l J).length = J.length := List.length_map ..
structure PicksAt (J : List Nat) (seen : List Bool) (n i : Nat) : Prop where
  len : J.length = n - i
  nod : J.Nodup
  lt : ∀ z ∈ J, z < n
  new : ∀ z ∈ J, seen.getD z false = false
  sl : seen.length = n
section
variable {J : List Nat} {seen : List Bool} {n i m z : Nat}
theorem PicksAt.start (n : Nat) : PicksAt (List.range n) (List.replicate n false) n 0 :=
  ⟨by simp, List.nodup_range, fun z hz => List.mem_range.1 hz, fun z hz => by
    rw [List.getD_eq_getElem?_getD, List.getElem?_replicate]
    split <;> rfl, by simp⟩
theorem PicksAt.next (h : PicksAt J seen n i) (hz : J[m]? = some z) : PicksAt (J.eraseIdx m) (seen.set z true) n (i + 1) := by
  have hm := (List.getElem?_eq_some_iff.1 hz)
  obtain ⟨hm, rfl⟩ := hm
  refine ⟨by rw [List.length_eraseIdx_of_lt hm, h.len]; omega, h.nod.sublist (List.eraseIdx_sublist ..), fun z hz => h.lt z (List.mem_of_mem_eraseIdx hz), fun z hz => ?_, by rw [List.length_set]; exact h.sl⟩
  have hne : J[m] ≠ z := by
    intro e
    subst e
    obtain ⟨q, hq, hqe⟩ := List.mem_eraseIdx_iff_getElem.1 hz
    exact hqe.1 ((List.getElem?_inj hq h.nod).1 (by rw [List.getElem?_eq_getElem hq, List.getElem?_eq_getElem hm, hqe.2]))
  rw [List.getD_eq_getElem?_getD, List.getElem?_set, if_neg hne, ← List.getD_eq_getElem?_getD]
  exact h.new z (List.mem_of_mem_eraseIdx hz)
end
theorem range_from {n i : Nat} (h : i < n) : (List.range' i (n - i))[0]? = some i ∧ (List.range' i (n - i)).eraseIdx 0 = List.range' (i + 1) (n - (i + 1)) := by
  obtain ⟨d, hd⟩ : ∃ d, n - i = d + 1 := ⟨n - i - 1, by omega⟩
  rw [hd, List.range'_succ, show n - (i + 1) = d by omega]
  exact ⟨rfl, rfl⟩
end Go.FM
