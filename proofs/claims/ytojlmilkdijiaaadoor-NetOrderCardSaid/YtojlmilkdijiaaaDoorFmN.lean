/- A net in memory: packets whose bytes are rows of their own. -/
import Derived.Test.YtojlmilkdijiaaaDoorFmT
import Derived.Test.YtojlmilkdijiaaaDoorFmM4b
import Derived.Test.YtojlmilkdijiaaaDoorFmV
set_option linter.unusedVariables false
set_option linter.unusedSimpArgs false
namespace Go.FM
open Go
/-- A packet whose bytes are a row of one's own. -/
structure Pk where
  From : Int
  To : Int
  v : Value
  bs : List Nat
def kPk : Kd Pk where
  sz := 3
  pos := by decide
  rep _ p cs := cs = [.int .i64 p.From, .int .i64 p.To, p.v] ∧ IB p.From ∧ IB p.To ∧ RowOk 1 p.v p.bs.length (p.bs.map encB) ∧ Small p.bs ∧ p.bs.length ≤ 140737488351232
  len h := by rw [h.1]; rfl
  one h := by
    obtain ⟨rfl, _, _, hok, _⟩ := h
    obtain ⟨A, c, hv, _⟩ := hok.slice
    simp [Value.oneCell', hv]
  mono _ h := h
  bts := 40
  bts0 := by decide
def pkRes (TB : Nat) (p : Pk) : Res := row TB 1 p.v p.bs.length (p.bs.map encB)
structure NetS where
  n : Int
  hr : List Nat
  ps : List Pk
  bi : List Int
  lost : Int
def encH (x : Nat) : Value := .int .u16 ((x : Nat) : Int)
def netCells (n : Int) (vb vt : Value) (hr : List Nat) (lost : Int) : List Value := .int .i64 n :: vb :: vt :: (hr.map encH ++ [.int .i64 lost])
def netG (TN TP TI TB : Nat) (g : Nat) (s : NetS) (vb : Value) (cb : List Value) (vt : Value) (ct : List Value) (L : List Res) : List Res :=
  obj g TN (netCells s.n vb vt s.hr s.lost) :: row TP 3 vb s.ps.length cb :: row TI 1 vt s.bi.length ct :: (s.ps.map (pkRes TB) ++ L)
structure NetOk (H : Hp) (s : NetS) (vb : Value) (cb : List Value) (vt : Value) (ct : List Value) : Prop where
  n1 : 1 ≤ s.n
  n16 : s.n ≤ 16
  hl : s.hr.length = 16
  hb : ∀ x ∈ s.hr, x < 65536
  okb : RowOk 3 vb s.ps.length cb
  hkb : kPk.toKn.rows H s.ps cb
  okt : RowOk 1 vt s.bi.length ct
  hkt : kI.toKn.rows H s.bi ct
  len : s.bi.length = s.ps.length
  max : s.ps.length ≤ 4096
  l0 : 0 ≤ s.lost
theorem NetOk.mono {H H' : Hp} {s : NetS} {vb : Value} {cb : List Value} {vt : Value} {ct : List Value} (h : NetOk H s vb cb vt ct) (hl : H.le H') : NetOk H' s vb cb vt ct :=
  ⟨h.n1, h.n16, h.hl, h.hb, h.okb, Kn.rows_mono h.hkb hl, h.okt, Kn.rows_mono h.hkt hl, h.len, h.max, h.l0⟩
theorem NetOk.hrd {H : Hp} {s : NetS} {vb : Value} {cb : List Value} {vt : Value} {ct : List Value} (h : NetOk H s vb cb vt ct) (i : Nat) : s.hr.getD i 0 < 65536 := by
  rw [List.getD_eq_getElem?_getD]
  cases e : s.hr[i]? with
  | none => simp
  | some x => simpa using h.hb x (List.mem_of_getElem? e)
section
variable {n lost : Int} {vb vt : Value} {hr : List Nat} {i x : Nat}
theorem net_hear (hl : hr.length = 16) (hi : i < 16) : (netCells n vb vt hr lost)[3 + i]? = some (.int .u16 ((hr.getD i 0 : Nat) : Int)) := by
  unfold netCells
  rw [show 3 + i = i + 1 + 1 + 1 by omega]
  simp only [List.getElem?_cons_succ]
  rw [List.getElem?_append_left (by simp; omega), List.getElem?_map, List.getD_eq_getElem?_getD, List.getElem?_eq_getElem (by omega)]
  rfl
theorem net_lost (hl : hr.length = 16) : (netCells n vb vt hr lost)[19]? = some (.int .i64 lost) := by
  unfold netCells
  simp only [List.getElem?_cons_succ]
  rw [List.getElem?_append_right (by simp; omega)]
  simp [hl]
theorem net_len (hl : hr.length = 16) : (netCells n vb vt hr lost).length = 20 := by simp [netCells, hl]
theorem net_setH (hl : hr.length = 16) (hi : i < 16) : splice (netCells n vb vt hr lost) (3 + i) [.int .u16 ((x : Nat) : Int)] = netCells n vb vt (hr.set i x) lost := by
  apply List.ext_getElem?
  intro j
  rw [splice_get (by rw [net_len hl]; simp; omega)]
  by_cases h1 : j < 3
  · rw [if_neg (by omega)]
    match j, h1 with
    | 0, _ => rfl
    | 1, _ => rfl
    | 2, _ => rfl
  · obtain ⟨k, rfl⟩ : ∃ k, j = k + 1 + 1 + 1 := ⟨j - 3, by omega⟩
    unfold netCells
    simp only [List.getElem?_cons_succ, List.length_singleton]
    by_cases h2 : k < 16
    · rw [List.getElem?_append_left (by simp; omega), List.getElem?_append_left (by simp; omega), List.getElem?_map, List.getElem?_map, List.getElem?_set]
      by_cases h3 : i = k
      · subst h3
        rw [if_pos (by omega), if_pos rfl, if_pos (by omega), show i + 1 + 1 + 1 - (3 + i) = 0 by omega]; rfl
      · rw [if_neg (by omega), if_neg h3]
    · rw [if_neg (by omega), List.getElem?_append_right (by simp; omega), List.getElem?_append_right (by simp; omega)]
      simp
theorem net_setL (hl : hr.length = 16) (y : Int) : splice (netCells n vb vt hr lost) 19 [.int .i64 y] = netCells n vb vt hr y := by
  apply List.ext_getElem?
  intro j
  rw [splice_get (by rw [net_len hl]; simp)]
  by_cases h1 : j < 3
  · rw [if_neg (by omega)]
    match j, h1 with
    | 0, _ => rfl
    | 1, _ => rfl
    | 2, _ => rfl
  · obtain ⟨k, rfl⟩ : ∃ k, j = k + 1 + 1 + 1 := ⟨j - 3, by omega⟩
    unfold netCells
    simp only [List.getElem?_cons_succ, List.length_singleton]
    by_cases h2 : k < 16
    · rw [if_neg (by omega), List.getElem?_append_left (by simp; omega), List.getElem?_append_left (by simp; omega)]
    · by_cases h3 : k = 16
      · subst h3
        rw [if_pos (by omega), List.getElem?_append_right (by simp; omega)]
        simp [hl]
      · rw [if_neg (by omega), List.getElem?_eq_none (by simp; omega), List.getElem?_eq_none (by simp; omega)]
theorem net_setB (v : Value) : splice (netCells n vb vt hr lost) 1 [v] = netCells n v vt hr lost := rfl
theorem net_setT (v : Value) : splice (netCells n vb vt hr lost) 2 [v] = netCells n vb v hr lost := rfl
end
section
variable {TN TP TI TB g g' : Nat} {s s' : NetS} {vb vt vb' vt' : Value} {cb ct cb' ct' : List Value} {L M : List Res} {H : Hp} {w : World}
theorem netG_perm (rs : List Res) : (rs ++ netG TN TP TI TB g s vb cb vt ct L).Perm (netG TN TP TI TB g s vb cb vt ct (rs ++ L)) := by
  unfold netG
  refine (List.perm_middle (l₁ := rs)).trans (List.Perm.cons _ ?_)
  refine (List.perm_middle (l₁ := rs)).trans (List.Perm.cons _ ?_)
  refine (List.perm_middle (l₁ := rs)).trans (List.Perm.cons _ ?_)
  rw [← List.append_assoc, ← List.append_assoc]
  exact List.Perm.append_right L List.perm_append_comm
theorem netG_congr (h : L.Perm M) : (netG TN TP TI TB g s vb cb vt ct L).Perm (netG TN TP TI TB g s vb cb vt ct M) := by
  unfold netG
  exact ((h.append_left _).cons _ |>.cons _ |>.cons _)
theorem netG_swap {TN' TP' TI' TB' : Nat} : (netG TN TP TI TB g s vb cb vt ct (netG TN' TP' TI' TB' g' s' vb' cb' vt' ct' L)).Perm (netG TN' TP' TI' TB' g' s' vb' cb' vt' ct' (netG TN TP TI TB g s vb cb vt ct L)) := by
  have h := netG_perm (TN := TN') (TP := TP') (TI := TI') (TB := TB') (g := g') (s := s') (vb := vb') (cb := cb') (vt := vt') (ct := ct') (L := L) (obj g TN (netCells s.n vb vt s.hr s.lost) :: row TP 3 vb s.ps.length cb :: row TI 1 vt s.bi.length ct :: s.ps.map (pkRes TB))
  exact h
theorem St.netUp (rs : List Res) (h : St H w (rs ++ netG TN TP TI TB g s vb cb vt ct L)) : St H w (netG TN TP TI TB g s vb cb vt ct (rs ++ L)) := h.perm (netG_perm rs)
theorem St.netDown (rs : List Res) (h : St H w (netG TN TP TI TB g s vb cb vt ct (rs ++ L))) : St H w (rs ++ netG TN TP TI TB g s vb cb vt ct L) := h.perm (netG_perm rs).symm
theorem St.netUp2 {TN' TP' TI' TB' : Nat} (rs : List Res) (h : St H w (rs ++ netG TN TP TI TB g s vb cb vt ct (netG TN' TP' TI' TB' g' s' vb' cb' vt' ct' L))) : St H w (netG TN' TP' TI' TB' g' s' vb' cb' vt' ct' (rs ++ netG TN TP TI TB g s vb cb vt ct L)) :=
  h.perm (((netG_swap).append_left rs).trans (netG_perm rs))
theorem St.netDown2 {TN' TP' TI' TB' : Nat} (rs : List Res) (h : St H w (netG TN' TP' TI' TB' g' s' vb' cb' vt' ct' (rs ++ netG TN TP TI TB g s vb cb vt ct L))) : St H w (rs ++ netG TN TP TI TB g s vb cb vt ct (netG TN' TP' TI' TB' g' s' vb' cb' vt' ct' L)) :=
  h.perm ((netG_perm rs).symm.trans ((netG_swap).append_left rs))
/-- A net is let go. -/
theorem St.netDrop (h : St H w (netG TN TP TI TB g s vb cb vt ct L)) : St H w L := by
  unfold netG at h
  exact St.tail (L' := s.ps.map (pkRes TB)) h.drop.drop.drop
/-- One packet more. -/
theorem St.pkSnoc {a b c : Res} {p : Pk} {ps : List Pk} (h : St H w (a :: b :: c :: pkRes TB p :: (ps.map (pkRes TB) ++ L))) : St H w (a :: b :: c :: ((ps ++ [p]).map (pkRes TB) ++ L)) := by
  refine h.perm (List.Perm.cons _ (List.Perm.cons _ (List.Perm.cons _ ?_)))
  rw [List.map_append, List.append_assoc]
  exact (List.perm_middle (a := pkRes TB p) (l₁ := ps.map (pkRes TB)) (l₂ := L)).symm
theorem perm_pickG {α : Type} : ∀ (L : List α) (i : Nat) (h : i < L.length), L.Perm (L[i] :: L.eraseIdx i)
  | _ :: _, 0, _ => by simp
  | x :: L, i + 1, h => by
    simp only [List.getElem_cons_succ, List.eraseIdx_cons_succ]
    exact ((perm_pickG L i (by simpa using h)).cons x).trans (List.Perm.swap ..)
/-- A packet taken out of the bundle. -/
theorem St.pkOut {rs : List Res} {ps : List Pk} {i : Nat} {p : Pk} (h : St H w (rs ++ (ps.map (pkRes TB) ++ L))) (hp : ps[i]? = some p) : St H w (pkRes TB p :: (rs ++ ((ps.eraseIdx i).map (pkRes TB) ++ L))) := by
  obtain ⟨hi, rfl⟩ := List.getElem?_eq_some_iff.1 hp
  refine h.perm ?_
  have h1 := (perm_pickG ps i hi).map (pkRes TB)
  have h2 : (ps.map (pkRes TB) ++ L).Perm (pkRes TB ps[i] :: ((ps.eraseIdx i).map (pkRes TB) ++ L)) := h1.append_right L
  exact (h2.append_left rs).trans List.perm_middle
/-- .. and put back, with other bytes. -/
theorem St.pkIn {rs : List Res} {ps : List Pk} {i : Nat} {p q : Pk} (h : St H w (pkRes TB q :: (rs ++ ((ps.eraseIdx i).map (pkRes TB) ++ L)))) (hp : ps[i]? = some p) : St H w (rs ++ ((ps.set i q).map (pkRes TB) ++ L)) := by
  obtain ⟨hi, rfl⟩ := List.getElem?_eq_some_iff.1 hp
  refine h.perm ?_
  have hi' : i < (ps.set i q).length := by simpa using hi
  have h1 := (perm_pickG (ps.set i q) i hi').map (pkRes TB)
  have e1 : (ps.set i q)[i] = q := by simp
  have e2 : (ps.set i q).eraseIdx i = ps.eraseIdx i := by
    apply List.ext_getElem?
    intro j
    rw [List.getElem?_eraseIdx, List.getElem?_eraseIdx]
    split
    · rw [List.getElem?_set, if_neg (by omega)]
    · rw [List.getElem?_set, if_neg (by omega)]
  rw [e1, e2] at h1
  have h2 : ((ps.set i q).map (pkRes TB) ++ L).Perm (pkRes TB q :: ((ps.eraseIdx i).map (pkRes TB) ++ L)) := h1.append_right L
  exact ((h2.append_left rs).trans List.perm_middle).symm
end
end Go.FM
namespace Go.FM
theorem set_hb {l : List Nat} {i x : Nat} (h : ∀ y ∈ l, y < 65536) (hx : x < 65536) : ∀ y ∈ l.set i x, y < 65536 := fun y hy => by
  rcases List.mem_or_eq_of_mem_set hy with h1 | h1
  · exact h y h1
  · rw [h1]; exact hx
theorem set_len {l : List Nat} {i x : Nat} (h : l.length = 16) : (l.set i x).length = 16 := by rw [List.length_set]; exact h
def NetS.isIn (s : NetS) (i : Int) : Bool := decide (0 ≤ i ∧ i < s.n)
def NetS.hears (s : NetS) (a b : Int) : Bool := s.isIn a && has (s.hr.getD a.toNat 0) b
def NetS.cls (s : NetS) (i : Int) : Nat := if s.isIn i = true then (if (lst (s.hr.getD i.toNat 0)).all (fun k => decide (s.hr.getD k 0 = s.hr.getD i.toNat 0)) then s.hr.getD i.toNat 0 else 0) else 0
def NetS.setE (s : NetS) (a b : Int) : Bool := s.isIn a && s.isIn b && decide (a ≠ b)
def NetS.setH (f : Nat → Int → Nat) (s : NetS) (a b : Int) : NetS := if s.setE a b = true then NetS.mk s.n ((s.hr.set a.toNat (f (s.hr.getD a.toNat 0) b)).set b.toNat (f (s.hr.getD b.toNat 0) a)) s.ps s.bi s.lost else s
def netNew (n : Int) : NetS := NetS.mk n (List.replicate n.toNat (2 ^ n.toNat - 1) ++ List.replicate (16 - n.toNat) 0) [] [] 0
theorem isIn_t {s : NetS} {i : Int} (h : s.isIn i = true) : 0 ≤ i ∧ i < s.n := of_decide_eq_true h
theorem isIn_f {s : NetS} {i : Int} (h : s.isIn i = false) : ¬ (0 ≤ i ∧ i < s.n) := of_decide_eq_false h
theorem setE_f {s : NetS} {a b : Int} (h : s.isIn a = false ∨ s.isIn b = false ∨ a = b) : s.setE a b = false := by
  unfold NetS.setE
  rcases h with h | h | h
  · rw [h]; rfl
  · rw [h]; simp
  · subst h; simp
theorem setE_t {s : NetS} {a b : Int} (h1 : s.isIn a = true) (h2 : s.isIn b = true) (h3 : ¬ a = b) : s.setE a b = true := by
  unfold NetS.setE; rw [h1, h2]; simp [h3]
theorem new_step {m i : Nat} (h : i < 16) : (List.replicate i m ++ List.replicate (16 - i) 0).set i m = List.replicate (i + 1) m ++ List.replicate (16 - (i + 1)) 0 := by
  rw [List.set_append_right _ _ (by simp), List.length_replicate, Nat.sub_self, show 16 - i = (16 - (i + 1)) + 1 by omega, List.replicate_succ, List.set_cons_zero, List.replicate_succ', List.append_assoc]
  rfl
theorem new_hb {m i k : Nat} (hm : m < 65536) : ∀ y ∈ List.replicate i m ++ List.replicate k 0, y < 65536 := fun y hy => by
  rcases List.mem_append.1 hy with h | h
  · rw [List.eq_of_mem_replicate h]; exact hm
  · rw [List.eq_of_mem_replicate h]; decide
theorem mask16 {k : Nat} (h : k ≤ 16) : 2 ^ k - 1 < 65536 := by
  have : 2 ^ k ≤ 2 ^ 16 := Nat.pow_le_pow_right (by decide) h
  omega
theorem lst_mem16 {s j z : Nat} (h : (lst s)[j]? = some z) : z < 16 := by
  have := has_in (has_lst.1 (List.mem_of_getElem? h)); omega
theorem netNew_len {n : Int} (h1 : 1 ≤ n) (h2 : n ≤ 16) : (netNew n).hr.length = 16 := by simp [netNew]; omega
theorem netNew_hb {n : Int} (h2 : n ≤ 16) : ∀ x ∈ (netNew n).hr, x < 65536 := new_hb (mask16 (by omega))
theorem cls_out {s : NetS} {i : Int} (h : s.isIn i = false) : s.cls i = 0 := by unfold NetS.cls; rw [h]; rfl
theorem cls_no {s : NetS} {i : Int} {j z : Nat} (hj : (lst (s.hr.getD i.toNat 0))[j]? = some z) (h : s.hr.getD z 0 ≠ s.hr.getD i.toNat 0) : s.cls i = 0 := by
  unfold NetS.cls
  split
  · rw [if_neg]
    intro ha
    have := List.all_eq_true.1 ha z (List.mem_of_getElem? hj)
    exact h (by simpa using this)
  · rfl
theorem cls_yes {s : NetS} {i : Int} {j : Nat} (h1 : s.isIn i = true) (ha : ∀ (k z : Nat), k < j → (lst (s.hr.getD i.toNat 0))[k]? = some z → decide (s.hr.getD z 0 = s.hr.getD i.toNat 0) = true) (hj : (lst (s.hr.getD i.toNat 0)).length ≤ j) : s.cls i = s.hr.getD i.toNat 0 := by
  unfold NetS.cls
  rw [if_pos h1, if_pos]
  rw [List.all_eq_true]
  intro z hz
  obtain ⟨k, hk, rfl⟩ := List.mem_iff_getElem.1 hz
  exact ha k _ (by omega) (List.getElem?_eq_getElem hk)
theorem nodes_next {p : Nat → Bool} {l : List Nat} {i x : Nat} (ha : ∀ (j y : Nat), j < i → l[j]? = some y → p y = true) (hx : l[i]? = some x) (hp : p x = true) : ∀ (j y : Nat), j < i + 1 → l[j]? = some y → p y = true := by
  intro j y hj hy
  by_cases h : j < i
  · exact ha j y h hy
  · obtain rfl : j = i := by omega
    rw [hx] at hy; injection hy with hy; subst hy; exact hp
end Go.FM
namespace Go.FM
theorem getD_hb {l : List Nat} (h : ∀ y ∈ l, y < 65536) (i : Nat) : l.getD i 0 < 65536 := by
  rw [List.getD_eq_getElem?_getD]
  cases e : l[i]? with
  | none => simp
  | some x => simpa using h x (List.mem_of_getElem? e)
end Go.FM
namespace Go.FM
open Go
section
variable {TN TP TI TB g : Nat} {s : NetS} {vb vt : Value} {cb ct : List Value} {L : List Res} {H : Hp} {w : World}
theorem St.netFold (rs : List Res) (h : St H w (obj g TN (netCells s.n vb vt s.hr s.lost) :: row TP 3 vb s.ps.length cb :: row TI 1 vt s.bi.length ct :: (rs ++ (s.ps.map (pkRes TB) ++ L)))) : St H w (netG TN TP TI TB g s vb cb vt ct (rs ++ L)) := by
  refine h.perm (List.Perm.cons _ (List.Perm.cons _ (List.Perm.cons _ ?_)))
  rw [← List.append_assoc, ← List.append_assoc]
  exact List.Perm.append_right L List.perm_append_comm
theorem St.netUnfold (rs : List Res) (h : St H w (netG TN TP TI TB g s vb cb vt ct (rs ++ L))) : St H w (obj g TN (netCells s.n vb vt s.hr s.lost) :: row TP 3 vb s.ps.length cb :: row TI 1 vt s.bi.length ct :: (rs ++ (s.ps.map (pkRes TB) ++ L))) := by
  refine h.perm (List.Perm.cons _ (List.Perm.cons _ (List.Perm.cons _ ?_)))
  rw [← List.append_assoc, ← List.append_assoc]
  exact List.Perm.append_right L List.perm_append_comm
end
end Go.FM
