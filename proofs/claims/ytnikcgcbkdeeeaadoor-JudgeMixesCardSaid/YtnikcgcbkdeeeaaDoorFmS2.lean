/- Bytes appended, arrays of four bytes, literals of bytes. -/
import Derived.Test.YtnikcgcbkdeeeaaDoorFmS
set_option linter.unusedVariables false
set_option linter.unusedSimpArgs false
namespace Go.FM
open Go
section
variable {P : Program} {N : Nat} {ρ : Nat → Value} {H : Hp} {w w' : World} {L : List Res} {t ty e n m c src dst : Nat} {A : Option Addr} {x y : Operand} {bs l : List Nat} {v : Value}
theorem m_appBs (hu : P.underlying t = some (.slice e)) (hi : Inf P e (.int .u8 0) 1 1) (h : St H w (row e 1 v n (l.map encB) :: L)) (ok : RowOk 1 v n (l.map encB)) (hx : Ev N ρ x v) (hy : Ev N ρ y (.slice A m c)) (hb : Bs H A m c bs) (hm : n + m ≤ 140737488355328) :
    ∃ v' w', Ex P N ρ w (.call { callee := .builtin .append, args := #[x, y], argTypes := #[t, t] }) ty v' w' ∧ RowOk 1 v' (n + m) ((l ++ bs).map encB) ∧ St H w' (row e 1 v' (n + m) ((l ++ bs).map encB) :: L) := by
  rcases hb.at_ with rfl | ⟨b, off, rfl, hat⟩
  · have hl : m = 0 := by rw [← hb.len]; rfl
    subst hl
    obtain ⟨i0, e1, _⟩ := hi
    exact ⟨v, w, m_append0 hu e1 h ok hx hy, by simpa using ok, by simpa using h⟩
  · rw [List.map_append]
    refine m_app hu hi rfl (by decide) h ok hx hy (by simp [hb.len]) (hat h) (one_encB bs) (by omega) (by decide)
theorem m_appNil (hu : P.underlying t = some (.slice e)) (hi : Inf P e (.int .u8 0) 1 1) (h : St H w L) (hx : Ev N ρ x (.slice none 0 0)) (hy : Ev N ρ y (.slice A m c)) (hb : Bs H A m c bs) (hm : m ≤ 140737488355328) :
    ∃ v' w', Ex P N ρ w (.call { callee := .builtin .append, args := #[x, y], argTypes := #[t, t] }) ty v' w' ∧ RowOk 1 v' m (bs.map encB) ∧ St H w' (row e 1 v' m (bs.map encB) :: L) := by
  have := m_appBs (l := []) (ty := ty) hu hi (h.rowNil e 1) (RowOk.nil 1) hx hy hb (by omega)
  simpa using this
/-- Of an array variable, all. -/
theorem x_sliceArr (ha : P.underlying t = some (.array n e)) {b o : Nat} (hi : Inf P e v 1 c) (hx : Ev N ρ x (.pointer (some ⟨b, o, none⟩))) :
    Ex P N ρ w (.slice t x none none none) ty (.slice (some ⟨b, o, none⟩) n n) w := fun _ _ _ _ => by
  have h1 : (en N ρ).eval x = .pointer (some ⟨b, o, none⟩) := hx
  obtain ⟨i0, e1, _, e3, _⟩ := hi
  have : (Instr.sliceAt t (.pointer (some ⟨b, o, none⟩)) none none none).run P w = .ok (.slice (some ⟨b, o, none⟩) n n) w := by
    simp only [Instr.sliceAt, Sem.run_bind, run_underlying ha, Result.andThen_ok, Instr.sureAddr, Sem.run_pure]
    simp [Instr.sliceBounds, sizeOf, typeInfo, e1, e3]
    intro h0
    exact add_none b o 0
  simp [execOp, h1, this]
theorem x_toArray (ha : P.underlying t = some (.array n e)) (hx : Ev N ρ x (.slice A m c)) (hn : n ≤ m) : Ex P N ρ w (.sliceToArrayPointer t x) ty (.pointer A) w := fun _ _ _ _ => by
  have h1 : (en N ρ).eval x = .slice A m c := hx
  simp [execOp, h1, run_arrayAt w t e n A m c ha hn]
theorem run_eqArr4 (d : Nat) (ha : P.underlying t = some (.array 4 e)) (he : P.underlying e = some (.int .u8)) (hs : scalarT P e = true) (hi : Inf P e (.int .u8 0) 1 1) (a0 a1 a2 a3 b0 b1 b2 b3 : Int) :
    (Op.equalIn (d + 2) t (.agg #[.int .u8 a0, .int .u8 a1, .int .u8 a2, .int .u8 a3]) (.agg #[.int .u8 b0, .int .u8 b1, .int .u8 b2, .int .u8 b3])).run P w =
      .ok (a0 == b0 && (a1 == b1 && (a2 == b2 && a3 == b3))) w := by
  obtain ⟨i0, e1, _, e3, _⟩ := hi
  have p0 : ∀ (z0 z1 z2 z3 : Value), (part e #[z0, z1, z2, z3] 0).run P w = .ok z0 w := fun z0 z1 z2 z3 => part_one hs rfl
  have p1 : ∀ (z0 z1 z2 z3 : Value), (part e #[z0, z1, z2, z3] 1).run P w = .ok z1 w := fun z0 z1 z2 z3 => part_one hs rfl
  have p2 : ∀ (z0 z1 z2 z3 : Value), (part e #[z0, z1, z2, z3] 2).run P w = .ok z2 w := fun z0 z1 z2 z3 => part_one hs rfl
  have p3 : ∀ (z0 z1 z2 z3 : Value), (part e #[z0, z1, z2, z3] 3).run P w = .ok z3 w := fun z0 z1 z2 z3 => part_one hs rfl
  have q : ∀ a b : Int, (Op.equalIn (d + 1) e (.int .u8 a) (.int .u8 b)).run P w = .ok (a == b) w := fun a b => eq_int' he a b
  have hr : List.range' 0 4 1 = [0, 1, 2, 3] := rfl
  rw [Op.equalIn]
  simp only [Sem.run_bind, run_underlying ha, Result.andThen_ok, sizeOf, typeInfo]
  simp [e1, e3, Std.Legacy.Range.forIn_eq_forIn_range', Std.Legacy.Range.size, hr, p0, p1, p2, p3, q]
  by_cases h0 : a0 = b0 <;> by_cases h1 : a1 = b1 <;> by_cases h2 : a2 = b2 <;> by_cases h3 : a3 = b3 <;> simp [h0, h1, h2, h3, p0, p1, p2, p3, q]
/-- A literal of bytes: what it holds stays from now on. -/
theorem m_litBytes {g T : Nat} {cs : List Value} (hu : P.underlying t = some (.slice e)) (he : P.underlying e = some (.int .u8)) (h : St H w (obj g T cs :: L)) (hx : Ev N ρ x (.slice (some ⟨g, 0, none⟩) n c)) :
    ∃ v' w', Ex P N ρ w (.convert t t x) ty v' w' ∧ v' = .slice (some ⟨g, 0, none⟩) n c ∧ ∃ H', H.le H' ∧ St H' w' L ∧ Rd H' (some ⟨g, 0, none⟩) cs := by
  have h1 : (en N ρ).eval x = .slice (some ⟨g, 0, none⟩) n c := hx
  have hg := h.heapAt
  have hlt : g < w.heap.size := (Array.getElem?_eq_some_iff.1 hg).1
  have hsh : w.shape? g = some (T, cs.toArray.size) := by simp [World.shape?, hg]
  let w' := w.freeze { block := g, off := cs.toArray.size } 1
  have hr : (convert t t (.slice (some ⟨g, 0, none⟩) n c)).run P w = .ok (.slice (some ⟨g, 0, none⟩) n c) w' := by
    simp [convert, run_underlying hu, run_underlying he, markStringish, hsh, w']
  have hw' : St H w' (⟨some g, fun o => o = .cells cs.toArray T (cs.toArray.size, cs.toArray.size + 1)⟩ :: L) := by
    refine h.write (g := g) (o := .cells cs.toArray T (cs.toArray.size, cs.toArray.size + 1)) rfl rfl rfl rfl (fun b hb hne => ?_) ?_ rfl
    · show (w.freeze _ 1).heap[b]? = _
      simp only [World.freeze, Nat.one_ne_zero, if_false, Array.getElem?_modify]
      rw [if_neg (fun e => hne e.symm)]
    · show (w.freeze _ 1).heap[g]? = _
      simp only [World.freeze, Nat.one_ne_zero, if_false, Array.getElem?_modify]
      rw [if_pos trivial, hg]
      simp
  obtain ⟨o, rfl, h2, h3⟩ := hw'.freeze (g := g) rfl
  exact ⟨_, w', fun _ _ _ _ => by simp [execOp, h1, hr], rfl, _, H.le_add g _ h2, h3, .inr ⟨g, 0, _, T, _, rfl, Hp.add_at H g _, fun j u hu => by simpa using hu⟩⟩
theorem bs_h {a : Int} {k : IntKind} {hi_ : Operand} (hu : P.underlying t = some (.slice e)) (hi : Inf P e (.int .u8 0) 1 1) (hx : Ev N ρ x (.slice A n c)) (hh : Ev N ρ hi_ (.int k a)) (h0 : 0 ≤ a) (h2 : a ≤ c) :
    Ex P N ρ w (.slice t x none (some hi_) none) ty (.slice A a.toNat c) w := by
  obtain ⟨i0, e1, _⟩ := hi
  exact x_slice_h hu e1 hx hh h0 h2
theorem bs_l {a : Int} {k : IntKind} {lo : Operand} (hu : P.underlying t = some (.slice e)) (hi : Inf P e (.int .u8 0) 1 1) (hx : Ev N ρ x (.slice A n c)) (hl : Ev N ρ lo (.int k a)) (h0 : 0 ≤ a) (h1 : a ≤ n) (h2 : n ≤ c) :
    Ex P N ρ w (.slice t x (some lo) none none) ty (.slice (cutA A c a.toNat 1) (n - a.toNat) (c - a.toNat)) w := by
  obtain ⟨i0, e1, _, e3, _⟩ := hi
  have := x_slice_l (ty := ty) (w := w) hu e1 hx hl h0 h1 h2
  rwa [e3] at this
theorem bs_lh {a b : Int} {k k' : IntKind} {lo hi_ : Operand} (hu : P.underlying t = some (.slice e)) (hi : Inf P e (.int .u8 0) 1 1) (hx : Ev N ρ x (.slice A n c)) (hl : Ev N ρ lo (.int k a)) (hh : Ev N ρ hi_ (.int k' b)) (h0 : 0 ≤ a) (h1 : a ≤ b) (h2 : b ≤ c) :
    Ex P N ρ w (.slice t x (some lo) (some hi_) none) ty (.slice (cutA A c a.toNat 1) (b.toNat - a.toNat) (c - a.toNat)) w := by
  obtain ⟨i0, e1, _, e3, _⟩ := hi
  have := x_slice_lh (ty := ty) (w := w) hu e1 hx hl hh h0 h1 h2
  rwa [e3] at this
theorem m_appAt (hu : P.underlying t = some (.slice e)) (hi : Inf P e (.int .u8 0) 1 1) (h : St H w (row e 1 v n (l.map encB) :: L)) (ok : RowOk 1 v n (l.map encB)) (hx : Ev N ρ x v) {a : Addr} (hy : Ev N ρ y (.slice (some a) m c)) (hl : bs.length = m) (hat : At w a (bs.map encB)) (hm : n + m ≤ 140737488355328) :
    ∃ v' w', Ex P N ρ w (.call { callee := .builtin .append, args := #[x, y], argTypes := #[t, t] }) ty v' w' ∧ RowOk 1 v' (n + m) ((l ++ bs).map encB) ∧ St H w' (row e 1 v' (n + m) ((l ++ bs).map encB) :: L) := by
  rw [List.map_append]
  exact m_app hu hi rfl (by decide) h ok hx hy (by simp [hl]) hat (one_encB bs) (by omega) (by decide)
theorem splice_set {i a : Nat} (hi : i < l.length) : splice (l.map encB) i [encB a] = (l.set i a).map encB := by
  apply List.ext_getElem?
  intro j
  rw [splice_get (by simp; omega)]
  simp only [List.length_singleton, List.getElem?_map, List.getElem?_set]
  by_cases h : i = j
  · subst h; simp [hi]
  · have : ¬ (i ≤ j ∧ j < i + 1) := by omega
    rw [if_neg this, if_neg h]
theorem Bs.first (h : Bs H A n c bs) (h4 : 4 ≤ n) : ∃ b off, A = some ⟨b, off, none⟩ ∧ ∀ {w : World} {L : List Res}, St H w L → At w ⟨b, off, none⟩ [.int .u8 ((bs.getD 0 0 : Nat) : Int), .int .u8 ((bs.getD 1 0 : Nat) : Int), .int .u8 ((bs.getD 2 0 : Nat) : Int), .int .u8 ((bs.getD 3 0 : Nat) : Int)] := by
  have hl := h.len
  rcases h.at_ with rfl | ⟨b, off, hA, hat⟩
  · simp at hl; omega
  · refine ⟨b, off, hA, fun {w L} hs j u hu => hat hs j u ?_⟩
    match bs, hl with
    | b0 :: b1 :: b2 :: b3 :: r, _ =>
      match j, hu with
      | 0, hu => simpa [encB] using hu
      | 1, hu => simpa [encB] using hu
      | 2, hu => simpa [encB] using hu
      | 3, hu => simpa [encB] using hu
    | [], hl => simp at hl; omega
    | [_], hl => simp at hl; omega
    | [_, _], hl => simp at hl; omega
    | [_, _, _], hl => simp at hl; omega
theorem St.freezeBs (h : St H w (row e 1 v n (l.map encB) :: L)) (ok : RowOk 1 v n (l.map encB)) (hs : Small l) (hn : n ≤ 140737488355328) : ∃ H' A c, H.le H' ∧ St H' w L ∧ v = .slice A n c ∧ Bs H' A n c l := by
  rcases ok.2.2 with ⟨rfl, rfl⟩ | ⟨g, cap, hv, hc⟩
  · have h0 : l = [] := List.eq_nil_of_length_eq_zero (by have := ok.1; simpa using this)
    subst h0
    exact ⟨H, none, 0, Hp.le.refl H, h.drop, rfl, Bs.nil H none⟩
  · obtain ⟨cur, _, _, _, _, hcap⟩ := h.rowIn 0 rfl hv
    obtain ⟨H', A, c, h1, h2, h3, h4, h5⟩ := h.freezeRow ok
    rw [hv] at h3
    injection h3 with e1 e2 e3
    exact ⟨H', A, c, h1, h2, by rw [hv, e1, e3], h5, by have := ok.1; simpa using this, h4, by rw [← e3]; exact hcap, hs⟩
theorem St.sizeOk {g cap : Nat} (h : St H w (row e 1 v n (l.map encB) :: L)) (ok : RowOk 1 v n (l.map encB)) : n ≤ maxLen := ok.2.1
theorem x_bldArr {s b : Nat} {z : Value} {sb bb : Nat} {ze : Value} {parts : List (Nat × Operand)} {ps : List (Nat × Value)} {cs : List Value} (hu : P.underlying t = some (.array n e)) (hi : Inf P t z s b) (he : Inf P e ze sb bb)
    (hps : Evp N ρ parts ps) (hf : fillL (fun i => some (i * sb, sb)) z.cells.toList ps = some cs) : Ex P N ρ w (.build t parts.toArray) ty (.agg cs.toArray) w := fun _ _ _ _ => by
  obtain ⟨i0, e1, e2, _, _⟩ := hi
  obtain ⟨i1, f1, _, f3, _⟩ := he
  have h1 := hps.arr
  have hfl := fill_list _ _ _ _ hf
  rw [Array.toArray_toList] at hfl
  have hr : (Instr.build t ps.toArray).run P w = .ok (.agg cs.toArray) w := by
    simp [Instr.build, zeroValue, typeInfo, e1, e2, run_underlying hu, sizeOf, f1, f3, hfl]
  have h2 : (parts.toArray.map fun (i, x) => (i, (en N ρ).eval x)) = ps.toArray := h1
  simp only [execOp, h2]
  simp [hr]
theorem oneA {cs : List Value} (h : (cs.all (·.oneCell')) = true) : ∀ u ∈ (Value.agg cs.toArray).cells.toList, u.oneCell' = true := fun u hu => List.all_eq_true.1 h u (by simpa [Value.cells] using hu)
theorem RowOk.setB {i a : Nat} (ok : RowOk 1 v n (l.map encB)) : RowOk 1 v n ((l.set i a).map encB) := ⟨by simpa using ok.1, ok.2⟩
end
end Go.FM
