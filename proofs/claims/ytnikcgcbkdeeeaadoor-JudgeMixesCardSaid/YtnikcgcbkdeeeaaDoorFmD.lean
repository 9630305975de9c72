/- Rows: slices of the call's own, slices that stay as they are, kinds of elements. -/
import Derived.Test.YtnikcgcbkdeeeaaDoorFmC
set_option linter.unusedVariables false
set_option linter.unusedSimpArgs false
namespace Go.FM
open Go

/-! ### a slice of the call's own -/
def row (e size : Nat) (v : Value) (n : Nat) (xs : List Value) : Res :=
  ⟨v.ownBlock, fun o => ∃ g cap cur, v = .slice (some ⟨g, 0, none⟩) n cap ∧ o = .cells cur e (0, 0) ∧ n ≤ cap ∧ cap ≤ maxLen ∧ cur.size = cap * size ∧ cur.toList.take (n * size) = xs⟩
def RowOk (size : Nat) (v : Value) (n : Nat) (xs : List Value) : Prop := xs.length = n * size ∧ n ≤ maxLen ∧ ((v = .slice none 0 0 ∧ n = 0) ∨ ∃ g cap, v = .slice (some ⟨g, 0, none⟩) n cap ∧ n ≤ cap)
section
variable {H : Hp} {w w' : World} {L : List Res} {e size n m : Nat} {v v' : Value} {xs ys : List Value}
theorem RowOk.nil (size : Nat) : RowOk size (.slice none 0 0) 0 [] := ⟨by simp, by simp [maxLen], .inl ⟨rfl, rfl⟩⟩
theorem RowOk.pos (h : RowOk size v n xs) (h0 : 0 < n) : ∃ g cap, v = .slice (some ⟨g, 0, none⟩) n cap := by
  rcases h.2.2 with ⟨_, rfl⟩ | ⟨g, cap, hv, _⟩
  · omega
  · exact ⟨g, cap, hv⟩
theorem RowOk.slice (h : RowOk size v n xs) : ∃ A c, v = .slice A n c ∧ n ≤ c := by
  rcases h.2.2 with ⟨rfl, rfl⟩ | ⟨g, cap, rfl, hc⟩
  · exact ⟨none, 0, rfl, Nat.le_refl _⟩
  · exact ⟨_, cap, rfl, hc⟩
theorem St.rowNil (h : St H w L) (e size : Nat) : St H w (row e size (.slice none 0 0) 0 [] :: L) := by
  refine ⟨h.os, h.out, h.tape, h.fz, fun r hr g hg => ?_, List.pairwise_cons.2 ⟨fun s _ g hg => ?_, h.sep⟩⟩
  · rcases List.mem_cons.1 hr with rfl | hr
    · cases hg
    · exact h.own r hr g hg
  · cases hg
theorem St.owns (h : St H w (row e size v n xs :: L)) (ok : RowOk size v n xs) : w.ownsRow 0 e size v n xs := by
  refine ⟨ok.1, ?_⟩
  rcases ok.2.2 with hn | ⟨g, cap, rfl, _⟩
  · exact .inl hn
  · obtain ⟨_, o, ho, g', cap', cur, e1, rfl, h1, h2, h3, h4⟩ := h.own _ List.mem_cons_self g rfl
    injection e1 with ea eb ec
    injection ea with ea
    injection ea with ea
    subst ea; subst ec
    exact .inr ⟨g, cap, cur, rfl, Nat.zero_le _, ho, h1, h2, h3, h4⟩
theorem rowOk_of_owns (h : w.ownsRow 0 e size v n xs) : RowOk size v n xs := by
  rcases h.2 with ⟨rfl, rfl⟩ | ⟨g, cap, cur, rfl, _, _, h1, h2, _⟩
  · exact ⟨h.1, by simp [maxLen], .inl ⟨rfl, rfl⟩⟩
  · exact ⟨h.1, Nat.le_trans h1 h2, .inr ⟨g, cap, rfl, h1⟩⟩
/-- The row has grown, in its block or in a new one. -/
theorem St.regrow (h : St H w (row e size v n xs :: L)) (hg : w.grownBy w' v.ownBlock) (ho : w'.ownsRow 0 e size v' m ys) (hat : v'.ownBlock = none ∨ v'.ownBlock = v.ownBlock ∨ v'.ownBlock = some w.heap.size) : St H w' (row e size v' m ys :: L) := by
  have hs := List.pairwise_cons.1 h.sep
  have hH : ∀ b o, H.blk b = some o → w'.heap[b]? = some o := fun b o hb => by
    have hlt := h.lt_fz hb
    refine (hg.block b hlt fun e' => ?_).trans (h.fz b o hb)
    have := (h.own _ List.mem_cons_self b e'.symm).1
    rw [hb] at this; cases this
  refine ⟨hg.os.trans h.os, hg.output.trans h.out, hg.tape.trans h.tape, hH, fun r hr g hk => ?_, List.pairwise_cons.2 ⟨fun s hs' g hk hk' => ?_, hs.2⟩⟩
  · rcases List.mem_cons.1 hr with rfl | hr
    · have hk1 : v'.ownBlock = some g := hk
      refine ⟨?_, ?_⟩
      · rcases hat with h0 | h0 | h0
        · rw [h0] at hk1; cases hk1
        · exact (h.own _ List.mem_cons_self g (show v.ownBlock = some g by rw [← h0]; exact hk1)).1
        · rw [h0] at hk1; injection hk1 with hk1
          cases hb : H.blk g with
          | none => rfl
          | some o => have := h.lt_fz hb; omega
      · rcases ho.2 with ⟨rfl, _⟩ | ⟨g', cap, cur, rfl, _, h1, h2, h3, h4, h5⟩
        · cases hk1
        · have : g' = g := by simpa [Value.ownBlock] using hk1
          subst this
          exact ⟨_, h1, g', cap, cur, rfl, rfl, h2, h3, h4, h5⟩
    · obtain ⟨h1, o, h2, h3⟩ := h.own r (List.mem_cons_of_mem _ hr) g hk
      refine ⟨h1, o, (hg.block g (h.lt_own (List.mem_cons_of_mem _ hr) hk) fun e' => ?_).trans h2, h3⟩
      exact hs.1 r hr g e'.symm hk
  · have hk1 : v'.ownBlock = some g := hk
    rcases hat with h0 | h0 | h0
    · rw [h0] at hk1; cases hk1
    · exact hs.1 s hs' g (show v.ownBlock = some g by rw [← h0]; exact hk1) hk'
    · rw [h0] at hk1; injection hk1 with hk1
      have := h.lt_own (List.mem_cons_of_mem _ hs') hk'; omega
theorem St.rowIn {g cap : Nat} (h : St H w L) (i : Nat) (hi : L[i]? = some (row e size v n xs)) (hv : v = .slice (some ⟨g, 0, none⟩) n cap) : ∃ cur, w.heap[g]? = some (.cells cur e (0, 0)) ∧ cur.toList.take (n * size) = xs ∧ cur.size = cap * size ∧ n ≤ cap ∧ cap ≤ maxLen := by
  subst hv
  obtain ⟨_, o, ho, g', cap', cur, e1, rfl, h1, h2, h3, h4⟩ := h.own _ (List.mem_of_getElem? hi) g rfl
  injection e1 with ea eb ec
  subst ec
  exact ⟨cur, ho, h4, h3, h1, h2⟩
theorem St.rowAt {g cap : Nat} (h : St H w L) (i : Nat) (hi : L[i]? = some (row e size v n xs)) (hv : v = .slice (some ⟨g, 0, none⟩) n cap) (o : Nat) {ds : List Value} (hd : (xs.drop o).take ds.length = ds) : At w ⟨g, o, none⟩ ds := by
  obtain ⟨cur, hg, ht, _⟩ := h.rowIn i hi hv
  intro j u hu
  rw [add_none]
  have hj := (List.getElem?_eq_some_iff.1 hu).1
  rw [← hd, List.getElem?_take, if_pos hj, List.getElem?_drop, ← ht] at hu
  have hlt := (List.getElem?_eq_some_iff.1 hu).1
  rw [List.getElem?_take] at hu
  split at hu
  · exact cell_at hg (by simpa using hu)
  · cases hu
theorem St.rowAll (h : St H w L) (i : Nat) (hi : L[i]? = some (row e size v n xs)) (ok : RowOk size v n xs) : xs = [] ∨ ∃ a, (∃ c, v = .slice (some a) n c) ∧ At w a xs := by
  rcases ok.2.2 with ⟨rfl, rfl⟩ | ⟨g, cap, hv, _⟩
  · exact .inl (List.eq_nil_of_length_eq_zero (by simpa using ok.1))
  · exact .inr ⟨_, ⟨cap, hv⟩, h.rowAt i hi hv 0 (by simp)⟩
end

theorem St.drop2 {H : Hp} {w : World} {L : List Res} {r s : Res} (h : St H w (r :: s :: L)) : St H w (r :: L) := h.swap.drop
/-- A row whose elements are one cell each. -/
theorem St.rowEnc {H : Hp} {w : World} {L : List Res} {e n g cap : Nat} {v : Value} {α : Type} {enc : α → Value} {l : List α} (h : St H w L) (i : Nat) (hi : L[i]? = some (row e 1 v n (l.map enc))) (hv : v = .slice (some ⟨g, 0, none⟩) n cap) (j : Nat) {x : α} (hx : l[j]? = some x) : w.cell? ⟨g, j, none⟩ = some (enc x) := by
  obtain ⟨cur, hg, ht, _⟩ := h.rowIn i hi hv
  have h1 : (l.map enc)[j]? = some (enc x) := by simp [hx]
  rw [← ht, List.getElem?_take] at h1
  split at h1
  · exact cell_at hg (by simpa using h1)
  · cases h1
/-! ### slices that stay as they are -/
def Rd (H : Hp) (A : Option Addr) (xs : List Value) : Prop := xs = [] ∨ ∃ b off cs E fr, A = some ⟨b, off, none⟩ ∧ H.blk b = some (.cells cs E fr) ∧ ∀ j u, xs[j]? = some u → cs[off + j]? = some u
section
variable {H H' : Hp} {w w' : World} {L : List Res} {A : Option Addr} {xs : List Value}
theorem Rd.mono (h : Rd H A xs) (hl : H.le H') : Rd H' A xs := by
  rcases h with h | ⟨b, off, cs, E, fr, h1, h2, h3⟩
  · exact .inl h
  · exact .inr ⟨b, off, cs, E, fr, h1, hl.blk _ _ h2, h3⟩
theorem Rd.at_ (h : Rd H A xs) (hne : xs ≠ []) : ∃ b off, A = some ⟨b, off, none⟩ ∧ ∀ {w : World} {L : List Res}, St H w L → At w ⟨b, off, none⟩ xs := by
  rcases h with h | ⟨b, off, cs, E, fr, h1, h2, h3⟩
  · exact absurd h hne
  · refine ⟨b, off, h1, fun {w L} hs j u hu => ?_⟩
    rw [add_none]
    exact cell_at (hs.fz b _ h2) (h3 j u hu)
theorem Rd.nil (A : Option Addr) : Rd H A [] := .inl rfl
theorem Rd.take (h : Rd H A xs) (n : Nat) : Rd H A (xs.take n) := by
  rcases h with rfl | ⟨b, off, cs, E, fr, h1, h2, h3⟩
  · exact .inl (by simp)
  · refine .inr ⟨b, off, cs, E, fr, h1, h2, fun j u hu => h3 j u ?_⟩
    rw [List.getElem?_take] at hu
    split at hu
    · exact hu
    · cases hu
/-- The address of 's[l:]'. -/
def cutA (A : Option Addr) (c l size : Nat) : Option Addr := if c = l then A else A.map (·.add (l * size))
theorem Rd.drop (h : Rd H A xs) {n c l size : Nat} (hn : xs.length = n * size) (hc : n ≤ c) : Rd H (cutA A c l size) (xs.drop (l * size)) := by
  rcases h with rfl | ⟨b, off, cs, E, fr, h1, h2, h3⟩
  · exact .inl (by simp)
  · by_cases hcl : c = l
    · refine .inl (List.drop_eq_nil_of_le ?_)
      rw [hn]; exact Nat.mul_le_mul_right _ (by omega)
    · refine .inr ⟨b, off + l * size, cs, E, fr, ?_, h2, fun j u hu => ?_⟩
      · simp [cutA, if_neg hcl, h1, add_none]
      · rw [List.getElem?_drop] at hu
        have := h3 _ _ hu
        rwa [Nat.add_assoc]
theorem St.weaken {H H' : Hp} {w : World} {L : List Res} (hl : H.le H') (h : St H' w L) : St H w L := by
  refine ⟨h.os.trans hl.os, h.out.trans hl.out, h.tape.trans hl.tape, fun b o e => h.fz b o (hl.blk b o e), fun r hr g hk => ?_, h.sep⟩
  obtain ⟨h1, h2⟩ := h.own r hr g hk
  refine ⟨?_, h2⟩
  cases hb : H.blk g with
  | none => rfl
  | some o => rw [hl.blk g o hb] at h1; cases h1
/-- A row of one's own stays as it is from now on. -/
theorem St.freezeRow {e size n : Nat} {v : Value} (h : St H w (row e size v n xs :: L)) (ok : RowOk size v n xs) : ∃ H' A c, H.le H' ∧ St H' w L ∧ v = .slice A n c ∧ n ≤ c ∧ Rd H' A xs := by
  rcases ok.2.2 with ⟨rfl, rfl⟩ | ⟨g, cap, rfl, hc⟩
  · exact ⟨H, none, 0, Hp.le.refl H, h.drop, rfl, Nat.le_refl _, .inl (List.eq_nil_of_length_eq_zero (by simpa using ok.1))⟩
  · obtain ⟨o, ⟨g', cap', cur, e1, rfl, _, _, _, h4⟩, h1, h2⟩ := h.freeze (g := g) rfl
    refine ⟨_, _, cap, H.le_add g _ h1, h2, rfl, hc, .inr ⟨g, 0, cur, e, (0, 0), rfl, Hp.add_at H g _, fun j u hu => ?_⟩⟩
    rw [← h4, List.getElem?_take] at hu
    split at hu
    · simpa using hu
    · cases hu
theorem St.freezeObj {g T : Nat} {cs : List Value} (h : St H w (obj g T cs :: L)) : ∃ H', H.le H' ∧ St H' w L ∧ Rd H' (some ⟨g, 0, none⟩) cs ∧ H'.blk g = some (.cells cs.toArray T (0, 0)) := by
  obtain ⟨o, rfl, h1, h2⟩ := h.freeze (g := g) rfl
  exact ⟨_, H.le_add g _ h1, h2, .inr ⟨g, 0, _, T, (0, 0), rfl, Hp.add_at H g _, fun j u hu => by simpa using hu⟩, Hp.add_at H g _⟩
/-- A literal's block as a row of one's own. -/
theorem St.rowOfObj {g T n size : Nat} {cs : List Value} (h : St H w (obj g T cs :: L)) (hl : cs.length = n * size) (hn : n ≤ maxLen) : St H w (row T size (.slice (some ⟨g, 0, none⟩) n n) n cs :: L) ∧ RowOk size (.slice (some ⟨g, 0, none⟩) n n) n cs := by
  refine ⟨h.say (ok' := (row T size (.slice (some ⟨g, 0, none⟩) n n) n cs).ok) fun o ho => ⟨g, n, cs.toArray, rfl, ho, Nat.le_refl _, hn, by simpa using hl, by simp [← hl]⟩, hl, hn, .inr ⟨g, n, rfl, Nat.le_refl _⟩⟩
end

/-! ### append, copy, make -/
section
variable {P : Program} {N : Nat} {ρ : Nat → Value} {H : Hp} {w w' : World} {L : List Res} {t ty e size bytes n m c : Nat} {v : Value} {xs news : List Value} {x y : Operand} {i0 : TypeInfo} {z : Value}
theorem m_append (hu : P.underlying t = some (.slice e)) (hi : P.info? e = some i0) (hz : i0.zero = some z) (hsz : i0.size = size) (hby : i0.bytes = bytes) (hzs : z.cells.size = size) (h0 : 0 < size)
    (h : St H w (row e size v n xs :: L)) (ok : RowOk size v n xs) (hx : Ev N ρ x v) {a : Addr} (hy : Ev N ρ y (.slice (some a) m c)) (hl : news.length = m * size) (hnews : At w a news) (h1 : ∀ u ∈ news, u.oneCell' = true)
    (hb : (n + m) * bytes ≤ 140737488355328) (hb0 : 0 < bytes) :
    ∃ v' w', Ex P N ρ w (.call { callee := .builtin .append, args := #[x, y], argTypes := #[t, t] }) ty v' w' ∧ RowOk size v' (n + m) (xs ++ news) ∧ St H w' (row e size v' (n + m) (xs ++ news) :: L) := by
  have h63 : n + m ≤ maxLen := by
    have : n + m ≤ (n + m) * bytes := Nat.le_mul_of_pos_right _ hb0
    simp only [maxLen]; omega
  obtain ⟨v', w', hr, ho, hg, _, hat⟩ := run_append_own_at (P := P) w 0 t ty e i0 z size bytes hu hi hz hsz hby hzs h0 v n xs (h.owns ok) a m c news hl hnews h1 h63 hb (Nat.zero_le _)
  refine ⟨v', w', fun _ _ _ _ => ?_, rowOk_of_owns ho, h.regrow hg ho (.inr hat)⟩
  have e1 : (en N ρ).eval x = v := hx
  have e2 : (en N ρ).eval y = .slice (some a) m c := hy
  simp [execOp, resolve, invoke, builtin, e1, e2, hr]
/-- .. of a slice that has nothing. -/
theorem m_append0 (hu : P.underlying t = some (.slice e)) (hi : P.info? e = some i0) (h : St H w (row e size v n xs :: L)) (ok : RowOk size v n xs) (hx : Ev N ρ x v) {A : Option Addr} (hy : Ev N ρ y (.slice A 0 c)) :
    Ex P N ρ w (.call { callee := .builtin .append, args := #[x, y], argTypes := #[t, t] }) ty v w := fun _ _ _ _ => by
  have e1 : (en N ρ).eval x = v := hx
  have e2 : (en N ρ).eval y = .slice A 0 c := hy
  have hr : (Builtin.append_ #[t, t] ty #[v, .slice A 0 c]).run P w = .ok v w := by
    rcases ok.2.2 with ⟨rfl, rfl⟩ | ⟨g, cap, rfl, hc⟩
    · cases A <;> simp [Builtin.append_, run_underlying hu, sizeOf, typeInfo, hi, Builtin.lenOf, Builtin.firstCells, loadCells, loadCellsFrom]
    · cases A <;> simp [Builtin.append_, run_underlying hu, sizeOf, typeInfo, hi, Builtin.lenOf, Builtin.firstCells, loadCells, loadCellsFrom, hc, storeCells]
  simp [execOp, resolve, invoke, builtin, e1, e2, hr]
/-- Elements written, in a row of one's own. -/
theorem m_storeRow {T g cap i : Nat} {u : Value} {xs' : List Value} (hi : P.info? T = some i0) (h : St H w (row e size v n xs :: L)) (hv : v = .slice (some ⟨g, 0, none⟩) n cap) (hx : Ev N ρ x (.pointer (some ⟨g, i, none⟩))) (hy : Ev N ρ y u)
    (hsz : u.cells.size = i0.size) (hl : i + i0.size ≤ xs.length) (h1 : ∀ u' ∈ u.cells.toList, u'.oneCell' = true) (hsp : splice xs i u.cells.toList = xs') :
    ∃ w', Ex0 P N ρ w (.store T x y) ty w' ∧ St H w' (row e size v n xs' :: L) := by
  obtain ⟨cur, hg, ht, hcs, hnc, hcm⟩ := h.rowIn 0 rfl hv
  have hxl : xs.length = n * size := by
    rw [← ht, List.length_take, Array.length_toList, hcs]
    exact Nat.min_eq_left (Nat.mul_le_mul_right _ hnc)
  have hlen : xs.length ≤ cur.size := by rw [hxl, hcs]; exact Nat.mul_le_mul_right _ hnc
  have hr := run_storeCells_at P g i e u.cells.toList 0 cur w hg (by simp only [Array.length_toList]; omega) h1
  refine ⟨w.setRow g (cur.toList.take (i + 0) ++ u.cells.toList ++ cur.toList.drop (i + 0 + u.cells.toList.length)).toArray, fun _ _ _ _ => ?_, ?_⟩
  · have e1 : (en N ρ).eval x = .pointer (some ⟨g, i, none⟩) := hx
    have e2 : (en N ρ).eval y = u := hy
    simp only [execOp, e1, e2, Instr.storeAt, Instr.sureAddr, storeVar, sizeOf, typeInfo, hi, Sem.run_bind, Sem.run_pure, run_program, Result.andThen_ok, hsz]
    simp only [ne_eq, not_true_eq_false, if_false, Sem.run_bind, Sem.run_pure, Result.andThen_ok, hr]
  · subst hv
    refine h.write (g := g) (w' := w.setRow g _) rfl rfl rfl rfl (fun b hb hne => setRow_other w g b _ hne) (setRow_heap w g _ _ e _ hg) ⟨g, cap, _, rfl, rfl, hnc, hcm, ?_, ?_⟩
    · simp only [List.size_toArray, List.length_append, List.length_take, List.length_drop, Array.length_toList, hsz]; omega
    · subst hsp
      apply List.ext_getElem?
      intro j
      have hlu : u.cells.toList.length = i0.size := by simpa using hsz
      rw [splice_get (by omega), List.getElem?_take]
      have hsg := splice_get (cs := cur.toList) (vs := u.cells.toList) (i := i) (by simp only [Array.length_toList] at *; omega) j
      simp only [splice] at hsg
      simp only [Nat.add_zero]
      rw [hsg]
      by_cases h2 : j < n * size
      · rw [if_pos h2]
        split
        · rfl
        · rw [← ht, List.getElem?_take, if_pos h2]
      · rw [if_neg h2]
        split
        · omega
        · exact (List.getElem?_eq_none (by omega)).symm
/-- make([]T, n), of elements of one cell. -/
theorem m_make {k k' : IntKind} (hu : P.underlying t = some (.slice e)) (hi : P.info? e = some i0) (hz : i0.zero = some z) (hsz : i0.size = 1) (hzc : z.cells = #[z]) (h : St H w L) {i : Int} (hx : Ev N ρ x (.int k i)) (hy : Ev N ρ y (.int k' i)) (h0 : 0 ≤ i) (hb : i0.bytes * i.toNat ≤ 281474976710656) (hm : i.toNat ≤ maxLen) :
    ∃ v' w', Ex P N ρ w (.makeSlice t x y) ty v' w' ∧ ∃ g, v' = .slice (some ⟨g, 0, none⟩) i.toNat i.toNat ∧ St H w' (row e 1 (.slice (some ⟨g, 0, none⟩) i.toNat i.toNat) i.toNat (List.replicate i.toNat z) :: L) ∧ RowOk 1 (.slice (some ⟨g, 0, none⟩) i.toNat i.toNat) i.toNat (List.replicate i.toNat z) := by
  have hb' : (i0.bytes : Int) * i ≤ 281474976710656 := by
    have : ((i0.bytes * i.toNat : Nat) : Int) ≤ 281474976710656 := by omega
    rwa [Int.natCast_mul, Int.toNat_of_nonneg h0] at this
  have hr := run_make (P := P) w t e i0 z hu hi hz k k' i i h0 (Int.le_refl _) hb' (by simp only [maxLen] at hm; omega)
  have hmc : madeCells z.cells (i.toNat * i0.size) = (List.replicate i.toNat z).toArray := by
    rw [hsz, Nat.mul_one, hzc]
    apply Array.ext_getElem?
    intro j
    by_cases hj : j < i.toNat
    · simp [madeCells, hj, List.getElem?_replicate, Nat.mod_one]
    · simp [madeCells, hj, List.getElem?_replicate]
  rw [hmc] at hr
  have hs := (h.alloc (.cells (List.replicate i.toNat z).toArray e))
  have := St.rowOfObj (g := w.heap.size) (T := e) (n := i.toNat) (size := 1) (cs := List.replicate i.toNat z) hs (by simp) hm
  refine ⟨_, _, fun _ _ _ _ => ?_, w.heap.size, rfl, this.1, this.2⟩
  have e1 : (en N ρ).eval x = .int k i := hx
  have e2 : (en N ρ).eval y = .int k' i := hy
  simp [execOp, e1, e2, hr]

/-! ### cuts -/
variable {A : Option Addr} {lo hi_ : Operand} {a b : Int} {k k' : IntKind}
theorem x_slice_lh (hu : P.underlying t = some (.slice e)) (hi : P.info? e = some i0) (hx : Ev N ρ x (.slice A n c)) (hl : Ev N ρ lo (.int k a)) (hh : Ev N ρ hi_ (.int k' b)) (h0 : 0 ≤ a) (h1 : a ≤ b) (h2 : b ≤ c) :
    Ex P N ρ w (.slice t x (some lo) (some hi_) none) ty (.slice (cutA A c a.toNat i0.size) (b.toNat - a.toNat) (c - a.toNat)) w := fun _ _ _ _ => by
  have e1 : (en N ρ).eval x = .slice A n c := hx
  have e2 : (en N ρ).eval lo = .int k a := hl
  have e3 : (en N ρ).eval hi_ = .int k' b := hh
  have h3 : 0 ≤ b := by omega
  obtain ⟨a', rfl⟩ := Int.eq_ofNat_of_zero_le h0
  obtain ⟨b', rfl⟩ := Int.eq_ofNat_of_zero_le h3
  have h5 : a' ≤ b' := by omega
  have h6 : b' ≤ c := by omega
  simp [execOp, e1, e2, e3, Instr.sliceAt, run_underlying hu, Instr.slice, Instr.sliceBounds, Instr.sliceBound, asIntOf, h5, h6, sizeOf, typeInfo, hi, cutA]
theorem x_slice_h (hu : P.underlying t = some (.slice e)) (hi : P.info? e = some i0) (hx : Ev N ρ x (.slice A n c)) (hh : Ev N ρ hi_ (.int k' b)) (h0 : 0 ≤ b) (h2 : b ≤ c) :
    Ex P N ρ w (.slice t x none (some hi_) none) ty (.slice A b.toNat c) w := fun _ _ _ _ => by
  have e1 : (en N ρ).eval x = .slice A n c := hx
  have e3 : (en N ρ).eval hi_ = .int k' b := hh
  have hm : A.map (fun x : Addr => x.add 0) = A := by cases A <;> rfl
  obtain ⟨b', rfl⟩ := Int.eq_ofNat_of_zero_le h0
  have h6 : b' ≤ c := by omega
  by_cases hc : c = 0
  · subst hc
    have : b' = 0 := by omega
    subst this
    simp [execOp, e1, e3, Instr.sliceAt, run_underlying hu, Instr.slice, Instr.sliceBounds, Instr.sliceBound, asIntOf, sizeOf, typeInfo, hi]
  · simp [execOp, e1, e3, Instr.sliceAt, run_underlying hu, Instr.slice, Instr.sliceBounds, Instr.sliceBound, asIntOf, h6, sizeOf, typeInfo, hi, hc, hm]
theorem x_slice_l (hu : P.underlying t = some (.slice e)) (hi : P.info? e = some i0) (hx : Ev N ρ x (.slice A n c)) (hl : Ev N ρ lo (.int k a)) (h0 : 0 ≤ a) (h1 : a ≤ n) (h2 : n ≤ c) :
    Ex P N ρ w (.slice t x (some lo) none none) ty (.slice (cutA A c a.toNat i0.size) (n - a.toNat) (c - a.toNat)) w := fun _ _ _ _ => by
  have e1 : (en N ρ).eval x = .slice A n c := hx
  have e2 : (en N ρ).eval lo = .int k a := hl
  simp [execOp, e1, e2, Instr.sliceAt, run_underlying hu, Instr.slice, Instr.sliceBounds, Instr.sliceBound, asIntOf, h0, h1, sizeOf, typeInfo, hi, cutA]
end

/-! ### kinds of elements -/
structure Kn (α : Type) where
  sz : Nat
  pos : 0 < sz
  rep : Hp → α → List Value → Prop
  len : ∀ {H x cs}, rep H x cs → cs.length = sz
  one : ∀ {H x cs}, rep H x cs → ∀ u ∈ cs, u.oneCell' = true
  mono : ∀ {H H' x cs}, H.le H' → rep H x cs → rep H' x cs
namespace Kn
variable {α : Type} {d : Kn α} {H H' : Hp} {xs ys : List α} {cells cells' : List Value} {A : Option Addr}
def rows (d : Kn α) (H : Hp) (xs : List α) (cells : List Value) : Prop :=
  cells.length = xs.length * d.sz ∧ ∀ i x, xs[i]? = some x → ∃ c, d.rep H x c ∧ (cells.drop (i * d.sz)).take d.sz = c
theorem rows_nil (d : Kn α) (H : Hp) : d.rows H [] [] := ⟨by simp, fun i x h => by simp at h⟩
theorem rows_mono (h : d.rows H xs cells) (hl : H.le H') : d.rows H' xs cells := ⟨h.1, fun i x hx => by
  obtain ⟨c, h1, h2⟩ := h.2 i x hx
  exact ⟨c, d.mono hl h1, h2⟩⟩
theorem rows_append (h : d.rows H xs cells) (h' : d.rows H ys cells') : d.rows H (xs ++ ys) (cells ++ cells') := by
  refine ⟨by simp [h.1, h'.1, Nat.add_mul], fun i x hx => ?_⟩
  by_cases hi : i < xs.length
  · rw [List.getElem?_append_left hi] at hx
    obtain ⟨c, h1, h2⟩ := h.2 i x hx
    refine ⟨c, h1, ?_⟩
    have : (i + 1) * d.sz ≤ cells.length := by rw [h.1]; exact Nat.mul_le_mul_right _ hi
    rw [Nat.add_mul, Nat.one_mul] at this
    rw [List.drop_append_of_le_length (by omega), List.take_append_of_le_length (by simp; omega)]
    exact h2
  · rw [List.getElem?_append_right (by omega)] at hx
    obtain ⟨c, h1, h2⟩ := h'.2 _ x hx
    refine ⟨c, h1, ?_⟩
    have e : i * d.sz = cells.length + (i - xs.length) * d.sz := by
      rw [h.1, ← Nat.add_mul]; congr 1; omega
    rw [e, List.drop_append, List.drop_eq_nil_of_le (by omega), List.nil_append]
    have : cells.length + (i - xs.length) * d.sz - cells.length = (i - xs.length) * d.sz := by omega
    rw [this]; exact h2
theorem rows_one {x : α} {c : List Value} (h : d.rep H x c) : d.rows H [x] c := ⟨by simp [d.len h], fun i y hy => by
  cases i with
  | zero => simp at hy; subst hy; exact ⟨c, h, by simp [← d.len h]⟩
  | succ i => simp at hy⟩
theorem rows_snoc {x : α} {c : List Value} (h : d.rows H xs cells) (hx : d.rep H x c) : d.rows H (xs ++ [x]) (cells ++ c) := rows_append h (rows_one hx)
theorem rows_take (h : d.rows H xs cells) (n : Nat) (hn : n ≤ xs.length) : d.rows H (xs.take n) (cells.take (n * d.sz)) := by
  refine ⟨by rw [List.length_take, h.1, List.length_take, Nat.min_eq_left (Nat.mul_le_mul_right _ hn), Nat.min_eq_left hn], fun i x hx => ?_⟩
  rw [List.getElem?_take] at hx
  split at hx
  · rename_i hi
    obtain ⟨c, h1, h2⟩ := h.2 i x hx
    refine ⟨c, h1, ?_⟩
    have : (i + 1) * d.sz ≤ n * d.sz := Nat.mul_le_mul_right _ hi
    rw [Nat.add_mul, Nat.one_mul] at this
    rw [List.drop_take, List.take_take, Nat.min_eq_left (by omega)]
    exact h2
  · cases hx
theorem rows_drop (h : d.rows H xs cells) (n : Nat) (hn : n ≤ xs.length) : d.rows H (xs.drop n) (cells.drop (n * d.sz)) := by
  refine ⟨by simp [h.1, Nat.sub_mul], fun i x hx => ?_⟩
  rw [List.getElem?_drop] at hx
  obtain ⟨c, h1, h2⟩ := h.2 _ x hx
  refine ⟨c, h1, ?_⟩
  rw [List.drop_drop, ← Nat.add_mul]
  exact h2
theorem rows_one_cell (h : d.rows H xs cells) : ∀ u ∈ cells, u.oneCell' = true := by
  intro u hu
  obtain ⟨j, hj, rfl⟩ := List.mem_iff_getElem.1 hu
  have hlt : j / d.sz < xs.length := by rw [h.1, Nat.mul_comm] at hj; exact Nat.div_lt_of_lt_mul hj
  obtain ⟨c, h1, h2⟩ := h.2 (j / d.sz) _ (List.getElem?_eq_getElem hlt)
  refine d.one h1 _ ?_
  rw [← h2]
  have hm := Nat.mod_lt j d.pos
  have hd := Nat.div_add_mod j d.sz
  rw [Nat.mul_comm] at hd
  refine List.mem_iff_getElem.2 ⟨j % d.sz, ?_, ?_⟩
  · simp; omega
  · simp [hd]
/-- A slice that stays as it is, of elements of this kind. -/
def sl (d : Kn α) (H : Hp) (A : Option Addr) (xs : List α) : Prop := ∃ cells, Rd H A cells ∧ d.rows H xs cells
theorem sl_mono (h : d.sl H A xs) (hl : H.le H') : d.sl H' A xs := let ⟨c, h1, h2⟩ := h; ⟨c, h1.mono hl, rows_mono h2 hl⟩
theorem sl_nil (A : Option Addr) : d.sl H A [] := ⟨[], Rd.nil A, rows_nil d H⟩
theorem sl_take (h : d.sl H A xs) (n : Nat) (hn : n ≤ xs.length) : d.sl H A (xs.take n) := let ⟨c, h1, h2⟩ := h; ⟨_, h1.take _, rows_take h2 n hn⟩
theorem sl_drop (h : d.sl H A xs) {c : Nat} (n : Nat) (hn : n ≤ xs.length) (hc : xs.length ≤ c) : d.sl H (cutA A c n d.sz) (xs.drop n) := let ⟨cs, h1, h2⟩ := h; ⟨_, h1.drop (n := xs.length) h2.1 hc, rows_drop h2 n hn⟩
theorem sl_get (h : d.sl H A xs) (i : Nat) {x : α} (hx : xs[i]? = some x) : ∃ b off c, A = some ⟨b, off, none⟩ ∧ d.rep H x c ∧ ∀ {w : World} {L : List Res}, St H w L → At w ⟨b, off + i * d.sz, none⟩ c := by
  obtain ⟨cells, h1, h2⟩ := h
  obtain ⟨c, h3, h4⟩ := h2.2 i x hx
  have hi := (List.getElem?_eq_some_iff.1 hx).1
  have hne : cells ≠ [] := fun e => by
    have h5 := h2.1
    rw [e] at h5
    have h6 : 0 < xs.length * d.sz := Nat.mul_pos (by omega) d.pos
    simp at h5; omega
  obtain ⟨b, off, rfl, hat⟩ := h1.at_ hne
  refine ⟨b, off, c, rfl, h3, fun {w L} hs j u hu => ?_⟩
  have hj := (List.getElem?_eq_some_iff.1 hu).1
  rw [add_none]
  have := hat hs (i * d.sz + j) u ?_
  · rw [add_none] at this
    rwa [Nat.add_assoc]
  · rw [← h4, List.getElem?_take] at hu
    split at hu
    · rwa [List.getElem?_drop] at hu
    · cases hu
end Kn
end Go.FM
