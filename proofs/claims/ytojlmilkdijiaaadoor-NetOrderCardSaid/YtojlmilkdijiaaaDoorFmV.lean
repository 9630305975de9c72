/- Parts of rows of one's own: copied, cleared, grown by zeros, cut, stretched. -/
import Derived.Test.YtojlmilkdijiaaaDoorFmK
import Derived.Lib.AppendZerosOnto
import Derived.Lib.Overlaps
set_option linter.unusedVariables false
set_option linter.unusedSimpArgs false
namespace Go.FM
open Go
section
variable {P : Program} {Q : Exit → Act → World → Prop} {N : Nat} {ρ : Nat → Value} {H : Hp} {w w' : World} {L : List Res} {t ty e e' size bytes n m c g cap o k : Nat} {v : Value} {xs news : List Value} {x y : Operand} {z : Value} {ops : Array Oper} {rest : List Oper} {pos : String} {aft : Array Edge}
/-- Cells of the row at the head, written. -/
theorem St.putRow (h : St H w (row e size v n xs :: L)) (hv : v = .slice (some ⟨g, 0, none⟩) n cap) (hl : o + news.length ≤ xs.length) (h1 : ∀ u ∈ news, u.oneCell' = true) :
    ∃ w', (storeCells ⟨g, o, none⟩ news).run P w = .ok () w' ∧ St H w' (row e size v n (splice xs o news) :: L) := by
  obtain ⟨cur, hg, ht, hcs, hnc, hcm⟩ := h.rowIn 0 rfl hv
  have hxl : xs.length = n * size := by
    rw [← ht, List.length_take, Array.length_toList, hcs]
    exact Nat.min_eq_left (Nat.mul_le_mul_right _ hnc)
  have hlen : xs.length ≤ cur.size := by rw [hxl, hcs]; exact Nat.mul_le_mul_right _ hnc
  have hr := run_storeCells_at P g o e news 0 cur w hg (by omega) h1
  refine ⟨_, hr, ?_⟩
  subst hv
  refine h.write (g := g) (w' := w.setRow g _) rfl rfl rfl rfl (fun b hb hne => setRow_other w g b _ hne) (setRow_heap w g _ _ e _ hg) ⟨g, cap, _, rfl, rfl, hnc, hcm, ?_, ?_⟩
  · simp only [List.size_toArray, List.length_append, List.length_take, List.length_drop, Array.length_toList]; omega
  · apply List.ext_getElem?
    intro j
    rw [splice_get (by omega), List.getElem?_take]
    have hsg := splice_get (cs := cur.toList) (vs := news) (i := o) (by simp only [Array.length_toList]; omega) j
    simp only [splice] at hsg
    simp only [Nat.add_zero]
    rw [hsg]
    by_cases h2 : j < n * size
    · rw [if_pos h2]
      split
      · rfl
      · rw [← ht, List.getElem?_take, if_pos h2]
    · rw [if_neg h2]
      split
      · omega
      · exact (List.getElem?_eq_none (by omega)).symm
theorem m_copyRow {dn dc sc : Nat} {a : Addr} (hu : P.underlying t = some (.slice e')) (hi : Inf P e' z size bytes) (h : St H w (row e size v n xs :: L)) (hv : v = .slice (some ⟨g, 0, none⟩) n cap)
    (hx : Ev N ρ x (.slice (some ⟨g, o, none⟩) dn dc)) (hy : Ev N ρ y (.slice (some a) m sc)) (hk : Nat.min m dn = k) (hnews : At w a news) (hl : news.length = k * size) (ho : o + k * size ≤ xs.length) (h1 : ∀ u ∈ news, u.oneCell' = true) :
    ∃ v' w', Ex P N ρ w (.call { callee := .builtin .copy, args := #[x, y], argTypes := #[t, t] }) ty v' w' ∧ v' = .int .i64 (k : Int) ∧ St H w' (row e size v n (splice xs o news) :: L) := by
  obtain ⟨w', hr, hs⟩ := h.putRow (P := P) hv (o := o) (news := news) (by rw [hl]; exact ho) h1
  refine ⟨_, w', fun _ _ _ _ => ?_, rfl, hs⟩
  have e1 : (en N ρ).eval x = .slice (some ⟨g, o, none⟩) dn dc := hx
  have e2 : (en N ρ).eval y = .slice (some a) m sc := hy
  obtain ⟨i0, f1, _, f3, _⟩ := hi
  have hlc := run_loadCells_list (P := P) w a news hnews
  rw [hl] at hlc
  have hcp : (Builtin.copy_ #[t, t] ty #[.slice (some ⟨g, o, none⟩) dn dc, .slice (some a) m sc]).run P w = .ok (.int .i64 (k : Int)) w' := by
    simp only [Builtin.copy_, Sem.run_bind, run_underlying hu, Result.andThen_ok, Builtin.lenOf, Sem.run_pure, sizeOf, typeInfo, run_program, f1, Builtin.firstCells, f3, hk]
    simp [run_underlying hu, Sem.run_bind, sizeOf, typeInfo, f1, f3, hk, hlc, hr, goInt]
  simp [execOp, resolve, invoke, builtin, e1, e2, hcp]
/-- Nothing to copy. -/
theorem x_copy0 {A B : Option Addr} {dn dc sc : Nat} (hu : P.underlying t = some (.slice e')) (hi : Inf P e' z size bytes) (hx : Ev N ρ x (.slice A dn dc)) (hy : Ev N ρ y (.slice B m sc)) (hk : Nat.min m dn = 0) :
    Ex P N ρ w (.call { callee := .builtin .copy, args := #[x, y], argTypes := #[t, t] }) ty (.int .i64 0) w := fun _ _ _ _ => by
  have e1 : (en N ρ).eval x = .slice A dn dc := hx
  have e2 : (en N ρ).eval y = .slice B m sc := hy
  obtain ⟨i0, f1, _, f3, _⟩ := hi
  have hcp : (Builtin.copy_ #[t, t] ty #[.slice A dn dc, .slice B m sc]).run P w = .ok (.int .i64 0) w := by
    cases A <;> cases B <;> simp [Builtin.copy_, run_underlying hu, Sem.run_bind, Builtin.lenOf, sizeOf, typeInfo, f1, f3, hk, Builtin.firstCells, loadCells, loadCellsFrom, storeCells, goInt]
  simp [execOp, resolve, invoke, builtin, e1, e2, hcp]
theorem zeroCells_list (zc : List Value) (k : Nat) (h : 0 < zc.length) : (Builtin.zeroCells zc.toArray k).toList = (List.replicate k zc).flatten := by
  have := range_cells zc k h
  have e : Builtin.zeroCells zc.toArray k = (Array.range (k * zc.length)).map fun i => zc.toArray[i % zc.toArray.size]! := by simp [Builtin.zeroCells]
  rw [e, this]
/-- append(s[:i], make(T, k)...) where there is no room: a row of one's own, beside the old one. -/
theorem m_appZeros {tn : Nat} {kq kn : IntKind} {A : Option Addr} (hu : P.underlying t = some (.slice e)) (htn : P.underlying tn = some (.int kn)) (hi : Inf P e z size bytes) (hzs : z.cells.toList.length = size) (h0 : 0 < size) (h : St H w L)
    (hx : Ev N ρ x (.slice A n cap)) (hold : xs = [] ∨ ∃ a, A = some a ∧ At w a xs) (hxl : xs.length = n * size) (hy : Ev N ρ y (.int kq ((k : Nat) : Int))) (hk0 : 0 < k) (hg : cap < n + k) (hb : (n + k) * bytes ≤ 140737488355328) (hb0 : 0 < bytes) :
    ∃ v' w', Ex P N ρ w (.call { callee := .builtin .append, args := #[x, y], argTypes := #[t, tn] }) ty v' w' ∧ RowOk size v' (n + k) (xs ++ (List.replicate k z.cells.toList).flatten) ∧
      St H w' (row e size v' (n + k) (xs ++ (List.replicate k z.cells.toList).flatten) :: L) := by
  obtain ⟨i0, f1, f2, f3, f4⟩ := hi
  have hnk : n + k ≤ (n + k) * bytes := Nat.le_mul_of_pos_right _ hb0
  have hfc : (Builtin.firstCells i0.size n (.slice A n cap)).run P w.drew = .ok xs.toArray w.drew := by
    rw [f3]
    rcases hold with rfl | ⟨a, rfl, hat⟩
    · simp only [List.length_nil] at hxl
      have h1 : n * size = 0 := by omega
      cases A with
      | none => simp [Builtin.firstCells]
      | some a => simp [Builtin.firstCells, h1, loadCells, loadCellsFrom]
    · have hat' : At w.drew a xs := fun j u hu => hat j u hu
      have := run_loadCells_list (P := P) w.drew a xs hat'
      rw [hxl] at this
      simp [Builtin.firstCells, this]
  have hkb : k * i0.bytes ≤ 281474976710656 := by
    rw [f4]
    have : k * bytes ≤ (n + k) * bytes := Nat.mul_le_mul_right _ (by omega)
    omega
  have hr := Lib.run_append_grow_zeros (P := P) w t tn ty e i0 z kq kn hu htn f1 f2 A n cap xs hfc k hk0 (by rw [f3]; exact h0) hg (by omega) hkb (growslice_fits hg (by rw [f4]; exact hb))
  have hge := grownCap_ge w (n + k) cap e
  have hcm : grownCap w (n + k) cap e ≤ maxLen := grownCap_le_maxLen w (n + k) cap e (by simp only [maxLen]; omega)
  have hzt : Builtin.zeroCells z.cells = Builtin.zeroCells z.cells.toList.toArray := by rw [Array.toArray_toList]
  have hzl : ∀ q, (Builtin.zeroCells z.cells q).toList = (List.replicate q z.cells.toList).flatten := fun q => by rw [hzt]; exact zeroCells_list _ _ (by omega)
  have hfl : ∀ q, ((List.replicate q z.cells.toList).flatten).length = q * size := fun q => by simp [hzs]
  have hs := h.drew.alloc (.cells (xs.toArray ++ Builtin.zeroCells z.cells k ++ Builtin.zeroCells z.cells (grownCap w (n + k) cap e - (n + k))) e)
  have hd : w.drew.heap.size = w.heap.size := rfl
  refine ⟨_, _, fun _ _ _ _ => ?_, ⟨?_, ?_, .inr ⟨w.heap.size, _, rfl, hge⟩⟩, hs.say (ok' := (row e size (.slice (some ⟨w.heap.size, 0, none⟩) (n + k) (grownCap w (n + k) cap e)) (n + k) (xs ++ (List.replicate k z.cells.toList).flatten)).ok) fun o ho => ⟨w.heap.size, _, _, rfl, ho, hge, hcm, ?_, ?_⟩⟩
  · have q1 : (en N ρ).eval x = .slice A n cap := hx
    have q2 : (en N ρ).eval y = .int kq ((k : Nat) : Int) := hy
    simp [execOp, resolve, invoke, builtin, q1, q2, hr]
  · rw [List.length_append, hxl, hfl, Nat.add_mul]
  · simp only [maxLen]; omega
  · simp only [Array.size_append, List.size_toArray, hxl]
    have : ∀ q, (Builtin.zeroCells z.cells q).size = q * size := fun q => by rw [← Array.length_toList, hzl, hfl]
    rw [this, this, ← Nat.add_mul, ← Nat.add_mul]; congr 1; omega
  · simp only [Array.toList_append, hzl, List.append_assoc]
    rw [← List.append_assoc, List.take_append_of_le_length (by rw [List.length_append, hxl, hfl, Nat.add_mul]; exact Nat.le_refl _), List.take_of_length_le (by rw [List.length_append, hxl, hfl, Nat.add_mul]; exact Nat.le_refl _)]
/-- The row, seen shorter. -/
theorem St.shrink (h : St H w (row e size (.slice (some ⟨g, 0, none⟩) n cap) n xs :: L)) (hk : k ≤ n) : St H w (row e size (.slice (some ⟨g, 0, none⟩) k cap) k (xs.take (k * size)) :: L) :=
  h.say (ok' := (row e size (.slice (some ⟨g, 0, none⟩) k cap) k (xs.take (k * size))).ok) fun o ⟨g', cap', cur, e1, e2, h1, h2, h3, h4⟩ => by
    injection e1 with ea eb ec
    injection ea with ea
    injection ea with ea
    subst ea; subst ec
    refine ⟨g, cap, cur, rfl, e2, by omega, h2, h3, ?_⟩
    rw [← h4, List.take_take, Nat.min_eq_left (Nat.mul_le_mul_right _ hk)]
theorem RowOk.shrink (ok : RowOk size (.slice (some ⟨g, 0, none⟩) n cap) n xs) (hk : k ≤ n) : RowOk size (.slice (some ⟨g, 0, none⟩) k cap) k (xs.take (k * size)) := by
  refine ⟨?_, Nat.le_trans hk ok.2.1, .inr ⟨g, cap, rfl, ?_⟩⟩
  · rw [List.length_take, ok.1, Nat.min_eq_left (Nat.mul_le_mul_right _ hk)]
  · rcases ok.2.2 with ⟨h, _⟩ | ⟨g', cap', h, hc⟩
    · cases h
    · injection h with _ _ h
      subst h; omega
/-- .. and longer, where there is room: what lies behind is not known. -/
theorem St.stretch (h : St H w (row e size (.slice (some ⟨g, 0, none⟩) n cap) n xs :: L)) (hk : n ≤ k) (hc : k ≤ cap) : ∃ junk, junk.length = (k - n) * size ∧ RowOk size (.slice (some ⟨g, 0, none⟩) k cap) k (xs ++ junk) ∧ St H w (row e size (.slice (some ⟨g, 0, none⟩) k cap) k (xs ++ junk) :: L) := by
  obtain ⟨cur, hg, ht, hcs, hnc, hcm⟩ := h.rowIn 0 rfl rfl
  have hxl : xs.length = n * size := by
    rw [← ht, List.length_take, Array.length_toList, hcs]
    exact Nat.min_eq_left (Nat.mul_le_mul_right _ hnc)
  have htk : cur.toList.take (k * size) = xs ++ (cur.toList.take (k * size)).drop (n * size) := by
    rw [← ht]
    have : (cur.toList.take (k * size)).take (n * size) = cur.toList.take (n * size) := by rw [List.take_take, Nat.min_eq_left (Nat.mul_le_mul_right _ hk)]
    rw [← this]; exact (List.take_append_drop _ _).symm
  have hjl : ((cur.toList.take (k * size)).drop (n * size)).length = (k - n) * size := by
    rw [List.length_drop, List.length_take, Array.length_toList, hcs, Nat.min_eq_left (Nat.mul_le_mul_right _ hc), ← Nat.sub_mul]
  refine ⟨_, hjl, ⟨?_, Nat.le_trans hc hcm, .inr ⟨g, cap, rfl, hc⟩⟩, ?_⟩
  · rw [List.length_append, hxl, hjl, ← Nat.add_mul]; congr 1; omega
  · obtain ⟨h1, o, h2, h3⟩ := h.own _ List.mem_cons_self g rfl
    rw [hg] at h2; injection h2 with h2; subst h2
    have hs := List.pairwise_cons.1 h.sep
    refine ⟨h.os, h.out, h.tape, h.fz, fun r hr g' hk' => ?_, List.pairwise_cons.2 ⟨fun s hs' g' hk' => hs.1 s hs' g' hk', hs.2⟩⟩
    rcases List.mem_cons.1 hr with rfl | hr
    · have : g' = g := by simpa [row, Value.ownBlock] using hk'.symm
      subst this
      exact ⟨h1, _, hg, g', cap, cur, rfl, rfl, hc, hcm, hcs, htk⟩
    · exact h.own r (List.mem_cons_of_mem _ hr) g' hk'
/-- clear(s[a:b]), of a row of one's own. -/
theorem m_clearRow {dn dc : Nat} (hu : P.underlying t = some (.slice e')) (hi : Inf P e' z size bytes) (hzs : z.cells.toList.length = size) (h0 : 0 < size) (h : St H w (row e size v n xs :: L)) (hv : v = .slice (some ⟨g, 0, none⟩) n cap)
    (hx : Ev N ρ x (.slice (some ⟨g, o, none⟩) dn dc)) (ho : o + dn * size ≤ xs.length) (h1 : ∀ u ∈ z.cells.toList, u.oneCell' = true) :
    ∃ v' w', Ex P N ρ w (.call { callee := .builtin .clear, args := #[x], argTypes := #[t] }) ty v' w' ∧ St H w' (row e size v n (splice xs o (List.replicate dn z.cells.toList).flatten) :: L) := by
  have hfl : ((List.replicate dn z.cells.toList).flatten).length = dn * size := by simp [hzs]
  have h1' : ∀ u ∈ (List.replicate dn z.cells.toList).flatten, u.oneCell' = true := fun u hu => by
    obtain ⟨l, hl, hul⟩ := List.mem_flatten.1 hu
    rw [List.eq_of_mem_replicate hl] at hul
    exact h1 u hul
  obtain ⟨w', hr, hs⟩ := h.putRow (P := P) hv (o := o) (news := (List.replicate dn z.cells.toList).flatten) (by rw [hfl]; exact ho) h1'
  have e1 : (en N ρ).eval x = .slice (some ⟨g, o, none⟩) dn dc := hx
  obtain ⟨i0, f1, f2, f3, _⟩ := hi
  have hzt : Builtin.zeroCells z.cells dn = ((List.replicate dn z.cells.toList).flatten).toArray := by
    apply Array.ext'
    have : Builtin.zeroCells z.cells dn = Builtin.zeroCells z.cells.toList.toArray dn := by rw [Array.toArray_toList]
    rw [this, zeroCells_list _ _ (by omega)]
  cases dn with
  | zero =>
    have hw : w' = w := by
      simp [storeCells] at hr
      exact hr.symm
    refine ⟨.tuple #[], w', fun _ _ _ _ => ?_, hs⟩
    have hcl : (Builtin.clear_ #[t] ty #[.slice (some ⟨g, o, none⟩) 0 dc]).run P w = .ok (.tuple #[]) w := by
      simp [Builtin.clear_, run_underlying hu]
    rw [hw]
    simp [execOp, resolve, invoke, builtin, e1, hcl]
  | succ dn =>
    refine ⟨.tuple #[], w', fun _ _ _ _ => ?_, hs⟩
    have hcl : (Builtin.clear_ #[t] ty #[.slice (some ⟨g, o, none⟩) (dn + 1) dc]).run P w = .ok (.tuple #[]) w' := by
      simp [Builtin.clear_, run_underlying hu, zeroValue, typeInfo, f1, f2, hzt, hr]
    simp [execOp, resolve, invoke, builtin, e1, hcl]
/-- An operation whose value nobody wants. -/
theorem st_mv0 {op : Op} {F : Value → World → Prop} (h : ∃ v w', Ex P N ρ w op ty v w' ∧ F v w') (k : ∀ v w', F v w' → wpList P ops Q rest (en N ρ) w') : wpList P ops Q (⟨none, op, ty, pos, aft, none⟩ :: rest) (en N ρ) w := by
  obtain ⟨v, w', hr, hF⟩ := h
  refine wpList_plain rfl fun K hK => ?_
  unfold Oper.wp
  rw [hr]
  simp only [Oper.upon, en_put_none]
  exact hK _ _ (k v w' hF)
end
/-- slices.overlaps, at a literal's block and a row of one's own. -/
theorem x_overlaps {P : Program} {N : Nat} {ρ : Nat → Value} {H : Hp} {w : World} {L : List Res} {f tS tR e size : Nat} {fn : Func} {fv x y : Operand} {ats : Array TypeId} {ty : Nat} {z : Value} {bytes : Nat}
    (hf : P.funcs[f]? = some fn) (hname : (fn.name == "runtime.NumGoroutine") = false) (hb : fn.body.isNone = true) (hn : Extern.findNext fn = none) (he : Extern.find fn = some (Extern.SlicesOverlaps.overlaps #[tS, tS] #[tR]))
    (ht : P.underlying tS = some (.slice e)) (hi : Inf P e z size bytes) (h : St H w L) {i j : Nat} {gv Tv gr er sz n cap o la ca lb cb : Nat} {cs xs : List Value}
    (hiv : L[i]? = some (obj gv Tv cs)) (hjr : L[j]? = some (row er sz (.slice (some ⟨gr, 0, none⟩) n cap) n xs)) (hij : i ≠ j) (hn0 : 0 < n * sz)
    (hfv : Ev N ρ fv (.func (.func f) #[] #[])) (hx : Ev N ρ x (.slice (some ⟨gv, 0, none⟩) la ca)) (hy : Ev N ρ y (.slice (some ⟨gr, o, none⟩) lb cb)) :
    Ex P N ρ w (.call { callee := .value fv, args := #[x, y], argTypes := ats }) ty (.bool false) w := fun _ _ _ _ => by
  have hv := h.heapIn i hiv
  obtain ⟨cur, hg, htk, hcs, hnc, hcm⟩ := h.rowIn j hjr rfl
  have hne : gv ≠ gr := fun hh => by
    subst hh
    have hp := List.pairwise_iff_getElem.1 h.sep
    obtain ⟨hi1, e1⟩ := List.getElem?_eq_some_iff.1 hiv
    obtain ⟨hj1, e2⟩ := List.getElem?_eq_some_iff.1 hjr
    rcases Nat.lt_or_gt_of_ne hij with hlt | hlt
    · have := hp i j hi1 hj1 hlt gv (by rw [e1]; rfl)
      rw [e2] at this; exact this rfl
    · have := hp j i hj1 hi1 hlt gv (by rw [e2]; rfl)
      rw [e1] at this; exact this rfl
  obtain ⟨i0, f1, _, f3, _⟩ := hi
  have hsz : ∀ w : World, (Go.sizeOf e).run P w = .ok size w := fun w => by simp [sizeOf, typeInfo, f1, f3]
  have hcap : 0 < cap * sz := Nat.lt_of_lt_of_le hn0 (Nat.mul_le_mul_right _ hnc)
  have hov := Lib.run_overlaps_apart (P := P) w tS tR e ht size hsz ⟨gv, 0, none⟩ ⟨gr, o, none⟩ la ca lb cb hne Tv er cs.length cur.size (by simp [World.shape?, hv]) (by simp [World.shape?, hg]) (by rw [hcs]; omega)
    (by simp [World.frozen?, hv]) (by simp [World.frozen?, hv])
  have hcf := run_callFunc_extern (P := P) (f := f) hf hname hb hn he #[.slice (some ⟨gv, 0, none⟩) la ca, .slice (some ⟨gr, o, none⟩) lb cb] w
  rw [hov] at hcf
  have q1 : (en N ρ).eval fv = .func (.func f) #[] #[] := hfv
  have q2 : (en N ρ).eval x = .slice (some ⟨gv, 0, none⟩) la ca := hx
  have q3 : (en N ρ).eval y = .slice (some ⟨gr, o, none⟩) lb cb := hy
  simp [execOp, resolve, Deferred.ofValue, q1, q2, q3, invoke, hcf]
end Go.FM
namespace Go.FM
open Go
theorem cutA_some {g c l size : Nat} (h : l < c) : cutA (some ⟨g, 0, none⟩) c l size = some ⟨g, l * size, none⟩ := by
  unfold cutA
  rw [if_neg (by omega)]
  simp [add_none]
theorem cutA_none {c l size : Nat} : cutA none c l size = none := by
  unfold cutA; split <;> rfl
section
variable {α : Type} {d : Kd α} {H : Hp} {w : World} {L : List Res} {e n g cap : Nat} {cs : List Value} {xs : List α}
theorem St.freezeSlC (h : St H w (row e d.sz (.slice (some ⟨g, 0, none⟩) n cap) n cs :: L)) (ok : RowOk d.sz (.slice (some ⟨g, 0, none⟩) n cap) n cs) (hk : d.toKn.rows H xs cs) (hn : n * d.bts ≤ 140737488351232) :
    ∃ H', H.le H' ∧ St H' w L ∧ Sl d H' (some ⟨g, 0, none⟩) n cap xs := by
  obtain ⟨H', A, c, h1, h2, h3, h4⟩ := h.freezeSl ok hk hn
  injection h3 with ha hb hc
  subst ha; subst hc
  exact ⟨H', h1, h2, h4⟩
end
/-! ### slices.Insert in cells -/
theorem ins_grow {cs cy zs : List Value} {i n sz : Nat} (hc : cs.length = n * sz) (hy : cy.length = sz) (hz : zs.length = (n + 1 - i) * sz) (hi : i < n) :
    splice (splice (cs.take (i * sz) ++ zs) (i * sz) cy) ((i + 1) * sz) (cs.drop (i * sz)) = cs.take (i * sz) ++ cy ++ cs.drop (i * sz) := by
  have h1 : i * sz ≤ cs.length := by rw [hc]; exact Nat.mul_le_mul_right _ (by omega)
  have h2 : (i + 1) * sz = i * sz + sz := by rw [Nat.add_mul, Nat.one_mul]
  have h3 : (n + 1 - i) * sz = (n - i) * sz + sz := by rw [show n + 1 - i = (n - i) + 1 by omega, Nat.add_mul, Nat.one_mul]
  have h4 : (n - i) * sz = n * sz - i * sz := Nat.sub_mul _ _ _
  have ht : (cs.take (i * sz)).length = i * sz := by rw [List.length_take]; omega
  have hd : (cs.drop (i * sz)).length = n * sz - i * sz := by rw [List.length_drop, hc]
  have hl1 : (cs.take (i * sz) ++ zs).length = n * sz + sz := by rw [List.length_append, ht, hz, h3, h4]; omega
  have hl2 : (splice (cs.take (i * sz) ++ zs) (i * sz) cy).length = n * sz + sz := by rw [splice_length (by omega), hl1]
  apply List.ext_getElem?
  intro j
  rw [splice_get (by rw [hl2, hd]; omega), splice_get (by omega), hd]
  by_cases a1 : j < i * sz
  · rw [if_neg (by omega), if_neg (by omega), List.append_assoc, List.getElem?_append_left (by omega), List.getElem?_append_left (by omega)]
  · by_cases a2 : j < i * sz + sz
    · rw [if_neg (by omega), if_pos (by omega), List.append_assoc, List.getElem?_append_right (by omega), List.getElem?_append_left (by omega), ht]
    · by_cases a3 : j < n * sz + sz
      · rw [if_pos (by omega), List.append_assoc, List.getElem?_append_right (by omega), List.getElem?_append_right (by omega), ht, hy]
        congr 1; omega
      · rw [if_neg (by omega), if_neg (by omega), List.getElem?_eq_none (by omega), List.getElem?_eq_none (by simp only [List.length_append, ht, hd, hy]; omega)]
theorem ins_shift {cs cy junk : List Value} {i n sz : Nat} (hc : cs.length = n * sz) (hy : cy.length = sz) (hz : junk.length = (n + 1 - n) * sz) (hi : i < n) :
    splice (splice (cs ++ junk) ((i + 1) * sz) (cs.drop (i * sz))) (i * sz) cy = cs.take (i * sz) ++ cy ++ cs.drop (i * sz) := by
  have h1 : i * sz ≤ cs.length := by rw [hc]; exact Nat.mul_le_mul_right _ (by omega)
  have h1' : (i + 1) * sz ≤ n * sz := Nat.mul_le_mul_right _ hi
  have h2 : (i + 1) * sz = i * sz + sz := by rw [Nat.add_mul, Nat.one_mul]
  rw [show n + 1 - n = 1 by omega, Nat.one_mul] at hz
  have ht : (cs.take (i * sz)).length = i * sz := by rw [List.length_take]; omega
  have hd : (cs.drop (i * sz)).length = n * sz - i * sz := by rw [List.length_drop, hc]
  have hl1 : (cs ++ junk).length = n * sz + sz := by rw [List.length_append, hc, hz]
  have hl2 : (splice (cs ++ junk) ((i + 1) * sz) (cs.drop (i * sz))).length = n * sz + sz := by rw [splice_length (by rw [hl1, hd]; omega), hl1]
  apply List.ext_getElem?
  intro j
  rw [splice_get (by rw [hl2]; omega), splice_get (by rw [hl1, hd]; omega), hd]
  by_cases a1 : j < i * sz
  · rw [if_neg (by omega), if_neg (by omega), List.append_assoc, List.getElem?_append_left (by omega), List.getElem?_append_left (by omega), List.getElem?_take, if_pos a1]
  · by_cases a2 : j < i * sz + sz
    · rw [if_pos (by omega), List.append_assoc, List.getElem?_append_right (by omega), List.getElem?_append_left (by omega), ht]
    · rw [if_neg (by omega)]
      by_cases a3 : j < n * sz + sz
      · rw [if_pos (by omega), List.append_assoc, List.getElem?_append_right (by omega), List.getElem?_append_right (by omega), ht, hy]
        congr 1; omega
      · rw [if_neg (by omega), List.getElem?_eq_none (by omega), List.getElem?_eq_none (by simp only [List.length_append, ht, hd, hy]; omega)]
theorem rows_insert {α : Type} {d : Kn α} {H : Hp} {xs : List α} {y : α} {cs cy : List Value} {i : Nat} (h : d.rows H xs cs) (hy : d.rep H y cy) (hi : i ≤ xs.length) : d.rows H (xs.take i ++ [y] ++ xs.drop i) (cs.take (i * d.sz) ++ cy ++ cs.drop (i * d.sz)) :=
  Kn.rows_append (Kn.rows_append (Kn.rows_take h i hi) (Kn.rows_one hy)) (Kn.rows_drop h i hi)
end Go.FM
namespace Go.FM
theorem take_self {α : Type} (l : List α) (k : Nat) : (l.drop 0).take (l.take k).length = l.take k := by
  rw [List.drop_zero, List.length_take]
  rcases Nat.le_total k l.length with h | h
  · rw [Nat.min_eq_left h]
  · rw [Nat.min_eq_right h, List.take_length, List.take_of_length_le h]
theorem drop_self {α : Type} (l : List α) (k : Nat) : (l.drop k).take (l.drop k).length = l.drop k := List.take_length
theorem drop_app {α : Type} (l m : List α) (k : Nat) (h : k ≤ l.length) : ((l ++ m).drop k).take (l.drop k).length = l.drop k := by
  rw [List.drop_append_of_le_length h, List.take_append_of_le_length (Nat.le_refl _), List.take_length]
end Go.FM
namespace Go.FM
theorem splice_take {cs vs : List Value} {o : Nat} (h : o ≤ cs.length) : (splice cs o vs).take o = cs.take o := by
  unfold splice
  rw [List.append_assoc, List.take_append_of_le_length (by rw [List.length_take]; omega), List.take_take, Nat.min_self]
end Go.FM
