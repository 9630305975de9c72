/- What memory is known to hold: blocks that stay as they are, and blocks of the call's own. -/
import Derived.Test.YtnikcgcbkdeeeaaDoorFmB
import Derived.Maps.AppendAt
import Derived.Laws.MakeOwn
set_option linter.unusedVariables false
set_option linter.unusedSimpArgs false
namespace Go.FM
open Go

/-- Blocks that stay as they are. -/
structure Hp where
  blk : Nat → Option Obj
  os : Os
  out : Array (Nat × ByteArray)
  tape : Nat → Question → Nat
structure Hp.le (H H' : Hp) : Prop where
  blk : ∀ b o, H.blk b = some o → H'.blk b = some o
  os : H'.os = H.os
  out : H'.out = H.out
  tape : H'.tape = H.tape
theorem Hp.le.refl (H : Hp) : H.le H := ⟨fun _ _ h => h, rfl, rfl, rfl⟩
theorem Hp.le.trans {A B C : Hp} (h : A.le B) (k : B.le C) : A.le C := ⟨fun b o e => k.blk b o (h.blk b o e), k.os.trans h.os, k.out.trans h.out, k.tape.trans h.tape⟩
def Hp.add (H : Hp) (g : Nat) (o : Obj) : Hp := { H with blk := fun b => if b = g then some o else H.blk b }
theorem Hp.le_add (H : Hp) (g : Nat) (o : Obj) (h : H.blk g = none) : H.le (H.add g o) :=
  ⟨fun b o' e => by simp only [Hp.add]; split <;> simp_all, rfl, rfl, rfl⟩
theorem Hp.add_at (H : Hp) (g : Nat) (o : Obj) : (H.add g o).blk g = some o := by simp [Hp.add]

/-- A block of the call's own (or none). -/
structure Res where
  key : Option Nat
  ok : Obj → Prop
structure St (H : Hp) (w : World) (L : List Res) : Prop where
  os : w.os = H.os
  out : w.output = H.out
  tape : w.tape = H.tape
  fz : ∀ b o, H.blk b = some o → w.heap[b]? = some o
  own : ∀ r ∈ L, ∀ g, r.key = some g → H.blk g = none ∧ ∃ o, w.heap[g]? = some o ∧ r.ok o
  sep : L.Pairwise fun r s => ∀ g, r.key = some g → s.key ≠ some g

section
variable {H : Hp} {w w' : World} {L L' : List Res} {r s : Res}
theorem St.lt_fz (h : St H w L) {b : Nat} {o : Obj} (e : H.blk b = some o) : b < w.heap.size := (Array.getElem?_eq_some_iff.1 (h.fz b o e)).1
theorem St.lt_own (h : St H w L) (hr : r ∈ L) {g : Nat} (e : r.key = some g) : g < w.heap.size := by
  obtain ⟨_, o, ho, _⟩ := h.own r hr g e
  exact (Array.getElem?_eq_some_iff.1 ho).1
theorem St.drop (h : St H w (r :: L)) : St H w L := ⟨h.os, h.out, h.tape, h.fz, fun s hs => h.own s (List.mem_cons_of_mem _ hs), (List.pairwise_cons.1 h.sep).2⟩
theorem St.tail (h : St H w (L' ++ L)) : St H w L := ⟨h.os, h.out, h.tape, h.fz, fun s hs => h.own s (List.mem_append_right _ hs), (List.pairwise_append.1 h.sep).2.1⟩
/-- Another order. -/
theorem St.perm {L' : List Res} (h : St H w L) (hp : L.Perm L') : St H w L' :=
  ⟨h.os, h.out, h.tape, h.fz, fun s hs => h.own s (hp.mem_iff.2 hs), (hp.pairwise_iff (fun {a b} hab g hb ha => hab g ha hb)).1 h.sep⟩
theorem St.swap (h : St H w (r :: s :: L)) : St H w (s :: r :: L) := h.perm (List.Perm.swap ..)
/-- The resource at a place comes to the head. -/
theorem perm_pick : ∀ (L : List Res) (i : Nat) (h : i < L.length), L.Perm (L[i] :: L.eraseIdx i)
  | _ :: _, 0, _ => by simp
  | x :: L, i + 1, h => by
    simp only [List.getElem_cons_succ, List.eraseIdx_cons_succ]
    exact ((perm_pick L i (by simpa using h)).cons x).trans (List.Perm.swap ..)
theorem St.pick (h : St H w L) (i : Nat) {r : Res} {M : List Res} (hr : L[i]? = some r) (hM : L.eraseIdx i = M) : St H w (r :: M) := by
  obtain ⟨hi, rfl⟩ := List.getElem?_eq_some_iff.1 hr
  subst hM
  exact h.perm (perm_pick L i hi)
theorem perm_put : ∀ (L : List Res) (i : Nat) (x : Res), i ≤ L.length → (x :: L).Perm (L.take i ++ x :: L.drop i) := by
  intro L i x h
  have : L = L.take i ++ L.drop i := (List.take_append_drop i L).symm
  conv => lhs; rw [this]
  exact (List.perm_middle (a := x) (l₁ := L.take i) (l₂ := L.drop i)).symm
/-- .. and back. -/
theorem St.unpick (h : St H w (r :: L)) (i : Nat) {M : List Res} (hi : Nat.ble i L.length = true) (hM : L.take i ++ r :: L.drop i = M) : St H w M := by
  subst hM
  exact h.perm (perm_put L i r (Nat.le_of_ble_eq_true hi))
/-- Worlds that agree on all blocks that are known. -/
theorem St.move (h : St H w L) (e1 : w'.os = w.os) (e2 : w'.output = w.output) (e3 : w'.tape = w.tape) (hb : ∀ b, b < w.heap.size → w'.heap[b]? = w.heap[b]?) : St H w' L :=
  ⟨e1.trans h.os, e2.trans h.out, e3.trans h.tape, fun b o e => (hb b (h.lt_fz e)).trans (h.fz b o e), fun r hr g e => by
    obtain ⟨h1, o, h2, h3⟩ := h.own r hr g e
    exact ⟨h1, o, (hb g (h.lt_own hr e)).trans h2, h3⟩, h.sep⟩
theorem St.drew (h : St H w L) : St H w.drew L := h.move rfl rfl rfl fun _ _ => rfl
theorem St.drawn (h : St H w L) (n : Nat) : St H { w with drawn := n } L := h.move rfl rfl rfl fun _ _ => rfl
/-- A new block. -/
theorem St.alloc (h : St H w L) (o : Obj) : St H (w.alloc o) (⟨some w.heap.size, fun x => x = o⟩ :: L) := by
  have hm : St H (w.alloc o) L := h.move rfl rfl rfl fun b hb => RowKit.Below.heap_alloc w o b hb
  refine ⟨hm.os, hm.out, hm.tape, hm.fz, fun r hr g e => ?_, List.pairwise_cons.2 ⟨fun s hs g e e' => ?_, hm.sep⟩⟩
  · rcases List.mem_cons.1 hr with rfl | hr
    · injection e with e
      subst e
      refine ⟨?_, o, heap_alloc_new w o, rfl⟩
      cases hk : H.blk w.heap.size with
      | none => rfl
      | some x => have := h.lt_fz hk; omega
    · exact hm.own r hr g e
  · injection e with e
    subst e
    have := h.lt_own hs e'
    omega
/-- The head block is written. -/
theorem St.write {g : Nat} {o : Obj} {ok' : Obj → Prop} (h : St H w (r :: L)) (hk : r.key = some g) (e1 : w'.os = w.os) (e2 : w'.output = w.output) (e3 : w'.tape = w.tape)
    (hb : ∀ b, b < w.heap.size → b ≠ g → w'.heap[b]? = w.heap[b]?) (hg : w'.heap[g]? = some o) (hok : ok' o) : St H w' (⟨some g, ok'⟩ :: L) := by
  have hs := List.pairwise_cons.1 h.sep
  have hn := (h.own r List.mem_cons_self g hk).1
  refine ⟨e1.trans h.os, e2.trans h.out, e3.trans h.tape, fun b x e => ?_, fun s hs' g' e => ?_, List.pairwise_cons.2 ⟨fun s hs' g' e => ?_, hs.2⟩⟩
  · have hne : b ≠ g := fun e' => by subst e'; rw [hn] at e; cases e
    exact (hb b (h.lt_fz e) hne).trans (h.fz b x e)
  · rcases List.mem_cons.1 hs' with rfl | hs2
    · injection e with e
      subst e
      exact ⟨hn, o, hg, hok⟩
    · obtain ⟨h1, x, h2, h3⟩ := h.own s (List.mem_cons_of_mem _ hs2) g' e
      have hne : g' ≠ g := fun e' => by subst e'; exact hs.1 s hs2 g' hk e
      exact ⟨h1, x, (hb g' (h.lt_own (List.mem_cons_of_mem _ hs2) e) hne).trans h2, h3⟩
  · injection e with e
    subst e
    exact hs.1 s hs' g hk
/-- What the head is said to be may be said otherwise. -/
theorem St.say {ok' : Obj → Prop} (h : St H w (r :: L)) (hok : ∀ o, r.ok o → ok' o) : St H w (⟨r.key, ok'⟩ :: L) :=
  ⟨h.os, h.out, h.tape, h.fz, fun s hs g e => by
    rcases List.mem_cons.1 hs with rfl | hs
    · obtain ⟨h1, o, h2, h3⟩ := h.own r List.mem_cons_self g e
      exact ⟨h1, o, h2, hok o h3⟩
    · exact h.own s (List.mem_cons_of_mem _ hs) g e, List.pairwise_cons.2 ⟨fun s hs => (List.pairwise_cons.1 h.sep).1 s hs, (List.pairwise_cons.1 h.sep).2⟩⟩
/-- A block of one's own stays as it is from now on. -/
theorem St.freeze {g : Nat} (h : St H w (r :: L)) (hk : r.key = some g) : ∃ o, r.ok o ∧ H.blk g = none ∧ St (H.add g o) w L := by
  obtain ⟨h1, o, h2, h3⟩ := h.own r List.mem_cons_self g hk
  have hs := List.pairwise_cons.1 h.sep
  refine ⟨o, h3, h1, h.os, h.out, h.tape, fun b x e => ?_, fun s hs' g' e => ?_, hs.2⟩
  · simp only [Hp.add] at e
    split at e
    · rename_i hb; subst hb; injection e with e; subst e; exact h2
    · exact h.fz b x e
  · obtain ⟨k1, x, k2, k3⟩ := h.own s (List.mem_cons_of_mem _ hs') g' e
    refine ⟨?_, x, k2, k3⟩
    simp only [Hp.add]
    rw [if_neg (fun e' => by subst e'; exact hs.1 s hs' g' hk e)]
    exact k1
end

/-! ### a block of cells, known cell by cell -/
def obj (g : Nat) (T : TypeId) (cs : List Value) : Res := ⟨some g, fun o => o = .cells cs.toArray T (0, 0)⟩
section
variable {H : Hp} {w w' : World} {L : List Res} {g : Nat} {T : TypeId} {cs : List Value}
theorem St.heapAt (h : St H w (obj g T cs :: L)) : w.heap[g]? = some (.cells cs.toArray T (0, 0)) := by
  obtain ⟨_, o, h2, h3⟩ := h.own _ List.mem_cons_self g rfl
  rw [h2, h3]
theorem St.heapIn (h : St H w L) (i : Nat) (hi : L[i]? = some (obj g T cs)) : w.heap[g]? = some (.cells cs.toArray T (0, 0)) := by
  obtain ⟨_, o, h2, h3⟩ := h.own _ (List.mem_of_getElem? hi) g rfl
  rw [h2, h3]
theorem cell_at {b j : Nat} {c : Array Value} {E : TypeId} {fr : Nat × Nat} (h : w.heap[b]? = some (.cells c E fr)) {v : Value} (hv : c[j]? = some v) : w.cell? ⟨b, j, none⟩ = some v := by
  simp [World.cell?, h, hv]
theorem St.cell (h : St H w L) (i : Nat) (hi : L[i]? = some (obj g T cs)) (j : Nat) {v : Value} (hv : cs[j]? = some v) : w.cell? ⟨g, j, none⟩ = some v :=
  cell_at (h.heapIn i hi) (by simpa using hv)
theorem add_none (b o n : Nat) : (⟨b, o, none⟩ : Addr).add n = ⟨b, o + n, none⟩ := by
  unfold Addr.add; split
  · rename_i h; subst h; rfl
  · rfl
/-- Cells from an address on. -/
def At (w : World) (a : Addr) (cs : List Value) : Prop := ∀ j v, cs[j]? = some v → w.cell? (a.add j) = some v
theorem St.at_ (h : St H w L) (i : Nat) (hi : L[i]? = some (obj g T cs)) (o : Nat) {ds : List Value} (hd : (cs.drop o).take ds.length = ds) : At w ⟨g, o, none⟩ ds := by
  intro j v hv
  rw [add_none]
  refine h.cell i hi (o + j) ?_
  have hj := (List.getElem?_eq_some_iff.1 hv).1
  rw [← hd] at hv
  rw [List.getElem?_take, if_pos hj, List.getElem?_drop] at hv
  exact hv
/-- Some cells written. -/
def splice (cs : List Value) (i : Nat) (vs : List Value) : List Value := cs.take i ++ vs ++ cs.drop (i + vs.length)
theorem splice_length {cs vs : List Value} {i : Nat} (h : i + vs.length ≤ cs.length) : (splice cs i vs).length = cs.length := by
  simp only [splice, List.length_append, List.length_take, List.length_drop]; omega
theorem splice_get {cs vs : List Value} {i : Nat} (h : i + vs.length ≤ cs.length) (j : Nat) : (splice cs i vs)[j]? = if i ≤ j ∧ j < i + vs.length then vs[j - i]? else cs[j]? := by
  simp only [splice]
  by_cases h1 : j < i
  · rw [if_neg (by omega), List.append_assoc, List.getElem?_append_left (by simp; omega), List.getElem?_take, if_pos h1]
  · by_cases h2 : j < i + vs.length
    · rw [if_pos ⟨by omega, h2⟩, List.append_assoc, List.getElem?_append_right (by simp; omega), List.getElem?_append_left (by simp; omega)]
      congr 1; simp; omega
    · rw [if_neg (by omega), List.append_assoc, List.getElem?_append_right (by simp; omega), List.getElem?_append_right (by simp; omega), List.getElem?_drop]
      congr 1; simp; omega
theorem run_storeCells_obj {P : Program} (h : St H w (obj g T cs :: L)) (i : Nat) (vs : List Value) (hl : i + vs.length ≤ cs.length) (h1 : ∀ v ∈ vs, v.oneCell' = true) :
    ∃ w', (storeCells ⟨g, i, none⟩ vs).run P w = .ok () w' ∧ St H w' (obj g T (splice cs i vs) :: L) := by
  have hg := h.heapAt
  have hr := run_storeCells_at P g i T vs 0 cs.toArray w hg (by simpa using hl) h1
  refine ⟨_, hr, ?_⟩
  refine h.write (g := g) rfl rfl rfl rfl (fun b hb hne => setRow_other w g b _ hne) (setRow_heap w g _ _ T _ hg) ?_
  simp [splice]
end

/-! ### operations on memory -/
section
variable {P : Program} {N : Nat} {ρ : Nat → Value} {H : Hp} {w w' : World} {L : List Res} {g T t ty : Nat} {cs : List Value} {x y : Operand}
def scalarT (P : Program) (t : TypeId) : Bool := match P.underlying t with
  | some (.struct _) | some (.array _ _) => false
  | some _ => true
  | none => false
def aggT (P : Program) (t : TypeId) : Bool := match P.underlying t with
  | some (.struct _) | some (.array _ _) => true
  | _ => false
theorem run_isAgg_f (h : scalarT P t = true) (w : World) : (isAgg t).run P w = .ok false w := by
  unfold scalarT at h
  unfold isAgg
  split at h
  · cases h
  · cases h
  · rename_i u h1 h2 e
    simp [run_underlying e]
  · cases h
theorem run_isAgg_t (h : aggT P t = true) (w : World) : (isAgg t).run P w = .ok true w := by
  unfold aggT at h
  unfold isAgg
  split at h
  · rename_i e; simp [run_underlying e]
  · rename_i e; simp [run_underlying e]
  · cases h
theorem run_loadVar_f (hs : scalarT P t = true) {ad : Addr} {v : Value} (hc : w.cell? ad = some v) : (loadVar t ad).run P w = .ok v w := by
  simp [loadVar, run_isAgg_f hs, run_load, hc]
theorem run_loadVar_t (hs : aggT P t = true) {i0 : TypeInfo} (hi : P.info? t = some i0) {ad : Addr} (hc : At w ad cs) (hl : cs.length = i0.size) : (loadVar t ad).run P w = .ok (.agg cs.toArray) w := by
  have := run_loadCells_list (P := P) w ad cs hc
  rw [hl] at this
  simp [loadVar, run_isAgg_t hs, sizeOf, typeInfo, hi, this]
theorem x_load (hs : scalarT P t = true) {ad : Addr} {v : Value} (hx : Ev N ρ x (.pointer (some ad))) (hc : w.cell? ad = some v) : Ex P N ρ w (.load t x) ty v w := fun _ _ _ _ => by
  have h1 : (en N ρ).eval x = .pointer (some ad) := hx
  simp [execOp, h1, Instr.loadAt, Instr.sureAddr, run_loadVar_f hs hc]
theorem x_loadA (hs : aggT P t = true) {i0 : TypeInfo} (hi : P.info? t = some i0) {ad : Addr} (hx : Ev N ρ x (.pointer (some ad))) (hc : At w ad cs) (hl : cs.length = i0.size) : Ex P N ρ w (.load t x) ty (.agg cs.toArray) w := fun _ _ _ _ => by
  have h1 : (en N ρ).eval x = .pointer (some ad) := hx
  simp [execOp, h1, Instr.loadAt, Instr.sureAddr, run_loadVar_t hs hi hc hl]
theorem m_store {i0 : TypeInfo} (hi : P.info? t = some i0) {i : Nat} {v : Value} {cs' : List Value} (h : St H w (obj g T cs :: L)) (hx : Ev N ρ x (.pointer (some ⟨g, i, none⟩))) (hy : Ev N ρ y v)
    (hsz : v.cells.size = i0.size) (hl : i + i0.size ≤ cs.length) (h1 : ∀ u ∈ v.cells.toList, u.oneCell' = true) (hsp : splice cs i v.cells.toList = cs') :
    ∃ w', Ex0 P N ρ w (.store t x y) ty w' ∧ St H w' (obj g T cs' :: L) := by
  obtain ⟨w', hr, hs⟩ := run_storeCells_obj (P := P) h i v.cells.toList (by simp only [Array.length_toList]; omega) h1
  rw [hsp] at hs
  refine ⟨w', fun _ _ _ _ => ?_, hs⟩
  have e1 : (en N ρ).eval x = .pointer (some ⟨g, i, none⟩) := hx
  have e2 : (en N ρ).eval y = v := hy
  simp [execOp, e1, e2, Instr.storeAt, Instr.sureAddr, storeVar, sizeOf, typeInfo, hi, hsz, hr]
theorem m_box {v : Value} {cs : List Value} (h : St H w L) (hx : Ev N ρ x v) (hv : v.cells = cs.toArray) : ∃ v' w', Ex P N ρ w (.box T x) ty v' w' ∧ ∃ g, v' = .pointer (some ⟨g, 0, none⟩) ∧ St H w' (obj g T cs :: L) := by
  refine ⟨_, w.alloc (.cells cs.toArray T), fun _ _ _ _ => ?_, w.heap.size, rfl, h.alloc _⟩
  have h1 : (en N ρ).eval x = v := hx
  simp [execOp, h1, Instr.box, newVar, newRow, hv]
theorem m_alloc {i0 : TypeInfo} {z : Value} {cs : List Value} (hi : P.info? T = some i0) (hz : i0.zero = some z) (h : St H w L) (hv : z.cells = cs.toArray) : ∃ v' w', Ex P N ρ w (.alloc T) ty v' w' ∧ ∃ g, v' = .pointer (some ⟨g, 0, none⟩) ∧ St H w' (obj g T cs :: L) := by
  refine ⟨_, w.alloc (.cells cs.toArray T), fun _ _ _ _ => ?_, w.heap.size, rfl, h.alloc _⟩
  simp [execOp, Instr.alloc, newVar, newRow, zeroValue, typeInfo, hi, hz, hv]
theorem m_buildSlice {e n : Nat} {i0 : TypeInfo} {z : Value} {parts : Array (Nat × Operand)} {ps : Array (Nat × Value)} {cells : Array Value} {cs : List Value} (hu : P.underlying t = some (.slice e)) (hi : P.info? e = some i0) (hz : i0.zero = some z)
    (hps : parts.map (fun p => (p.1, (en N ρ).eval p.2)) = ps) (hn : n * i0.size ≤ 16777216) (h0 : n * i0.size ≠ 0)
    (hf : Instr.fill (fun i => some (i * i0.size, i0.size)) ((Array.range (n * i0.size)).map (z.cells[· % z.cells.size]!)) ps.toList = some cells) (hc : cells = cs.toArray) (h : St H w L) :
    ∃ v' w', Ex P N ρ w (.buildSlice t n parts) ty v' w' ∧ ∃ g, v' = .slice (some ⟨g, 0, none⟩) n n ∧ St H w' (obj g e cs :: L) := by
  refine ⟨_, w.alloc (.cells cs.toArray e), fun _ _ _ _ => ?_, w.heap.size, rfl, h.alloc _⟩
  have e1 : (parts.map fun (i, x) => (i, (en N ρ).eval x)) = ps := hps
  have hn' : ¬ 2 ^ 24 < n * i0.size := by omega
  subst hc
  simp only [execOp, e1, Instr.buildSlice, Sem.run_bind, run_underlying hu, Result.andThen_ok, sizeOf, typeInfo, run_program, hi, Sem.run_pure]
  rw [if_neg (by simpa using hn'), if_neg h0]
  simp [zeroValue, typeInfo, hi, hz, hf, newRow]
theorem x_build {fs : Array Field} {i0 : TypeInfo} {z : Value} {places : List (Nat × Nat)} {parts : Array (Nat × Operand)} {ps : Array (Nat × Value)} {cells : Array Value} (hu : P.underlying t = some (.struct fs)) (hi : P.info? t = some i0) (hz : i0.zero = some z)
    (hps : parts.map (fun p => (p.1, (en N ρ).eval p.2)) = ps) (hpl : fs.toList.map (fun (f : Field) => (f.offset, ((P.info? f.type).map (·.size)))) = places.map (fun p => (p.1, some p.2)))
    (hf : Instr.fill (places[·]?) z.cells ps.toList = some cells) : Ex P N ρ w (.build t parts) ty (.agg cells) w := fun _ _ _ _ => by
  have e1 : (parts.map fun (i, x) => (i, (en N ρ).eval x)) = ps := hps
  have hm : ∀ (l : List Field) (pl : List (Nat × Nat)), l.map (fun (f : Field) => (f.offset, ((P.info? f.type).map (·.size)))) = pl.map (fun p => (p.1, some p.2)) → ∀ w : World, (l.mapM (fun (f : Field) => do pure (f.offset, ← sizeOf f.type))).run P w = .ok pl w := by
    intro l
    induction l with
    | nil => intro pl h w; cases pl <;> simp_all
    | cons f l ih =>
      intro pl h w
      cases pl with
      | nil => simp at h
      | cons p pl =>
        simp only [List.map_cons, List.cons.injEq, Prod.mk.injEq] at h
        obtain ⟨⟨ha, hb⟩, hc⟩ := h
        obtain ⟨i1, h2, h3⟩ := Option.map_eq_some_iff.1 hb
        have := ih pl hc w
        simp only [List.mapM_cons, Sem.run_bind, sizeOf, typeInfo, run_program, Result.andThen_ok, h2, Sem.run_pure] at this ⊢
        rw [this]
        simp [ha, h3]
  have hm' : (fs.mapM (fun (f : Field) => do pure (f.offset, ← sizeOf f.type))).run P w = .ok places.toArray w := by
    have := hm fs.toList places hpl w
    rw [← Array.toArray_toList (xs := fs)]
    rw [List.mapM_toArray]
    simp only [Sem.run_map, this, Result.andThen_ok]
  have hb : (Instr.build t ps).run P w = .ok (.agg cells) w := by
    simp only [Instr.build, Sem.run_bind, zeroValue, typeInfo, run_program, Result.andThen_ok, hi, Sem.run_pure, hz, run_underlying hu]
    rw [hm']
    simp [hf]
  simp [execOp, e1, hb]
end
end Go.FM
