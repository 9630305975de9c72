/- Chapter 06 in plain words: nodes of one view meet; states of one view stand apart from others. -/
import Derived.Test.YtkbllbphkdnmbaaFmM6b
set_option linter.unusedVariables false
set_option linter.unusedSimpArgs false
namespace Go.FM
def vMeet : GViewID := GViewID.mk 3 1
/-- The state of one who has so many of all, with a floor. -/
def mkS (all : List GItem) (f k : Nat) : GState := GState.mk (GViewID.mk 3 1) (f : Int) ((all.take k).drop f)
theorem mkS_end {all : List GItem} {f k : Nat} (h : f ≤ k) (hk : k ≤ all.length) : sEnd (mkS all f k) = k := by
  unfold sEnd mkS
  simp only [List.length_drop, List.length_take]
  omega
theorem meets_next {all : List GItem} {l : List GState} {ks : Nat → Nat} {i f least : Nat} (hl : l.length = i) (h : ∀ j, j < i → ∃ f, f ≤ least ∧ l[j]? = some (mkS all f (ks j))) (hf : f ≤ least) :
    ∀ j, j < i + 1 → ∃ g, g ≤ least ∧ (l ++ [mkS all f (ks i)])[j]? = some (mkS all g (ks j)) := fun j hj => by
  by_cases hji : j < i
  · obtain ⟨g, hg, e⟩ := h j hji
    exact ⟨g, hg, by rw [List.getElem?_append_left (by omega)]; exact e⟩
  · obtain rfl : j = i := by omega
    exact ⟨f, hf, by rw [List.getElem?_append_right (by omega), hl, Nat.sub_self]; rfl⟩
theorem joinS_one {l : List GState} {v : GViewID} (hv : ∀ x ∈ l, x.V = v) {y : GState} (hy : y ∈ joinS l) : joinS l = [y] := by
  have hs := joinS_sorted l
  have hall : ∀ x ∈ joinS l, x = y := fun x hx => hs.same hx hy ((hv x (joinS_sub hx)).trans (hv y (joinS_sub hy)).symm)
  refine sorted_ext hs (List.pairwise_singleton _ _) fun x => ⟨fun hx => by rw [hall x hx]; exact List.mem_singleton.2 rfl, fun hx => by rw [List.mem_singleton.1 hx]; exact hy⟩
theorem meets_join {all : List GItem} {l : List GState} {ks : Nat → Nat} {m least most : Nat} (hl : l.length = m) (h : ∀ j, j < m → ∃ f, f ≤ least ∧ l[j]? = some (mkS all f (ks j)))
    (h1 : ∀ j, j < m → least ≤ ks j ∧ ks j ≤ most) (h2 : ∃ j, j < m ∧ ks j = most) (hn : most ≤ all.length) : ∃ f, f ≤ least ∧ least ≤ most ∧ joinS l = [mkS all f most] := by
  have hmem : ∀ x ∈ l, ∃ j f, j < m ∧ f ≤ least ∧ x = mkS all f (ks j) := fun x hx => by
    obtain ⟨j, hj, rfl⟩ := List.mem_iff_getElem.1 hx
    obtain ⟨f, hf, e⟩ := h j (by omega)
    rw [List.getElem?_eq_getElem hj] at e
    injection e with e
    exact ⟨j, f, by omega, hf, e⟩
  obtain ⟨j0, hj0, e0⟩ := h2
  obtain ⟨f0, hf0, hx0⟩ := h j0 hj0
  obtain ⟨y, hy, hyv, hye⟩ := joinS_has (List.mem_of_getElem? hx0) (show 0 < 3 by decide)
  obtain ⟨j, f, hj, hf, rfl⟩ := hmem y (joinS_sub hy)
  have q := h1 j hj
  have q0 := h1 j0 hj0
  rw [mkS_end (by omega) (by omega), mkS_end (by omega) (by omega)] at hye
  have : ks j = most := by omega
  rw [this] at hy
  exact ⟨f, hf, by omega, joinS_one (v := GViewID.mk 3 1) (fun x hx => by obtain ⟨_, _, _, _, rfl⟩ := hmem x hx; rfl) hy⟩
theorem meets_floor {all : List GItem} {l : List GState} {ks : Nat → Nat} {m least : Nat} (hl : l.length = m) (h : ∀ j, j < m → ∃ f, f ≤ least ∧ l[j]? = some (mkS all f (ks j))) (hb : least ≤ 1073741824) : ∀ s ∈ l, 0 ≤ s.Floor ∧ s.Floor ≤ 1073741824 := fun x hx => by
  obtain ⟨j, hj, rfl⟩ := List.mem_iff_getElem.1 hx
  obtain ⟨f, hf, e⟩ := h j (by omega)
  rw [List.getElem?_eq_getElem hj] at e
  injection e with e
  rw [e]
  show (0 : Int) ≤ (f : Int) ∧ (f : Int) ≤ 1073741824
  omega
theorem meets_rest {all : List GItem} {l : List GState} {f k least most : Nat} (hj : joinS l = [mkS all f most]) (hf : f ≤ least) (h1 : least ≤ k) (h2 : k ≤ most) (hn : most ≤ all.length) : restS (joinS l) (GViewID.mk 3 1) (k : Int) = ((all.take most).drop k, 0) := by
  rw [hj]
  have hfind : [mkS all f most].find? (fun s => decide (s.V = GViewID.mk 3 1)) = some (mkS all f most) := by simp [mkS]
  rw [restS_in (by decide) hfind (by rw [mkS_end (by omega) hn]; show ¬ ((k : Int) < (f : Int) ∨ (most : Int) < (k : Int)); omega)]
  congr 1
  show ((all.take most).drop f).drop ((k : Int) - (f : Int)).toNat = _
  rw [List.drop_drop]
  congr 1; omega
/-! ### one view apart -/
def best2 (o : Option GState) (s : GState) : Option GState := match o with | none => some s | some e => if sEnd e < sEnd s then some s else some e
def bestOf (l : List GState) (v : GViewID) : Option GState := (l.filter (fun s => decide (s.V = v))).foldl best2 none
theorem bestOf_snoc (l : List GState) (s : GState) (v : GViewID) : bestOf (l ++ [s]) v = if s.V = v then best2 (bestOf l v) s else bestOf l v := by
  unfold bestOf
  rw [List.filter_append]
  by_cases h : s.V = v
  · simp [h]
  · simp [h]
theorem bestOf_view (v : GViewID) : ∀ (l : List GState) (x : GState), bestOf l v = some x → x.V = v := by
  intro l
  suffices h : ∀ (m : List GState), (∀ s ∈ m, s.V = v) → ∀ o : Option GState, (∀ y, o = some y → y.V = v) → ∀ x, m.foldl best2 o = some x → x.V = v by
    intro x hx
    refine h _ (fun s hs => ?_) none (fun y hy => by cases hy) x hx
    have := (List.mem_filter.1 hs).2
    simpa using this
  intro m
  induction m with
  | nil => intro _ o ho x hx; exact ho x hx
  | cons s m ih =>
    intro hm o ho x hx
    refine ih (fun t ht => hm t (List.mem_cons_of_mem _ ht)) (best2 o s) (fun y hy => ?_) x hx
    cases o with
    | none => simp [best2] at hy; rw [← hy]; exact hm s List.mem_cons_self
    | some e =>
      simp only [best2] at hy
      split at hy
      · injection hy with hy; rw [← hy]; exact hm s List.mem_cons_self
      · injection hy with hy; exact ho y (by rw [hy])
theorem cutTo_best (l : List GState) : ∀ k, k ≤ l.length → ∀ x, x ∈ cutTo l k ↔ bestOf (l.take k) x.V = some x
  | 0, _, x => by simp [cutTo, bestOf]
  | k + 1, hk, x => by
    have ih := cutTo_best l k (by omega)
    obtain ⟨h1, _, _⟩ := cutTo_spec l k (by omega)
    have hs := List.getElem?_eq_getElem (l := l) (i := k) (by omega)
    generalize l[k] = s at hs
    rw [cutTo_next hs, take_succ' hs, bestOf_snoc]
    obtain ⟨_, q2⟩ := stepC_spec h1 s
    rcases q2 with ⟨hne, hm⟩ | ⟨e, heo, hev, ⟨hE, hm⟩ | ⟨hE, hm⟩⟩
    · rw [hm]
      have hnone : bestOf (l.take k) s.V = none := by
        cases hb : bestOf (l.take k) s.V with
        | none => rfl
        | some y =>
          have hyv := bestOf_view _ _ _ hb
          exact absurd hyv (hne y ((ih y).2 (by rw [hyv]; exact hb)))
      by_cases hv : s.V = x.V
      · rw [if_pos hv, ← hv, hnone]
        simp only [best2, Option.some.injEq]
        exact ⟨fun h => h.elim (fun h => h.symm) (fun h => absurd hv.symm (hne x h)), fun h => .inl h.symm⟩
      · rw [if_neg hv, ← ih x]
        exact ⟨fun h => h.elim (fun h => absurd (by rw [h]) hv) id, .inr⟩
    · rw [hm]
      have hb := (ih e).1 heo
      by_cases hv : s.V = x.V
      · rw [if_pos hv, ← hv, ← hev, hb]
        simp only [best2, if_pos hE, Option.some.injEq]
        exact ⟨fun h => h.elim (fun h => h.symm) (fun h => absurd rfl h.2), fun h => .inl h.symm⟩
      · rw [if_neg hv, ← ih x]
        exact ⟨fun h => h.elim (fun h => absurd (by rw [h]) hv) (·.1), fun h => .inr ⟨h, fun e => hv e.symm⟩⟩
    · rw [hm]
      have hb := (ih e).1 heo
      by_cases hv : s.V = x.V
      · rw [if_pos hv, ← hv, ← hev, hb]
        simp only [best2, if_neg hE, Option.some.injEq]
        exact ⟨fun h => h1.same heo h (hev.trans hv), fun h => by rw [← h]; exact heo⟩
      · rw [if_neg hv, ← ih x]
theorem joinS_best (l : List GState) (x : GState) : x ∈ joinS l ↔ 0 < x.V.N ∧ bestOf l x.V = some x := by
  rw [← joinC_eq]
  unfold joinC
  rw [List.mem_filter, cutTo_best l l.length (Nat.le_refl _), List.take_length]
  constructor
  · rintro ⟨h1, h2⟩; exact ⟨by simp at h2; omega, h1⟩
  · rintro ⟨h1, h2⟩; exact ⟨h2, by simp; omega⟩
theorem joinS_filter (l : List GState) (v : GViewID) : (joinS l).filter (fun s => decide (s.V = v)) = joinS (l.filter (fun s => decide (s.V = v))) := by
  refine sorted_ext (List.Pairwise.filter _ (joinS_sorted l)) (joinS_sorted _) fun x => ?_
  rw [List.mem_filter, joinS_best, joinS_best]
  have e : ∀ u, bestOf (l.filter (fun s => decide (s.V = v))) u = if u = v then bestOf l u else none := fun u => by
    unfold bestOf
    rw [List.filter_filter]
    by_cases hu : u = v
    · subst hu
      rw [if_pos rfl]; congr 2; funext s; simp
    · rw [if_neg hu]
      have : l.filter (fun s => decide (s.V = u) && decide (s.V = v)) = [] := by
        rw [List.filter_eq_nil_iff]
        intro s _ hs
        simp at hs
        exact hu (hs.1.symm.trans hs.2)
      rw [this]; rfl
  rw [e]
  constructor
  · rintro ⟨⟨h1, h2⟩, h3⟩
    have h3' : x.V = v := by simpa using h3
    exact ⟨h1, by rw [if_pos h3']; exact h2⟩
  · rintro ⟨h1, h2⟩
    by_cases hv : x.V = v
    · rw [if_pos hv] at h2; exact ⟨⟨h1, h2⟩, by simpa using hv⟩
    · rw [if_neg hv] at h2; cases h2
theorem joinS_le_one {l : List GState} {v : GViewID} (hv : ∀ x ∈ l, x.V = v) : (joinS l).length ≤ 1 := by
  cases h : joinS l with
  | nil => simp
  | cons y r =>
    have := joinS_one hv (y := y) (by rw [h]; exact List.mem_cons_self)
    rw [h] at this
    rw [this]; simp
end Go.FM
namespace Go.FM
def setV (v : GViewID) (x : GState) : GState := GState.mk v x.Floor x.Items
theorem setV_next {a mine : List GState} {v : GViewID} {i : Nat} {x : GState} (h : mine = (a.take i).map (setV v)) (hx : a[i]? = some x) : mine ++ [GState.mk v x.Floor x.Items] = (a.take (i + 1)).map (setV v) := by
  rw [take_succ' hx, List.map_append, ← h]; rfl
theorem setV_mem {a mine : List GState} {v : GViewID} {i : Nat} (h : mine = (a.take i).map (setV v)) (hf : ∀ s ∈ a, 0 ≤ s.Floor ∧ s.Floor ≤ 1073741824) : ∀ x ∈ mine, x.V = v ∧ 0 ≤ x.Floor ∧ x.Floor ≤ 1073741824 := fun x hx => by
  rw [h] at hx
  obtain ⟨y, hy, rfl⟩ := List.mem_map.1 hx
  exact ⟨rfl, hf y (List.mem_of_mem_take hy)⟩
theorem vid_next_ne {u v : GViewID} (h : u = v) (hb : v.N < 18446744073709551616) : GViewID.mk ((u.N + 1) % 18446744073709551616) u.P ≠ v := fun e => by
  have := congrArg GViewID.N e
  rw [h] at this
  simp only at this
  omega
theorem apart_both {al mine : List GState} {v : GViewID} {q : Nat} {em x : GState} (h : al.filter (fun s => decide (s.V = v)) = mine.take q) (hx : mine[q]? = some em) (hv : em.V = v) (hn : x.V ≠ v) :
    (al ++ [em] ++ [x]).filter (fun s => decide (s.V = v)) = mine.take (q + 1) := by
  rw [take_succ' hx, List.filter_append, List.filter_append, h]
  simp [hv, hn]
theorem apart_x {al mine : List GState} {v : GViewID} {q : Nat} {x : GState} (h : al.filter (fun s => decide (s.V = v)) = mine.take q) (hx : mine.length ≤ q) (hn : x.V ≠ v) :
    (al ++ [x]).filter (fun s => decide (s.V = v)) = mine.take (q + 1) := by
  rw [List.filter_append, h, List.take_of_length_le hx, List.take_of_length_le (by omega)]
  simp [hn]
theorem apart_m {al mine : List GState} {v : GViewID} {q : Nat} {em : GState} (h : al.filter (fun s => decide (s.V = v)) = mine.take q) (hx : mine[q]? = some em) (hv : em.V = v) :
    (al ++ [em]).filter (fun s => decide (s.V = v)) = mine.take (q + 1) := by
  rw [take_succ' hx, List.filter_append, h]
  simp [hv]
theorem apart_at {al mine : List GState} {v : GViewID} {z : Nat} {e : GState} (hf : (joinS al).filter (fun s => decide (s.V = v)) = joinS mine) (h1 : (joinS mine).length ≤ 1) (hx : (joinS al)[z]? = some e) (hv : e.V = v) : joinS mine = [e] := by
  have hm : e ∈ joinS mine := by
    rw [← hf, List.mem_filter]
    exact ⟨List.mem_of_getElem? hx, by simpa using hv⟩
  cases hj : joinS mine with
  | nil => rw [hj] at hm; cases hm
  | cons y r =>
    rw [hj] at hm h1
    have : r = [] := List.eq_nil_of_length_eq_zero (by simpa using h1)
    subst this
    rw [List.mem_singleton.1 hm]
theorem count_yes {l : List GState} {p : GState → Bool} {z n : Nat} {e : GState} (h : n = ((l.take z).filter p).length) (hx : l[z]? = some e) (hp : p e = true) : n + 1 = ((l.take (z + 1)).filter p).length := by
  rw [take_succ' hx, List.filter_append, List.length_append, ← h]; simp [hp]
theorem count_no {l : List GState} {p : GState → Bool} {z n : Nat} {e : GState} (h : n = ((l.take z).filter p).length) (hx : l[z]? = some e) (hp : p e = false) : n = ((l.take (z + 1)).filter p).length := by
  rw [take_succ' hx, List.filter_append, List.length_append, ← h]; simp [hp]
theorem app_floor {al : List GState} {x : GState} (h : ∀ s ∈ al, 0 ≤ s.Floor ∧ s.Floor ≤ 1073741824) (hx : 0 ≤ x.Floor ∧ x.Floor ≤ 1073741824) : ∀ s ∈ al ++ [x], 0 ≤ s.Floor ∧ s.Floor ≤ 1073741824 := fun s hs => by
  rcases List.mem_append.1 hs with h1 | h1
  · exact h s h1
  · rw [List.mem_singleton.1 h1]; exact hx
end Go.FM
