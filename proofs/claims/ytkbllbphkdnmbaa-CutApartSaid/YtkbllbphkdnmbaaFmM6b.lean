/- Chapter 06 in plain words: the code's Join and the reference's are one. -/
import Derived.Test.YtkbllbphkdnmbaaFmX
set_option linter.unusedVariables false
set_option linter.unusedSimpArgs false
namespace Go.FM
def SortedV (a : List GState) : Prop := a.Pairwise (fun x y => vcmp x.V y.V < 0)
theorem vcmp_irr (a : GViewID) : ¬ vcmp a a < 0 := by
  have := (vcmp_zero a a).2 rfl; omega
theorem vcmp_asym {a b : GViewID} (h : vcmp a b < 0) : ¬ vcmp b a < 0 := by
  have := vcmp_neg a b; omega
theorem vcmp_lt_iff (a b : GViewID) : vcmp a b < 0 ↔ a.N < b.N ∨ a.N = b.N ∧ a.P < b.P := by
  have h1 := vcmp_neg a b
  have h2 := vcmp_pos b a
  omega
theorem vcmp_trans {a b c : GViewID} (h : vcmp a b < 0) (k : vcmp b c < 0) : vcmp a c < 0 := by
  rw [vcmp_lt_iff] at *; omega
theorem vcmp_bound (a b : GViewID) : -1 ≤ vcmp a b ∧ vcmp a b ≤ 1 := cmpV_bound _ _ _ _
theorem vcmp_eq_of {a b : GViewID} (h1 : ¬ vcmp a b < 0) (h2 : ¬ vcmp b a < 0) : a = b := by
  rw [← vcmp_zero]; have := vcmp_neg a b; omega
theorem SortedV.same {a : List GState} (h : SortedV a) : ∀ {x y : GState}, x ∈ a → y ∈ a → x.V = y.V → x = y := by
  induction a with
  | nil => intro x y hx; cases hx
  | cons z a ih =>
    intro x y hx hy e
    have hp := List.pairwise_cons.1 h
    rcases List.mem_cons.1 hx with h1 | h1 <;> rcases List.mem_cons.1 hy with h2 | h2
    · rw [h1, h2]
    · have := hp.1 y h2; rw [← h1, e] at this; exact absurd this (vcmp_irr _)
    · have := hp.1 x h1; rw [← h2, e] at this; exact absurd this (vcmp_irr _)
    · exact ih hp.2 h1 h2 e
theorem sorted_ext : ∀ {a b : List GState}, SortedV a → SortedV b → (∀ x, x ∈ a ↔ x ∈ b) → a = b
  | [], [], _, _, _ => rfl
  | [], y :: b, _, _, h => absurd ((h y).2 List.mem_cons_self) List.not_mem_nil
  | x :: a, [], _, _, h => absurd ((h x).1 List.mem_cons_self) List.not_mem_nil
  | x :: a, y :: b, ha, hb, h => by
    have pa := List.pairwise_cons.1 ha
    have pb := List.pairwise_cons.1 hb
    have exy : x = y := by
      rcases List.mem_cons.1 ((h x).1 List.mem_cons_self) with e | hx
      · exact e
      · rcases List.mem_cons.1 ((h y).2 List.mem_cons_self) with e | hy
        · exact e.symm
        · exact absurd (pa.1 y hy) (vcmp_asym (pb.1 x hx))
    subst exy
    congr 1
    refine sorted_ext pa.2 pb.2 fun z => ⟨fun hz => ?_, fun hz => ?_⟩
    · rcases List.mem_cons.1 ((h z).1 (List.mem_cons_of_mem _ hz)) with rfl | h1
      · exact absurd (pa.1 z hz) (vcmp_irr _)
      · exact h1
    · rcases List.mem_cons.1 ((h z).2 (List.mem_cons_of_mem _ hz)) with rfl | h1
      · exact absurd (pb.1 z hz) (vcmp_irr _)
      · exact h1
theorem insS_sorted {s : GState} : ∀ {a : List GState}, SortedV a → (∀ x ∈ a, x.V ≠ s.V) → SortedV (insS s a)
  | [], _, _ => List.pairwise_singleton _ _
  | x :: a, h, hn => by
    have hp := List.pairwise_cons.1 h
    simp only [insS]
    have hne := hn x List.mem_cons_self
    have hx0 : vcmp x.V s.V ≠ 0 := fun e => hne ((vcmp_zero _ _).1 e)
    split
    · rename_i h1
      have h2 : vcmp s.V x.V < 0 := by have := vcmp_neg s.V x.V; omega
      refine List.pairwise_cons.2 ⟨fun y hy => ?_, h⟩
      rcases List.mem_cons.1 hy with rfl | hy
      · exact h2
      · exact vcmp_trans h2 (hp.1 y hy)
    · rename_i h1
      refine List.pairwise_cons.2 ⟨fun y hy => ?_, insS_sorted hp.2 fun y hy => hn y (List.mem_cons_of_mem _ hy)⟩
      rcases (insS_mem s y a).1 hy with rfl | hy
      · omega
      · exact hp.1 y hy
/-- The best among the first ones. -/
def bestIn (l : List GState) (x : GState) (i k : Nat) : Prop := ∀ j t, j < k → l[j]? = some t → beats t x j i = false
theorem bestTo_iff (l : List GState) (s : GState) (i : Nat) : ∀ k, bestTo l s i k = true ↔ 0 < s.V.N ∧ bestIn l s i k
  | 0 => by simp [bestTo, bestIn]
  | k + 1 => by
    simp only [bestTo, Bool.and_eq_true, bestTo_iff l s i k]
    constructor
    · rintro ⟨⟨h1, h2⟩, h3⟩
      refine ⟨h1, fun j t hj ht => ?_⟩
      by_cases hjk : j < k
      · exact h2 j t hjk ht
      · obtain rfl : j = k := by omega
        rw [ht] at h3; simpa using h3
    · rintro ⟨h1, h2⟩
      refine ⟨⟨h1, fun j t hj ht => h2 j t (by omega) ht⟩, ?_⟩
      cases hk : l[k]? with
      | none => rfl
      | some t => simp [h2 k t (by omega) hk]
theorem beats_false {t s : GState} {k i : Nat} : beats t s k i = false ↔ (t.V = s.V → ¬ sEnd s < sEnd t ∧ ¬ (sEnd t = sEnd s ∧ k < i)) := by
  rw [beats_iff, decide_eq_false_iff_not]
  constructor
  · intro h e; exact ⟨fun h1 => h ⟨e, .inl h1⟩, fun h1 => h ⟨e, .inr h1⟩⟩
  · rintro h ⟨e, h1 | h1⟩
    · exact (h e).1 h1
    · exact (h e).2 h1
/-- Two best ones of one view are one. -/
theorem bestIn_same {l : List GState} {x y : GState} {i j k : Nat} (hi : i < k) (hj : j < k) (hx : l[i]? = some x) (hy : l[j]? = some y) (bx : bestIn l x i k) (by_ : bestIn l y j k) (e : x.V = y.V) : x = y := by
  have h1 := beats_false.1 (bx j y hj hy) e.symm
  have h2 := beats_false.1 (by_ i x hi hx) e
  have : i = j := by omega
  subst this
  rw [hx] at hy; injection hy
theorem joinTo_spec (l : List GState) : ∀ i, SortedV (joinTo l i) ∧ ∀ x, x ∈ joinTo l i ↔ ∃ k, k < i ∧ l[k]? = some x ∧ 0 < x.V.N ∧ bestIn l x k l.length
  | 0 => ⟨List.Pairwise.nil, fun x => by simp [joinTo]⟩
  | i + 1 => by
    obtain ⟨h1, h2⟩ := joinTo_spec l i
    cases hs : l[i]? with
    | none =>
      have e : joinTo l (i + 1) = joinTo l i := by simp only [joinTo, hs]
      rw [e]
      refine ⟨h1, fun x => (h2 x).trans ⟨fun ⟨k, a, b⟩ => ⟨k, by omega, b⟩, fun ⟨k, a, b, c⟩ => ⟨k, ?_, b, c⟩⟩⟩
      by_cases hk : k = i
      · subst hk; rw [hs] at b; cases b
      · omega
    | some s =>
      have hil : i < l.length := (List.getElem?_eq_some_iff.1 hs).1
      by_cases hb : bestTo l s i l.length = true
      · have e : joinTo l (i + 1) = insS s (joinTo l i) := by simp only [joinTo, hs, hb, if_true]
        obtain ⟨hN, hbest⟩ := (bestTo_iff l s i _).1 hb
        have hne : ∀ x ∈ joinTo l i, x.V ≠ s.V := fun x hx ev => by
          obtain ⟨k, hk, hxk, _, hbx⟩ := (h2 x).1 hx
          have q1 := beats_false.1 (hbest k x (by omega) hxk) ev
          have q2 := beats_false.1 (hbx i s hil hs) ev.symm
          omega
        rw [e]
        refine ⟨insS_sorted h1 hne, fun x => ?_⟩
        rw [insS_mem]
        constructor
        · rintro (rfl | hx)
          · exact ⟨i, by omega, hs, hN, hbest⟩
          · obtain ⟨k, hk, r⟩ := (h2 x).1 hx; exact ⟨k, by omega, r⟩
        · rintro ⟨k, hk, hxk, r⟩
          by_cases hki : k = i
          · subst hki; rw [hs] at hxk; injection hxk with hxk; exact .inl hxk.symm
          · exact .inr ((h2 x).2 ⟨k, by omega, hxk, r⟩)
      · have e : joinTo l (i + 1) = joinTo l i := by simp only [joinTo, hs]; rw [if_neg hb]
        rw [e]
        refine ⟨h1, fun x => (h2 x).trans ⟨fun ⟨k, a, b⟩ => ⟨k, by omega, b⟩, fun ⟨k, a, b, c⟩ => ?_⟩⟩
        by_cases hk : k = i
        · subst hk; rw [hs] at b; injection b with b; subst b
          exact absurd ((bestTo_iff l s k _).2 c) hb
        · exact ⟨k, by omega, b, c⟩
abbrev cmpSV : GState → GViewID → Int := fun y0 y1 => (vcmp y0.V y1)
/-- Where a view stands, or would stand. -/
theorem bs_sorted {out : List GState} (h : SortedV out) (v : GViewID) : (∀ k x, k < bsIx cmpSV out v → out[k]? = some x → vcmp x.V v < 0) ∧ (∀ k x, bsIx cmpSV out v ≤ k → out[k]? = some x → ¬ vcmp x.V v < 0) := by
  have hp := List.pairwise_iff_getElem.1 h
  have hm : ∀ k m, k ≤ m → m < out.length → lessAt cmpSV out v m = true → lessAt cmpSV out v k = true := fun k m hkm hm hl => by
    have hk : k < out.length := by omega
    rw [lessAt_some (List.getElem?_eq_getElem hm), decide_eq_true_eq] at hl
    rw [lessAt_some (List.getElem?_eq_getElem hk), decide_eq_true_eq]
    by_cases e : k = m
    · subst e; exact hl
    · exact vcmp_trans (hp k m hk hm (by omega)) hl
  obtain ⟨h1, h2⟩ := bsGo_spec (lessAt cmpSV out v) 0 out.length out.length (Nat.zero_le _) (Nat.le_refl _) (fun k hk => absurd hk (Nat.not_lt_zero _)) (fun k hk hkn => absurd hkn (by omega)) hm
  refine ⟨fun k x hk hx => ?_, fun k x hk hx => ?_⟩
  · have := h1 k hk
    rw [lessAt_some hx, decide_eq_true_eq] at this
    exact this
  · have := h2 k hk (List.getElem?_eq_some_iff.1 hx).1
    rw [lessAt_some hx, decide_eq_false_iff_not] at this
    exact this
theorem stepC_spec {out : List GState} (h : SortedV out) (s : GState) :
    SortedV (stepC out s) ∧ ((∀ x ∈ out, x.V ≠ s.V) ∧ (∀ x, x ∈ stepC out s ↔ x = s ∨ x ∈ out) ∨
      ∃ e ∈ out, e.V = s.V ∧ (sEnd e < sEnd s ∧ (∀ x, x ∈ stepC out s ↔ x = s ∨ x ∈ out ∧ x.V ≠ s.V) ∨ ¬ sEnd e < sEnd s ∧ stepC out s = out)) := by
  obtain ⟨h1, h2⟩ := bs_sorted h s.V
  have hp := List.pairwise_iff_getElem.1 h
  have hle : bsIx cmpSV out s.V ≤ out.length := bsIx_le
  cases hb : bsOk cmpSV out s.V with
  | false =>
    have hne : ∀ x ∈ out, x.V ≠ s.V := fun x hx ev => by
      obtain ⟨k, hk, rfl⟩ := List.mem_iff_getElem.1 hx
      have hkx := List.getElem?_eq_getElem hk
      rcases Nat.lt_trichotomy k (bsIx cmpSV out s.V) with hlt | heq | hgt
      · have := h1 k _ hlt hkx; rw [ev] at this; exact vcmp_irr _ this
      · have hkx' : out[bsIx cmpSV out s.V]? = some out[k] := by rw [← heq]; exact hkx
        have h5 := bsOk_some (f := cmpSV) (t := s.V) rfl hkx'
        rw [hb] at h5
        have h6 := of_decide_eq_false h5.symm
        exact h6 ((vcmp_zero _ _).2 ev)
      · have hix : bsIx cmpSV out s.V < out.length := by omega
        have q1 := h2 _ _ (Nat.le_refl _) (List.getElem?_eq_getElem hix)
        have q2 := hp _ k hix hk hgt
        rw [ev] at q2
        exact q1 q2
    have e := stepC_ins hb
    have hmem : ∀ x, x ∈ stepC out s ↔ x = s ∨ x ∈ out := fun x => by
      rw [e]
      simp only [List.mem_append, List.mem_singleton]
      have : x ∈ out ↔ x ∈ out.take (bsIx cmpSV out s.V) ∨ x ∈ out.drop (bsIx cmpSV out s.V) := by
        conv => lhs; rw [← List.take_append_drop (bsIx cmpSV out s.V) out]
        rw [List.mem_append]
      rw [this]
      constructor
      · rintro ((h | h) | h)
        · exact .inr (.inl h)
        · exact .inl h
        · exact .inr (.inr h)
      · rintro (h | h | h)
        · exact .inl (.inr h)
        · exact .inl (.inl h)
        · exact .inr h
    refine ⟨?_, .inl ⟨hne, hmem⟩⟩
    rw [e]
    have hsplit : SortedV (out.take (bsIx cmpSV out s.V) ++ out.drop (bsIx cmpSV out s.V)) := by rw [List.take_append_drop]; exact h
    obtain ⟨p1, p2, p3⟩ := List.pairwise_append.1 hsplit
    have ha : ∀ x ∈ out.take (bsIx cmpSV out s.V), vcmp x.V s.V < 0 := fun x hx => by
      obtain ⟨k, hk, rfl⟩ := List.mem_iff_getElem.1 hx
      rw [List.getElem_take]
      have hk' : k < bsIx cmpSV out s.V := by rw [List.length_take] at hk; omega
      exact h1 k _ hk' (List.getElem?_eq_getElem (by rw [List.length_take] at hk; omega))
    have hd : ∀ x ∈ out.drop (bsIx cmpSV out s.V), vcmp s.V x.V < 0 := fun x hx => by
      have hxo := List.mem_of_mem_drop hx
      obtain ⟨k, hk, rfl⟩ := List.mem_iff_getElem.1 hx
      rw [List.getElem_drop]
      have hk2 : bsIx cmpSV out s.V + k < out.length := by rw [List.length_drop] at hk; omega
      have q := h2 (bsIx cmpSV out s.V + k) _ (by omega) (List.getElem?_eq_getElem hk2)
      have q2 := hne _ (List.getElem_mem hk2)
      have q3 : vcmp (out[bsIx cmpSV out s.V + k]).V s.V ≠ 0 := fun e => q2 ((vcmp_zero _ _).1 e)
      have := vcmp_neg s.V (out[bsIx cmpSV out s.V + k]).V
      omega
    refine List.pairwise_append.2 ⟨List.pairwise_append.2 ⟨p1, List.pairwise_singleton _ _, fun x hx y hy => ?_⟩, p2, fun x hx y hy => ?_⟩
    · simp only [List.mem_singleton] at hy; subst hy; exact ha x hx
    · rcases List.mem_append.1 hx with hx | hx
      · exact p3 x hx y hy
      · simp only [List.mem_singleton] at hx; subst hx; exact hd y hy
  | true =>
    have hlt := bsOk_lt hb
    have hx := List.getElem?_eq_getElem hlt
    generalize he : out[bsIx cmpSV out s.V] = e at hx
    have heo : e ∈ out := List.mem_of_getElem? hx
    have hev : e.V = s.V := by
      have h5 := bsOk_some (f := cmpSV) (t := s.V) rfl hx
      rw [hb] at h5
      exact (vcmp_zero _ _).1 (of_decide_eq_true h5.symm)
    by_cases hE : sEnd e < sEnd s
    · have e1 := stepC_set hb hx hE
      have hmem : ∀ x, x ∈ stepC out s ↔ x = s ∨ x ∈ out ∧ x.V ≠ s.V := fun x => by
        rw [e1]
        constructor
        · intro hx'
          obtain ⟨k, hk, rfl⟩ := List.mem_iff_getElem.1 hx'
          rw [List.length_set] at hk
          rw [List.getElem_set]
          split
          · exact .inl rfl
          · rename_i hne
            refine .inr ⟨List.getElem_mem hk, fun ev => hne ?_⟩
            have := h.same (List.getElem_mem hk) heo (ev.trans hev.symm)
            rcases Nat.lt_trichotomy k (bsIx cmpSV out s.V) with hl | hl | hl
            · have := hp k _ hk hlt hl
              rw [ev, he, hev] at this; exact absurd this (vcmp_irr _)
            · exact hl.symm
            · have := hp _ k hlt hk hl
              rw [ev, he, hev] at this; exact absurd this (vcmp_irr _)
        · rintro (rfl | ⟨hxo, hxv⟩)
          · exact List.mem_iff_getElem.2 ⟨bsIx cmpSV out x.V, by rw [List.length_set]; exact hlt, by simp⟩
          · obtain ⟨k, hk, rfl⟩ := List.mem_iff_getElem.1 hxo
            refine List.mem_iff_getElem.2 ⟨k, by rw [List.length_set]; exact hk, ?_⟩
            rw [List.getElem_set, if_neg]
            intro hki
            subst hki
            exact hxv (by rw [he, hev])
      refine ⟨?_, .inr ⟨e, heo, hev, .inl ⟨hE, hmem⟩⟩⟩
      rw [e1]
      refine List.pairwise_iff_getElem.2 fun i j hi hj hij => ?_
      rw [List.length_set] at hi hj
      have := hp i j hi hj hij
      rw [List.getElem_set, List.getElem_set]
      split
      · rename_i hh; subst hh
        rw [if_neg (by omega)]
        rw [he, hev] at this; exact this
      · split
        · rename_i hh; subst hh
          rw [he, hev] at this; exact this
        · exact this
    · have e1 := stepC_stay hb hx hE
      exact ⟨by rw [e1]; exact h, .inr ⟨e, heo, hev, .inr ⟨hE, e1⟩⟩⟩
theorem cutTo_spec (l : List GState) : ∀ k, k ≤ l.length → SortedV (cutTo l k) ∧ (∀ x ∈ cutTo l k, ∃ i, i < k ∧ l[i]? = some x ∧ bestIn l x i k) ∧ (∀ j t, j < k → l[j]? = some t → ∃ x ∈ cutTo l k, x.V = t.V)
  | 0, _ => ⟨List.Pairwise.nil, fun x h => by simp [cutTo] at h, fun j t hj => absurd hj (Nat.not_lt_zero _)⟩
  | k + 1, hk => by
    obtain ⟨h1, h2, h3⟩ := cutTo_spec l k (by omega)
    have hs := List.getElem?_eq_getElem (l := l) (i := k) (by omega)
    generalize l[k] = s at hs
    rw [cutTo_next hs]
    obtain ⟨q1, q2⟩ := stepC_spec h1 s
    have hself : beats s s k k = false := beats_false.2 fun _ => ⟨by omega, by omega⟩
    have more : ∀ x i, bestIn l x i k → beats s x k i = false → bestIn l x i (k + 1) := fun x i hb hsx j t hj ht => by
      by_cases hjk : j < k
      · exact hb j t hjk ht
      · obtain rfl : j = k := by omega
        rw [hs] at ht; injection ht with ht; subst ht; exact hsx
    refine ⟨q1, ?_⟩
    rcases q2 with ⟨hne, hm⟩ | ⟨e, heo, hev, ⟨hE, hm⟩ | ⟨hE, hm⟩⟩
    · refine ⟨fun x hx => ?_, fun j t hj ht => ?_⟩
      · rcases (hm x).1 hx with rfl | hx
        · refine ⟨k, by omega, hs, more x k (fun j t hj ht => beats_false.2 fun ev => ?_) hself⟩
          obtain ⟨y, hy, hyv⟩ := h3 j t hj ht
          exact absurd (hyv.trans ev) (hne y hy)
        · obtain ⟨i, hi, hxi, hb⟩ := h2 x hx
          exact ⟨i, by omega, hxi, more x i hb (beats_false.2 fun ev => absurd ev.symm (hne x hx))⟩
      · by_cases hjk : j < k
        · obtain ⟨y, hy, hyv⟩ := h3 j t hjk ht
          exact ⟨y, (hm y).2 (.inr hy), hyv⟩
        · obtain rfl : j = k := by omega
          rw [hs] at ht; injection ht with ht; subst ht
          exact ⟨s, (hm s).2 (.inl rfl), rfl⟩
    · obtain ⟨i0, hi0, hxe, hbe⟩ := h2 e heo
      refine ⟨fun x hx => ?_, fun j t hj ht => ?_⟩
      · rcases (hm x).1 hx with rfl | ⟨hx, hxv⟩
        · refine ⟨k, by omega, hs, more x k (fun j t hj ht => beats_false.2 fun ev => ?_) hself⟩
          have := beats_false.1 (hbe j t hj ht) (ev.trans hev.symm)
          omega
        · obtain ⟨i, hi, hxi, hb⟩ := h2 x hx
          exact ⟨i, by omega, hxi, more x i hb (beats_false.2 fun ev => absurd ev.symm hxv)⟩
      · by_cases hjk : j < k
        · obtain ⟨y, hy, hyv⟩ := h3 j t hjk ht
          by_cases hys : y.V = s.V
          · exact ⟨s, (hm s).2 (.inl rfl), hys.symm.trans hyv⟩
          · exact ⟨y, (hm y).2 (.inr ⟨hy, hys⟩), hyv⟩
        · obtain rfl : j = k := by omega
          rw [hs] at ht; injection ht with ht; subst ht
          exact ⟨s, (hm s).2 (.inl rfl), rfl⟩
    · rw [hm]
      obtain ⟨i0, hi0, hxe, hbe⟩ := h2 e heo
      refine ⟨fun x hx => ?_, fun j t hj ht => ?_⟩
      · obtain ⟨i, hi, hxi, hb⟩ := h2 x hx
        refine ⟨i, by omega, hxi, more x i hb (beats_false.2 fun ev => ?_)⟩
        have hxe' : x = e := h1.same hx heo (ev.symm.trans hev.symm)
        subst hxe'
        exact ⟨hE, by omega⟩
      · by_cases hjk : j < k
        · exact h3 j t hjk ht
        · obtain rfl : j = k := by omega
          rw [hs] at ht; injection ht with ht; subst ht
          exact ⟨e, heo, hev⟩
/-- The code's Join is the reference's. -/
theorem joinC_eq (l : List GState) : joinC l = joinS l := by
  obtain ⟨h1, h2, h3⟩ := cutTo_spec l l.length (Nat.le_refl _)
  obtain ⟨g1, g2⟩ := joinTo_spec l l.length
  refine sorted_ext (List.Pairwise.filter _ h1) g1 fun x => ?_
  unfold joinC
  rw [List.mem_filter]
  refine Iff.trans ?_ (g2 x).symm
  constructor
  · rintro ⟨hx, hN⟩
    obtain ⟨i, hi, hxi, hb⟩ := h2 x hx
    exact ⟨i, hi, hxi, by simp at hN; omega, hb⟩
  · rintro ⟨i, hi, hxi, hN, hb⟩
    obtain ⟨y, hy, hyv⟩ := h3 i x hi hxi
    obtain ⟨j, hj, hyj, hby⟩ := h2 y hy
    have : x = y := bestIn_same hi hj hxi hyj hb hby hyv.symm
    subst this
    exact ⟨hy, by simp; omega⟩
end Go.FM
namespace Go.FM
theorem mem_joinS {l : List GState} {x : GState} : x ∈ joinS l ↔ ∃ k, l[k]? = some x ∧ 0 < x.V.N ∧ bestIn l x k l.length := by
  refine ((joinTo_spec l l.length).2 x).trans ⟨fun ⟨k, _, h⟩ => ⟨k, h⟩, fun ⟨k, h⟩ => ⟨k, (List.getElem?_eq_some_iff.1 h.1).1, h⟩⟩
theorem joinS_sorted (l : List GState) : SortedV (joinS l) := (joinTo_spec l l.length).1
theorem joinS_sub {l : List GState} {x : GState} (h : x ∈ joinS l) : x ∈ l := (joinTo_mem l _ x h).1
theorem joinS_has {l : List GState} {s : GState} (hs : s ∈ l) (hN : 0 < s.V.N) : ∃ y ∈ joinS l, y.V = s.V ∧ sEnd s ≤ sEnd y := by
  obtain ⟨h1, h2, h3⟩ := cutTo_spec l l.length (Nat.le_refl _)
  obtain ⟨j, hj, rfl⟩ := List.mem_iff_getElem.1 hs
  have hjs := List.getElem?_eq_getElem hj
  obtain ⟨y, hy, hyv⟩ := h3 j _ hj hjs
  obtain ⟨i, hi, hyi, hb⟩ := h2 y hy
  refine ⟨y, ?_, hyv, ?_⟩
  · rw [← joinC_eq]
    unfold joinC
    rw [List.mem_filter]
    exact ⟨hy, by rw [hyv]; simp; omega⟩
  · have := (beats_false.1 (hb j _ hj hjs) hyv.symm).1
    omega
theorem sorted_inj {a : List GState} (h : SortedV a) {i j : Nat} {x y : GState} (hi : a[i]? = some x) (hj : a[j]? = some y) (e : x.V = y.V) : i = j := by
  have hp := List.pairwise_iff_getElem.1 h
  obtain ⟨hi1, hi2⟩ := List.getElem?_eq_some_iff.1 hi
  obtain ⟨hj1, hj2⟩ := List.getElem?_eq_some_iff.1 hj
  rcases Nat.lt_trichotomy i j with h1 | h1 | h1
  · have := hp i j hi1 hj1 h1
    rw [hi2, hj2, e] at this; exact absurd this (vcmp_irr _)
  · exact h1
  · have := hp j i hj1 hi1 h1
    rw [hi2, hj2, e] at this; exact absurd this (vcmp_irr _)
theorem joinS_again {l : List GState} {m : List GState} (hm : ∀ s ∈ m, s ∈ l) : joinS (joinS l ++ m) = joinS l := by
  refine sorted_ext (joinS_sorted _) (joinS_sorted _) fun x => ?_
  constructor
  · intro hx
    obtain ⟨k, hk, hN, hb⟩ := mem_joinS.1 hx
    by_cases hkl : k < (joinS l).length
    · rw [List.getElem?_append_left hkl] at hk; exact List.mem_of_getElem? hk
    · have hxl : x ∈ l := by
        rcases List.mem_append.1 (List.mem_of_getElem? hk) with h | h
        · exact joinS_sub h
        · exact hm x h
      obtain ⟨y, hy, hyv, hye⟩ := joinS_has hxl hN
      obtain ⟨j, hj, rfl⟩ := List.mem_iff_getElem.1 hy
      have h1 := hb j (joinS l)[j] (by rw [List.length_append]; omega) (by rw [List.getElem?_append_left hj]; exact List.getElem?_eq_getElem hj)
      have h2 := beats_false.1 h1 hyv
      omega
  · intro hx
    obtain ⟨k, hk, rfl⟩ := List.mem_iff_getElem.1 hx
    have hkx := List.getElem?_eq_getElem hk
    have hN := (joinTo_mem l _ _ hx).2
    refine mem_joinS.2 ⟨k, by rw [List.getElem?_append_left hk]; exact hkx, hN, fun j t hj ht => beats_false.2 fun ev => ?_⟩
    by_cases hjl : j < (joinS l).length
    · rw [List.getElem?_append_left hjl] at ht
      have := sorted_inj (joinS_sorted l) ht hkx ev
      subst this
      rw [hkx] at ht; injection ht with ht; subst ht
      exact ⟨by omega, by omega⟩
    · refine ⟨?_, by omega⟩
      have htl : t ∈ l := by
        rcases List.mem_append.1 (List.mem_of_getElem? ht) with h | h
        · exact joinS_sub h
        · exact hm t h
      obtain ⟨y, hy, hyv, hye⟩ := joinS_has htl (by rw [ev]; exact hN)
      have := (joinS_sorted l).same hy hx (hyv.trans ev)
      subst this
      omega
theorem joinS_idem (l : List GState) : joinS (joinS l) = joinS l := by
  have := joinS_again (l := l) (m := []) (fun s h => absurd h List.not_mem_nil)
  rwa [List.append_nil] at this
/-! ### forms -/
def badFrom (x : GItem) : Bool := decide (x.From < 0 ∨ 16 ≤ x.From)
theorem idxP_any {α : Type} (p : α → Bool) (l : List α) : decide (0 ≤ idxP p l) = l.any p := by
  rcases idxP_find p l with ⟨h1, h2⟩ | ⟨i, x, h1, h2, h3⟩
  · have : l.any p = false := by
      rw [List.any_eq_false]
      rw [List.find?_eq_none] at h2
      exact h2
    rw [this, h1]; rfl
  · have : l.any p = true := List.any_eq_true.2 ⟨x, List.mem_of_getElem? h2, by have := List.find?_some h3; exact this⟩
    rw [this, h1]; simp
theorem good_from (x : GItem) : (!badFrom x) = decide (0 ≤ x.From ∧ x.From < 16) := by
  unfold badFrom
  rw [← decide_not]
  exact decide_eq_decide.2 (by omega)
theorem all_good (l : List GItem) : (!l.any badFrom) = l.all (fun x => decide (0 ≤ x.From ∧ x.From < 16)) := by
  induction l with
  | nil => rfl
  | cons x l ih => rw [List.any_cons, List.all_cons, Bool.not_or, ih, good_from]
theorem sForm_false {s : GState} (h : formV s.V.N s.V.P = false ∨ s.Floor < 0 ∨ 1073741824 < s.Floor ∨ (s.V.N = 0 ∧ 0 < sEnd s)) : sForm s = false := by
  unfold sForm
  rcases h with h | h
  · rw [h]; rfl
  · have : decide (0 ≤ s.Floor ∧ s.Floor ≤ 1073741824 ∧ (s.V.N = 0 → sEnd s ≤ 0)) = false := decide_eq_false (by omega)
    rw [this]; simp
theorem sForm_true {s : GState} (h : formV s.V.N s.V.P = true) (h2 : 0 ≤ s.Floor ∧ s.Floor ≤ 1073741824 ∧ (s.V.N = 0 → sEnd s ≤ 0)) : sForm s = !s.Items.any badFrom := by
  unfold sForm
  rw [h, decide_eq_true h2, all_good]; rfl
theorem sForm_item {s : GState} {i : Nat} {x : GItem} (hx : s.Items[i]? = some x) (h : x.From < 0 ∨ 15 < x.From) : sForm s = false := by
  unfold sForm
  have : s.Items.all (fun x => decide (0 ≤ x.From ∧ x.From < 16)) = false := by
    rw [List.all_eq_false]
    exact ⟨x, List.mem_of_getElem? hx, by simp; omega⟩
  rw [this]; simp
theorem sForm_end {s : GState} {i : Nat} (h : ∀ (j : Nat) (y : GItem), j < i → s.Items[j]? = some y → decide (0 ≤ y.From ∧ y.From < 16) = true) (hi : s.Items.length ≤ i) :
    sForm s = (formV s.V.N s.V.P && decide (0 ≤ s.Floor ∧ s.Floor ≤ 1073741824 ∧ (s.V.N = 0 → sEnd s ≤ 0))) := by
  unfold sForm
  have : s.Items.all (fun x => decide (0 ≤ x.From ∧ x.From < 16)) = true := by
    rw [List.all_eq_true]
    intro x hx
    obtain ⟨j, hj, rfl⟩ := List.mem_iff_getElem.1 hx
    exact h j _ (by omega) (List.getElem?_eq_getElem hj)
  rw [this, Bool.and_true]
end Go.FM
