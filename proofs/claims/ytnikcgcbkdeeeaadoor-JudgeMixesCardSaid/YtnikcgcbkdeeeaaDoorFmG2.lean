/- Regions that draw their order: operations that turn memory, some of which come behind all that only read ahead of them. -/
import Derived.Test.YtnikcgcbkdeeeaaDoorFmG
set_option linter.unusedVariables false
set_option linter.unusedSimpArgs false
namespace Go.FM
open Go

section
variable {P : Program} {ops : Array Oper} {Q : Exit → Act → World → Prop} {md : Region.Mode} {S S' : World → Prop} {Z F : List Nat}
/-- One that comes behind another, maybe through others. -/
def depT (md : Region.Mode) (ops : Array Oper) : Nat → Nat → Nat → Bool
  | 0, _, _ => false
  | f + 1, k, j => ((ops[k]?).map fun o => (o.after.any fun e => Region.binds md e && Nat.beq e.on j) || (o.after.any fun e => Region.binds md e && depT md ops f e.on j)).getD false
def depB (md : Region.Mode) (ops : Array Oper) (k j : Nat) : Bool := depT md ops 4 k j
/-- All that a listed one comes behind is listed. -/
def Closed (md : Region.Mode) (ops : Array Oper) (listed : Array Bool) : Prop := ∀ m o, ops[m]? = some o → listed.getD m false = true → ∀ e ∈ o.after, Region.binds md e = true → listed.getD e.on false = true
theorem set_mono {listed : Array Bool} {j m : Nat} (h : listed.getD m false = true) : (listed.setIfInBounds j true).getD m false = true := by
  by_cases hjm : j = m
  · subst hjm
    rcases Nat.lt_or_ge j listed.size with h' | h'
    · simp [h']
    · simp [Array.getElem?_eq_none h'] at h
  · rw [getD_set_ne false hjm]; exact h
theorem Closed.set {listed : Array Bool} {j : Nat} (hc : Closed md ops listed) (hj : j ∈ Region.ready md ops listed) : Closed md ops (listed.setIfInBounds j true) := by
  obtain ⟨_, oj, hoj, hall⟩ := mem_ready.1 hj
  intro m o ho hm e he hb
  by_cases hjm : j = m
  · subst hjm
    rw [ho] at hoj; injection hoj with hoj; subst hoj
    exact set_mono (hall e he hb)
  · rw [getD_set_ne false hjm] at hm
    exact set_mono (hc m o ho hm e he hb)
theorem depT_listed {listed : Array Bool} (hc : Closed md ops listed) {j : Nat} : ∀ (f k : Nat), depT md ops f k j = true → (∀ o, ops[k]? = some o → ∀ e ∈ o.after, Region.binds md e = true → listed.getD e.on false = true) → listed.getD j false = true
  | 0, _, h, _ => by cases h
  | f + 1, k, h, hl => by
    unfold depT at h
    cases ho : ops[k]? with
    | none => rw [ho] at h; cases h
    | some o =>
      rw [ho] at h
      simp only [Option.map_some, Option.getD_some, Bool.or_eq_true] at h
      rcases h with h | h
      · obtain ⟨e, he, hb⟩ := Array.any_eq_true'.1 h
        simp only [Bool.and_eq_true] at hb
        have := hl o ho e he hb.1
        rwa [Nat.eq_of_beq_eq_true hb.2] at this
      · obtain ⟨e, he, hb⟩ := Array.any_eq_true'.1 h
        simp only [Bool.and_eq_true] at hb
        exact depT_listed hc f e.on hb.2 fun o' ho' => hc e.on o' ho' (hl o ho e he hb.1)
theorem depB_spec {k j : Nat} (h : depB md ops k j = true) {listed : Array Bool} (hc : Closed md ops listed) (hr : k ∈ Region.ready md ops listed) : listed.getD j false = true := by
  obtain ⟨_, o, ho, hall⟩ := mem_ready.1 hr
  exact depT_listed hc 4 k h fun o' ho' => by rw [ho] at ho'; injection ho' with ho'; subst ho'; exact hall
/-- Whatever order is picked from here on; what is known of memory (S) only grows, but at the operations Z. -/
def wpG2 (P : Program) (md : Region.Mode) (ops : Array Oper) (Z : List Nat) (Q : Exit → Act → World → Prop) : Nat → Array Bool → (World → Prop) → Act → World → Prop
  | 0, listed, _, a, w => Region.ready md ops listed = [] ∧ Q .normal a w
  | fuel + 1, listed, S, a, w =>
    (Region.ready md ops listed = [] → Q .normal a w) ∧
    ∀ i ∈ Region.ready md ops listed, wpOp P ops Q i (fun a' w' => ∃ S' : World → Prop, ((Z.contains i = false → ∀ u, S' u → S u) ∧ S' w') ∧ wpG2 P md ops Z Q fuel (listed.setIfInBounds i true) S' a' w') a w
theorem wpAny_of_g2 : ∀ (fuel : Nat) (listed : Array Bool) (S : World → Prop) (a : Act) (w : World), wpG2 P md ops Z Q fuel listed S a w → wpAny P md ops Q fuel listed a w
  | 0, _, _, _, _, h => h
  | fuel + 1, _, _, _, _, h => ⟨h.1, fun i hi => wpOp_mono (fun a' w' ⟨_, _, h'⟩ => wpAny_of_g2 fuel _ _ a' w' h') (h.2 i hi)⟩
def SS (free : Bool) (S : World → Prop) : World → Prop := if free then fun _ => True else S
theorem SS.of {free : Bool} {w : World} (h : S w) : SS free S w := by cases free <;> simp [SS, h]
theorem wpG2_first {free : Bool} {i : Nat} {oi : Oper} {v : Value} (hi : ops[i]? = some oi) (hsel : ∀ (j : Nat) (o : Oper) cs b, ops[j]? = some o → o.op ≠ .select cs b)
    (hQ : ∀ c a w, Q (.panic c) (a.put oi.dst v) w → Q (.panic c) a w) :
    ∀ (fuel : Nat) (listed : Array Bool) (S : World → Prop) (a : Act) (w : World), Closed md ops listed → (free = false → ∀ k, Z.contains k = true → listed.getD k false = true ∨ depB md ops k i = true) →
      (∀ j oj, ops[j]? = some oj → j ≠ i → listed.getD j true = false → (∀ e ∈ oj.after, Region.binds md e = true → e.on ≠ i) → oi.apart ops oj = true) →
      i ∈ Region.ready md ops listed → YieldsIf P ops (SS free S) oi v a → S w →
      wpG2 P md ops Z Q fuel (listed.setIfInBounds i true) S (a.put oi.dst v) w → wpG2 P md ops Z Q (fuel + 1) listed S a w := by
  intro fuel
  induction fuel with
  | zero =>
    intro listed S a w hcl hz _ hr hy hS H
    refine ⟨fun h => (by rw [h] at hr; cases hr), fun j hj => ?_⟩
    by_cases hji : j = i
    · subst hji; exact hy.wpOp hi (SS.of hS) ⟨S, ⟨fun _ _ h => h, hS⟩, H⟩
    · have := ready_mono hj hji
      rw [H.1] at this
      cases this
  | succ fuel ih =>
    intro listed S a w hcl hz hfree hr hy hS H
    refine ⟨fun h => (by rw [h] at hr; cases hr), fun j hj => ?_⟩
    by_cases hji : j = i
    · subst hji; exact hy.wpOp hi (SS.of hS) ⟨S, ⟨fun _ _ h => h, hS⟩, H⟩
    · have h1 := H.2 j (ready_mono hj hji)
      obtain ⟨hjun, oj, hoj, hall⟩ := mem_ready.1 hj
      have hnot : ∀ e ∈ oj.after, Region.binds md e = true → e.on ≠ i := fun e he hb heq => by
        have h1 := hall e he hb
        have h0 := (mem_ready.1 hr).1
        rw [heq] at h1
        rcases Nat.lt_or_ge i listed.size with h' | h'
        · simp [h'] at h0 h1; rw [h0] at h1; cases h1
        · simp [Array.getElem?_eq_none h'] at h1
      have h2 := wpOp_putIf hoj (hfree j oj hoj hji hjun hnot) (fun cs b => hsel i oi cs b hi) (fun cs b => hsel j oj cs b hoj) hQ hy h1
      have hfree' : ∀ k ok, ops[k]? = some ok → k ≠ i → (listed.setIfInBounds j true).getD k true = false →
          (∀ e ∈ ok.after, Region.binds md e = true → e.on ≠ i) → oi.apart ops ok = true := fun k ok hk hki hun hno => by
        refine hfree k ok hk hki ?_ hno
        by_cases hjk : j = k
        · subst hjk; exact hjun
        · rw [getD_set_ne true hjk] at hun; exact hun
      have hiu : listed.getD i false = false := by
        have hil := (mem_ready.1 hr).1
        rcases Nat.lt_or_ge i listed.size with h' | h'
        · simp [h'] at hil ⊢; exact hil
        · simp [Array.getElem?_eq_none h']
      have hju : listed.getD j false = false := by
        rcases Nat.lt_or_ge j listed.size with h' | h'
        · simp [h'] at hjun ⊢; exact hjun
        · simp [Array.getElem?_eq_none h']
      have hzj : free = false → Z.contains j = false := fun hf => by
        cases hc : Z.contains j with
        | false => rfl
        | true =>
          rcases hz hf j hc with h5 | h5
          · rw [hju] at h5; cases h5
          · have := depB_spec h5 hcl hj
            rw [hiu] at this; cases this
      have hz' : free = false → ∀ k, Z.contains k = true → (listed.setIfInBounds j true).getD k false = true ∨ depB md ops k i = true := fun hf k hk => by
        rcases hz hf k hk with h5 | h5
        · left
          by_cases hjk : j = k
          · subst hjk; rw [hju] at h5; cases h5
          · rw [getD_set_ne false hjk]; exact h5
        · exact .inr h5
      refine wpOp_mono (fun a' w' h3 => ?_) h2
      obtain ⟨hy', S', hs, H'⟩ := h3
      have hs1 : ∀ u, SS free S' u → SS free S u := by
        cases free with
        | true => exact fun _ h => h
        | false => exact hs.1 (hzj rfl)
      refine ⟨S', hs, ih (listed.setIfInBounds j true) S' a' w' (hcl.set hj) hz' hfree' (ready_mono hr (Ne.symm hji)) (yieldsIf_mono hy' hs1) hs.2 ?_⟩
      rw [Array.setIfInBounds_comm _ _ hji]
      exact H'
/-- A plan: which operation comes next; where two may, what follows each. -/
inductive Pl where
  | done
  | q (k : Nat) (r : Pl)
  | e (k : Nat) (r : Pl)
  | two (k₁ : Nat) (r₁ : Pl) (k₂ : Nat) (r₂ : Pl)
def Pl.len : Pl → Nat
  | .done => 0
  | .q _ r => r.len + 1
  | .e _ r => r.len + 1
  | .two _ r₁ _ _ => r₁.len + 1
def wpT (P : Program) (ops : Array Oper) (Z F : List Nat) (K : Act → World → Prop) : Pl → (World → Prop) → Act → World → Prop
  | .done, _, a, w => K a w
  | .q k r, S, a, w => ∃ o v, ops[k]? = some o ∧ YieldsIf P ops (SS (F.contains k) S) o v a ∧ wpT P ops Z F K r S (a.put o.dst v) w
  | .e k r, S, a, w => ∃ o, ops[k]? = some o ∧ wpList P ops (Qn fun a' w' => ∃ S' : World → Prop, ((Z.contains k = false → ∀ u, S' u → S u) ∧ S' w') ∧ wpT P ops Z F K r S' a' w') [o] a w
  | .two k₁ r₁ k₂ r₂, S, a, w => (∃ o, ops[k₁]? = some o ∧ wpList P ops (Qn fun a' w' => ∃ S' : World → Prop, ((Z.contains k₁ = false → ∀ u, S' u → S u) ∧ S' w') ∧ wpT P ops Z F K r₁ S' a' w') [o] a w) ∧ (∃ o, ops[k₂]? = some o ∧ wpList P ops (Qn fun a' w' => ∃ S' : World → Prop, ((Z.contains k₂ = false → ∀ u, S' u → S u) ∧ S' w') ∧ wpT P ops Z F K r₂ S' a' w') [o] a w)
def planT (md : Region.Mode) (ops : Array Oper) (Z F : List Nat) : Pl → Array Bool → Bool
  | .done, listed => (Region.ready md ops listed).isEmpty
  | .q k r, listed => (Region.ready md ops listed).contains k && Region.free md ops listed k && (F.contains k || Z.all fun z => listed.getD z false || depB md ops z k) && planT md ops Z F r (listed.setIfInBounds k true)
  | .e k r, listed => decide (Region.ready md ops listed = [k]) && planT md ops Z F r (listed.setIfInBounds k true)
  | .two k₁ r₁ k₂ r₂, listed => decide (Region.ready md ops listed = [k₁, k₂]) && Nat.beq r₁.len r₂.len && planT md ops Z F r₁ (listed.setIfInBounds k₁ true) && planT md ops Z F r₂ (listed.setIfInBounds k₂ true)
theorem closed_none (n : Nat) : Closed md ops (Array.replicate n false) := fun m o _ h => by
  rcases Nat.lt_or_ge m n with h' | h'
  · simp [h'] at h
  · simp [h'] at h
theorem wpT_sound (hsel : Region.noSelect ops = true) {K : Act → World → Prop} : ∀ (pl : Pl) (listed : Array Bool) (S : World → Prop) (a : Act) (w : World),
    Closed md ops listed → planT md ops Z F pl listed = true → S w → wpT P ops Z F K pl S a w → wpG2 P md ops Z (Qn K) pl.len listed S a w
  | .done, listed, S, a, w, hc, hB, hS, h => ⟨by simpa [planT] using hB, rfl, h⟩
  | .q k r, listed, S, a, w, hc, hB, hS, h => by
    simp only [planT, Bool.and_eq_true] at hB
    obtain ⟨o, v, ho, hy, h⟩ := h
    refine wpG2_first ho (Region.noSelect_spec hsel) (fun c a w h => absurd h.1 (by intro e; cases e)) r.len listed S a w hc (fun hf z hz => ?_) (Region.free_spec ho hB.1.1.2) (by simpa using hB.1.1.1) hy hS (wpT_sound hsel r _ S _ w (hc.set (by simpa using hB.1.1.1)) hB.2 hS h)
    rw [hf, Bool.false_or] at hB
    have := List.all_eq_true.1 hB.1.2 z (by simpa using hz)
    simpa using this
  | .e k r, listed, S, a, w, hc, hB, hS, h => by
    simp only [planT, Bool.and_eq_true, decide_eq_true_eq] at hB
    obtain ⟨o, ho, h⟩ := h
    refine ⟨fun h0 => (by rw [hB.1] at h0; cases h0), fun i hi => ?_⟩
    have hi' := hi
    rw [hB.1] at hi
    obtain rfl : i = k := by simpa using hi
    have h1 := wpOp_of_one (K' := K) ho h
    exact wpOp_mono (fun a' w' ⟨S', hs, h'⟩ => ⟨S', hs, wpT_sound hsel r _ S' a' w' (hc.set hi') hB.2 hs.2 h'⟩) h1
  | .two k₁ r₁ k₂ r₂, listed, S, a, w, hc, hB, hS, h => by
    simp only [planT, Bool.and_eq_true, decide_eq_true_eq] at hB
    obtain ⟨⟨⟨hB0, hBl⟩, hB1⟩, hB2⟩ := hB
    have hl : r₂.len = r₁.len := (Nat.eq_of_beq_eq_true hBl).symm
    obtain ⟨⟨o₁, ho₁, h₁⟩, o₂, ho₂, h₂⟩ := h
    refine ⟨fun h0 => (by rw [hB0] at h0; cases h0), fun i hi => ?_⟩
    have hi' := hi
    rw [hB0] at hi
    have hi : i = k₁ ∨ i = k₂ := by simpa using hi
    rcases hi with rfl | rfl
    · have h1 := wpOp_of_one (K' := K) ho₁ h₁
      exact wpOp_mono (fun a' w' ⟨S', hs, h'⟩ => ⟨S', hs, wpT_sound hsel r₁ _ S' a' w' (hc.set hi') hB1 hs.2 h'⟩) h1
    · have h1 := wpOp_of_one (K' := K) ho₂ h₂
      refine wpOp_mono (fun a' w' ⟨S', hs, h'⟩ => ⟨S', hs, ?_⟩) h1
      have := wpT_sound hsel r₂ _ S' a' w' (hc.set hi') hB2 hs.2 h'
      rw [hl] at this
      exact this
end
section
variable {P : Program} {Q : Exit → Act → World → Prop} {N : Nat} {ρ : Nat → Value} {w : World} {S : World → Prop}
/-- The beginning. -/
theorem t_region {id : Nat} {l : List Oper} {H : Hp} {L L' : List Res} (Z F : List Nat) (pl : Pl) (hm : P.follows .mixedOrders = true) (hs : St H w L) (hk : ∀ u, St H u L → St H u L')
    (hB : (Region.noSelect l.toArray && Nat.beq pl.len l.length && planT .any l.toArray Z F pl (Array.replicate l.length false)) = true)
    (h : ∀ w, St H w L → wpT P l.toArray Z F (Q .normal) pl (fun u => St H u L') (en N ρ) w) : (Code.region id l.toArray true).wp P Q (en N ρ) w := by
  simp only [Bool.and_eq_true] at hB
  obtain ⟨⟨hB1, hB2⟩, hB3⟩ := hB
  have hlen : pl.len = l.length := Nat.eq_of_beq_eq_true hB2
  refine Code.wp_mono (Q := Qn (Q .normal)) (fun e a w hq => by rw [hq.1]; exact hq.2) (wp_region_any hm (wpAny_of_g2 (Z := Z) _ _ (fun u => St H u L') _ _ ?_))
  have := wpT_sound (md := .any) (Z := Z) hB1 pl _ _ (en N ρ) _ (closed_none _) hB3 (hk _ (hs.drawn (w.drawn + 1))) (h _ (hs.drawn (w.drawn + 1)))
  rw [hlen] at this
  simpa using this
variable {ops : Array Oper} {Z F : List Nat} {K : Act → World → Prop} {r r₁ r₂ : Pl} {k d ty : Nat} {pos : String} {aft : Array Edge} {op : Op} {v : Value}
theorem t_nil (h : K (en N ρ) w) : wpT P ops Z F K .done S (en N ρ) w := h
theorem t_st (hf : F.contains k = false) (ho : ops[k]? = some ⟨some d, op, ty, pos, aft, none⟩) (hr : ∀ w, S w → Ex P N ρ w op ty v w) (h : wpT P ops Z F K r S (en N (up ρ d v)) w) : wpT P ops Z F K (.q k r) S (en N ρ) w := by
  refine ⟨_, v, ho, .inl ⟨by simp [Region.wanted], fun u hu => hr u (by rw [hf] at hu; exact hu) _ _ _ _⟩, ?_⟩
  rw [en_put]; exact h
theorem t_fr (ho : ops[k]? = some ⟨some d, op, ty, pos, aft, none⟩) (hr : ∀ w, True → Ex P N ρ w op ty v w) (h : wpT P ops Z F K r S (en N (up ρ d v)) w) : wpT P ops Z F K (.q k r) S (en N ρ) w := by
  refine ⟨_, v, ho, .inl ⟨by simp [Region.wanted], fun u hu => hr u trivial _ _ _ _⟩, ?_⟩
  rw [en_put]; exact h
theorem t_yes {j : Nat} {b : Bool} (hf : F.contains k = false) (ho : ops[k]? = some ⟨some d, op, ty, pos, aft, some (j, b)⟩) (hy : yielded ops (en N ρ).tmps j = some b) (hr : ∀ w, S w → Ex P N ρ w op ty v w) (h : wpT P ops Z F K r S (en N (up ρ d v)) w) : wpT P ops Z F K (.q k r) S (en N ρ) w := by
  refine ⟨_, v, ho, .inl ⟨by simp [Region.wanted, hy], fun u hu => hr u (by rw [hf] at hu; exact hu) _ _ _ _⟩, ?_⟩
  rw [en_put]; exact h
theorem t_no {j : Nat} {b c : Bool} (ho : ops[k]? = some ⟨some d, op, ty, pos, aft, some (j, b)⟩) (hy : yielded ops (en N ρ).tmps j = some c) (hn : (c == b) = false) (h : wpT P ops Z F K r S (en N (up ρ d (.tuple #[]))) w) : wpT P ops Z F K (.q k r) S (en N ρ) w := by
  refine ⟨_, .tuple #[], ho, .inr ⟨by simp [Region.wanted, hy]; simpa using hn, rfl⟩, ?_⟩
  rw [en_put]; exact h
theorem t_no0 {j : Nat} {b : Bool} (ho : ops[k]? = some ⟨some d, op, ty, pos, aft, some (j, b)⟩) (hy : yielded ops (en N ρ).tmps j = none) (h : wpT P ops Z F K r S (en N (up ρ d (.tuple #[]))) w) : wpT P ops Z F K (.q k r) S (en N ρ) w := by
  refine ⟨_, .tuple #[], ho, .inr ⟨by simp [Region.wanted, hy], rfl⟩, ?_⟩
  rw [en_put]; exact h
theorem t_eff {o : Oper} (ho : ops[k]? = some o) (h : wpList P ops (Qn fun a' w' => ∃ S' : World → Prop, ((Z.contains k = false → ∀ u, S' u → S u) ∧ S' w') ∧ wpT P ops Z F K r S' a' w') [o] (en N ρ) w) : wpT P ops Z F K (.e k r) S (en N ρ) w := ⟨o, ho, h⟩
theorem t_on {S' : World → Prop} (hs : ∀ u, S' u → S u) (hw : S' w) (h : wpT P ops Z F K r S' (en N ρ) w) :
    wpList P ops (Qn fun a' w' => ∃ S' : World → Prop, ((Z.contains k = false → ∀ u, S' u → S u) ∧ S' w') ∧ wpT P ops Z F K r S' a' w') [] (en N ρ) w := ⟨rfl, S', ⟨fun _ => hs, hw⟩, h⟩
/-- Two may come next. -/
theorem t_two {k₁ k₂ : Nat} (h₁ : wpT P ops Z F K (.e k₁ r₁) S (en N ρ) w) (h₂ : wpT P ops Z F K (.e k₂ r₂) S (en N ρ) w) : wpT P ops Z F K (.two k₁ r₁ k₂ r₂) S (en N ρ) w := ⟨h₁, h₂⟩
/-- Behind all that reads ahead of it: what is known is known anew. -/
theorem t_new {S' : World → Prop} (hz : Z.contains k = true) (hw : S' w) (h : wpT P ops Z F K r S' (en N ρ) w) :
    wpList P ops (Qn fun a' w' => ∃ S' : World → Prop, ((Z.contains k = false → ∀ u, S' u → S u) ∧ S' w') ∧ wpT P ops Z F K r S' a' w') [] (en N ρ) w := ⟨rfl, S', ⟨fun e => (by rw [hz] at e; cases e), hw⟩, h⟩
end
end Go.FM
