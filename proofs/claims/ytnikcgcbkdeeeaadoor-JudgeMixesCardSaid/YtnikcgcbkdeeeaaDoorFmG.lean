/- Regions that draw their order, some of whose operations turn memory: one order serves all. -/
import Derived.Test.YtnikcgcbkdeeeaaDoorFmE
import Derived.Orders
import Derived.OrdersHeld
set_option linter.unusedVariables false
set_option linter.unusedSimpArgs false
namespace Go.FM
open Go

section
variable {P : Program} {ops : Array Oper} {Q : Exit → Act → World → Prop} {md : Region.Mode} {S S' : World → Prop} {z : Option Nat}

/-- An operation that comes behind all others. -/
def lastB (md : Region.Mode) (ops : Array Oper) (k : Nat) : Bool := (List.range ops.size).all fun j => Nat.beq j k || ((ops[k]?).map fun o => o.after.any fun e => Region.binds md e && Nat.beq e.on j).getD false
theorem lastB_spec {k j : Nat} (h : lastB md ops k = true) (hj : j < ops.size) (hjk : j ≠ k) {listed : Array Bool} (hr : k ∈ Region.ready md ops listed) : listed.getD j false = true := by
  obtain ⟨_, o, ho, hall⟩ := mem_ready.1 hr
  have := List.all_eq_true.1 h j (List.mem_range.2 hj)
  simp only [Bool.or_eq_true, ho, Option.map_some, Option.getD_some] at this
  rcases this with h1 | h1
  · exact absurd (Nat.eq_of_beq_eq_true h1) hjk
  · obtain ⟨e, he, hb⟩ := Array.any_eq_true'.1 h1
    simp only [Bool.and_eq_true] at hb
    have := hall e he hb.1
    rwa [Nat.eq_of_beq_eq_true hb.2] at this
/-- Whatever order is picked from here on; what is known of memory (S) only grows, but at the operation z, which comes behind all others. -/
def wpG (P : Program) (md : Region.Mode) (ops : Array Oper) (z : Option Nat) (Q : Exit → Act → World → Prop) : Nat → Array Bool → (World → Prop) → Act → World → Prop
  | 0, listed, _, a, w => Region.ready md ops listed = [] ∧ Q .normal a w
  | fuel + 1, listed, S, a, w =>
    (Region.ready md ops listed = [] → Q .normal a w) ∧
    ∀ i ∈ Region.ready md ops listed, wpOp P ops Q i (fun a' w' => ∃ S' : World → Prop, (z ≠ some i → (∀ u, S' u → S u) ∧ S' w') ∧ wpG P md ops z Q fuel (listed.setIfInBounds i true) S' a' w') a w
theorem wpAny_of_g : ∀ (fuel : Nat) (listed : Array Bool) (S : World → Prop) (a : Act) (w : World), wpG P md ops z Q fuel listed S a w → wpAny P md ops Q fuel listed a w
  | 0, _, _, _, _, h => h
  | fuel + 1, _, _, _, _, h => ⟨h.1, fun i hi => wpOp_mono (fun a' w' ⟨_, _, h'⟩ => wpAny_of_g fuel _ _ a' w' h') (h.2 i hi)⟩
theorem yieldsIf_mono {o : Oper} {v : Value} {a : Act} (h : YieldsIf P ops S o v a) (hs : ∀ u, S' u → S u) : YieldsIf P ops S' o v a :=
  h.imp (fun ⟨hw, hv⟩ => ⟨hw, fun w hw' => hv w (hs w hw')⟩) id
theorem wpG_first (hz : ∀ k, z = some k → lastB md ops k = true) {i : Nat} {oi : Oper} {v : Value} (hi : ops[i]? = some oi) (hsel : ∀ (j : Nat) (o : Oper) cs b, ops[j]? = some o → o.op ≠ .select cs b)
    (hQ : ∀ c a w, Q (.panic c) (a.put oi.dst v) w → Q (.panic c) a w) :
    ∀ (fuel : Nat) (listed : Array Bool) (S : World → Prop) (a : Act) (w : World),
      (∀ j oj, ops[j]? = some oj → j ≠ i → listed.getD j true = false → (∀ e ∈ oj.after, Region.binds md e = true → e.on ≠ i) → oi.apart ops oj = true) →
      i ∈ Region.ready md ops listed → YieldsIf P ops S oi v a → S w →
      wpG P md ops z Q fuel (listed.setIfInBounds i true) S (a.put oi.dst v) w → wpG P md ops z Q (fuel + 1) listed S a w := by
  intro fuel
  induction fuel with
  | zero =>
    intro listed S a w _ hr hy hS H
    refine ⟨fun h => (by rw [h] at hr; cases hr), fun j hj => ?_⟩
    by_cases hji : j = i
    · subst hji; exact hy.wpOp hi hS ⟨S, fun _ => ⟨fun _ h => h, hS⟩, H⟩
    · have := ready_mono hj hji
      rw [H.1] at this
      cases this
  | succ fuel ih =>
    intro listed S a w hfree hr hy hS H
    refine ⟨fun h => (by rw [h] at hr; cases hr), fun j hj => ?_⟩
    by_cases hji : j = i
    · subst hji; exact hy.wpOp hi hS ⟨S, fun _ => ⟨fun _ h => h, hS⟩, H⟩
    · have h1 := H.2 j (ready_mono hj hji)
      obtain ⟨hjun, oj, hoj, hall⟩ := mem_ready.1 hj
      have hnot : ∀ e ∈ oj.after, Region.binds md e = true → e.on ≠ i := fun e he hb heq => by
        have h1 := hall e he hb
        have h0 := (mem_ready.1 hr).1
        rw [heq] at h1
        rcases Nat.lt_or_ge i listed.size with h' | h'
        · simp [h'] at h0 h1; rw [h0] at h1; cases h1
        · simp [Array.getElem?_eq_none h'] at h1
      have h2 := wpOp_putIf hoj (hfree j oj hoj hji hjun hnot) (fun cs b => hsel i oi cs b hi) (fun cs b => hsel j oj cs b hoj) hQ hy h1
      have hfree' : ∀ k ok, ops[k]? = some ok → k ≠ i → (listed.setIfInBounds j true).getD k true = false →
          (∀ e ∈ ok.after, Region.binds md e = true → e.on ≠ i) → oi.apart ops ok = true := fun k ok hk hki hun hno => by
        refine hfree k ok hk hki ?_ hno
        by_cases hjk : j = k
        · subst hjk; exact hjun
        · rw [getD_set_ne true hjk] at hun; exact hun
      refine wpOp_mono (fun a' w' h3 => ?_) h2
      obtain ⟨hy', S', hs, H'⟩ := h3
      have hzj : z ≠ some j := fun e => by
        have hil := (mem_ready.1 hr).1
        have hin : i < ops.size := (Array.getElem?_eq_some_iff.1 hi).1
        have h5 := lastB_spec (hz j e) hin (Ne.symm hji) hj
        rcases Nat.lt_or_ge i listed.size with h' | h'
        · simp [h'] at hil h5; rw [hil] at h5; cases h5
        · simp [Array.getElem?_eq_none h'] at h5
      obtain ⟨hs1, hs2⟩ := hs hzj
      refine ⟨S', hs, ih (listed.setIfInBounds j true) S' a' w' hfree' (ready_mono hr (Ne.symm hji)) (yieldsIf_mono hy' hs1) hs2 ?_⟩
      rw [Array.setIfInBounds_comm _ _ hji]
      exact H'

/-! ### by a plan: (number, true): an operation that only yields; (number, false): the only one that may come up -/
def Qn (K : Act → World → Prop) : Exit → Act → World → Prop := fun e a w => e = .normal ∧ K a w
theorem not_letsOut {K : Act → World → Prop} : ¬ LetsOut (Qn K) := fun ⟨_, _, h⟩ => by cases h.1
/-- One operation, and no panic. -/
theorem wpOp_of_one {k : Nat} {o : Oper} {K K' : Act → World → Prop} {a : Act} {w : World} (ho : ops[k]? = some o) (h : wpList P ops (Qn K) [o] a w) : wpOp P ops (Qn K') k K a w := by
  unfold wpOp
  simp only [ho]
  simp only [wpList] at h
  split
  · rename_i hw
    rw [if_pos hw] at h
    left
    rcases h with h | ⟨_, h⟩
    · unfold Oper.wp at h ⊢
      generalize (execOp a.eval o).run P w = r at h ⊢
      cases r with
      | ok n w' =>
        cases n <;> simp only [Oper.upon] at h ⊢
        case value v => exact h.2
        case skip => exact h.2
        case defer d => exact h.2
        case enter f args =>
          refine Calls.mono h fun e w'' he => ?_
          cases e with
          | returned v => exact he.2
          | panicked c => exact absurd he.1 (by intro e; cases e)
          | outgrown => exact absurd he not_letsOut
        case row row args => exact Rows.mono h fun v w'' he => he.2
      | halt x w' =>
        cases x <;> simp only [Oper.upon] at h ⊢
        case panic v => exact absurd h.1 (by intro e; cases e)
    · exact absurd h not_letsOut
  · rename_i hw
    rw [if_neg hw] at h
    exact h.2
def wpS (P : Program) (ops : Array Oper) (z : Option Nat) (K : Act → World → Prop) : List (Nat × Bool) → (World → Prop) → Act → World → Prop
  | [], _, a, w => K a w
  | (k, true) :: r, S, a, w => ∃ o v, ops[k]? = some o ∧ YieldsIf P ops S o v a ∧ wpS P ops z K r S (a.put o.dst v) w
  | (k, false) :: r, S, a, w => ∃ o, ops[k]? = some o ∧ wpList P ops (Qn fun a' w' => ∃ S' : World → Prop, (z ≠ some k → (∀ u, S' u → S u) ∧ S' w') ∧ wpS P ops z K r S' a' w') [o] a w
def planB (md : Region.Mode) (ops : Array Oper) (z : Option Nat) : List (Nat × Bool) → Array Bool → Bool
  | [], listed => (Region.ready md ops listed).isEmpty
  | (k, true) :: r, listed => (Region.ready md ops listed).contains k && Region.free md ops listed k && planB md ops z r (listed.setIfInBounds k true)
  | (k, false) :: r, listed => decide (Region.ready md ops listed = [k]) && (z != some k || r.isEmpty) && planB md ops z r (listed.setIfInBounds k true)
theorem wpS_sound (hz : ∀ k, z = some k → lastB md ops k = true ) (hsel : Region.noSelect ops = true) {K : Act → World → Prop} : ∀ (pl : List (Nat × Bool)) (listed : Array Bool) (S : World → Prop) (a : Act) (w : World),
    planB md ops z pl listed = true → S w → wpS P ops z K pl S a w → wpG P md ops z (Qn K) pl.length listed S a w
  | [], listed, S, a, w, hB, hS, h => ⟨by simpa [planB] using hB, rfl, h⟩
  | (k, true) :: r, listed, S, a, w, hB, hS, h => by
    simp only [planB, Bool.and_eq_true] at hB
    obtain ⟨o, v, ho, hy, h⟩ := h
    exact wpG_first hz ho (Region.noSelect_spec hsel) (fun c a w h => absurd h.1 (by intro e; cases e)) r.length listed S a w (Region.free_spec ho hB.1.2) (by simpa using hB.1.1) hy hS
      (wpS_sound hz hsel r _ S _ w hB.2 hS h)
  | (k, false) :: r, listed, S, a, w, hB, hS, h => by
    simp only [planB, Bool.and_eq_true, decide_eq_true_eq] at hB
    obtain ⟨o, ho, h⟩ := h
    refine ⟨fun h0 => (by rw [hB.1.1] at h0; cases h0), fun i hi => ?_⟩
    rw [hB.1.1] at hi
    obtain rfl : i = k := by simpa using hi
    have h1 := wpOp_of_one (K' := K) ho h
    refine wpOp_mono (fun a' w' ⟨S', hs, h'⟩ => ⟨S', hs, ?_⟩) h1
    by_cases hzi : z = some i
    · have hr : r = [] := by
        have := hB.1.2
        rw [hzi] at this
        simpa using this
      subst hr
      exact ⟨by simpa [planB] using hB.2, rfl, h'⟩
    · exact wpS_sound hz hsel r _ S' a' w' hB.2 (hs hzi).2 h'
end
section
variable {P : Program} {Q : Exit → Act → World → Prop} {N : Nat} {ρ : Nat → Value} {w : World} {S : World → Prop}
/-- The beginning. -/
theorem s_region {id : Nat} {l : List Oper} {H : Hp} {L L' : List Res} (z : Option Nat) (pl : List (Nat × Bool)) (hm : P.follows .mixedOrders = true) (hs : St H w L) (hk : ∀ u, St H u L → St H u L')
    (hB : (Region.noSelect l.toArray && Nat.beq pl.length l.length && planB .any l.toArray z pl (Array.replicate l.length false) && (z.map (lastB .any l.toArray)).getD true) = true)
    (h : ∀ w, St H w L → wpS P l.toArray z (Q .normal) pl (fun u => St H u L') (en N ρ) w) : (Code.region id l.toArray true).wp P Q (en N ρ) w := by
  simp only [Bool.and_eq_true] at hB
  obtain ⟨⟨⟨hB1, hB2⟩, hB3⟩, hB4⟩ := hB
  have hlen : pl.length = l.length := Nat.eq_of_beq_eq_true hB2
  refine Code.wp_mono (Q := Qn (Q .normal)) (fun e a w hq => by rw [hq.1]; exact hq.2) (wp_region_any hm (wpAny_of_g (z := z) _ _ (fun u => St H u L') _ _ ?_))
  have := wpS_sound (md := .any) (z := z) (fun k hk => by rw [hk] at hB4; simpa using hB4) hB1 pl _ _ (en N ρ) _ hB3 (hk _ (hs.drawn (w.drawn + 1))) (h _ (hs.drawn (w.drawn + 1)))
  rw [hlen] at this
  simpa using this
variable {ops : Array Oper} {z : Option Nat} {K : Act → World → Prop} {r : List (Nat × Bool)} {k d ty : Nat} {pos : String} {aft : Array Edge} {op : Op} {v : Value}
theorem s_nil (h : K (en N ρ) w) : wpS P ops z K [] S (en N ρ) w := h
theorem s_st (ho : ops[k]? = some ⟨some d, op, ty, pos, aft, none⟩) (hr : ∀ w, S w → Ex P N ρ w op ty v w) (h : wpS P ops z K r S (en N (up ρ d v)) w) : wpS P ops z K ((k, true) :: r) S (en N ρ) w := by
  refine ⟨_, v, ho, .inl ⟨by simp [Region.wanted], fun u hu => hr u hu _ _ _ _⟩, ?_⟩
  rw [en_put]; exact h
theorem s_yes {j : Nat} {b : Bool} (ho : ops[k]? = some ⟨some d, op, ty, pos, aft, some (j, b)⟩) (hy : yielded ops (en N ρ).tmps j = some b) (hr : ∀ w, S w → Ex P N ρ w op ty v w) (h : wpS P ops z K r S (en N (up ρ d v)) w) : wpS P ops z K ((k, true) :: r) S (en N ρ) w := by
  refine ⟨_, v, ho, .inl ⟨by simp [Region.wanted, hy], fun u hu => hr u hu _ _ _ _⟩, ?_⟩
  rw [en_put]; exact h
theorem s_no {j : Nat} {b c : Bool} (ho : ops[k]? = some ⟨some d, op, ty, pos, aft, some (j, b)⟩) (hy : yielded ops (en N ρ).tmps j = some c) (hn : (c == b) = false) (h : wpS P ops z K r S (en N (up ρ d (.tuple #[]))) w) : wpS P ops z K ((k, true) :: r) S (en N ρ) w := by
  refine ⟨_, .tuple #[], ho, .inr ⟨by simp [Region.wanted, hy]; simpa using hn, rfl⟩, ?_⟩
  rw [en_put]; exact h
theorem s_no0 {j : Nat} {b : Bool} (ho : ops[k]? = some ⟨some d, op, ty, pos, aft, some (j, b)⟩) (hy : yielded ops (en N ρ).tmps j = none) (h : wpS P ops z K r S (en N (up ρ d (.tuple #[]))) w) : wpS P ops z K ((k, true) :: r) S (en N ρ) w := by
  refine ⟨_, .tuple #[], ho, .inr ⟨by simp [Region.wanted, hy], rfl⟩, ?_⟩
  rw [en_put]; exact h
/-- The one operation that may come up: by the rules of a plain region. -/
theorem s_eff {o : Oper} (ho : ops[k]? = some o) (h : wpList P ops (Qn fun a' w' => ∃ S' : World → Prop, (z ≠ some k → (∀ u, S' u → S u) ∧ S' w') ∧ wpS P ops z K r S' a' w') [o] (en N ρ) w) : wpS P ops z K ((k, false) :: r) S (en N ρ) w := ⟨o, ho, h⟩
theorem s_on {S' : World → Prop} (hs : ∀ u, S' u → S u) (hw : S' w) (h : wpS P ops z K r S' (en N ρ) w) :
    wpList P ops (Qn fun a' w' => ∃ S' : World → Prop, (z ≠ some k → (∀ u, S' u → S u) ∧ S' w') ∧ wpS P ops z K r S' a' w') [] (en N ρ) w := ⟨rfl, S', fun _ => ⟨hs, hw⟩, h⟩
/-- The last one: whatever it does to memory. -/
theorem s_end (h : K (en N ρ) w) : wpList P ops (Qn fun a' w' => ∃ S' : World → Prop, (some k ≠ some k → (∀ u, S' u → S u) ∧ S' w') ∧ wpS P ops (some k) K [] S' a' w') [] (en N ρ) w := ⟨rfl, S, fun h => absurd rfl h, h⟩
end
end Go.FM
