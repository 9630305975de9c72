/- Steps of the proofs over the functions of this seat, printed by a program (gen.py) and checked by Lean. -/
import Derived.Test.YtlfihfmmhhcigaaW00
import Derived.Test.YtlfihfmmhhcigaaW02
import Derived.Test.YtlfihfmmhhcigaaW01
set_option linter.unusedVariables false
set_option linter.unusedSimpArgs false
namespace Go.FM
open Go
section
variable {P:Program} {ops:Array Oper} {Q:Exit → Act → World → Prop} {md:Region.Mode} {S S':World → Prop} {Z F:List Nat}
def depT (md:Region.Mode) (ops:Array Oper):Nat → Nat → Nat → Bool
  | 0,_,_ => false
  | f + 1,k,j => ((ops[k]?).map fun o => (o.after.any fun e => Region.binds md e && Nat.beq e.on j) || (o.after.any fun e => Region.binds md e && depT md ops f e.on j)).getD false
def depB (md:Region.Mode) (ops:Array Oper) (k j:Nat):Bool:=depT md ops 4 k j
def Closed (md:Region.Mode) (ops:Array Oper) (listed:Array Bool):Prop:=∀ m o,ops[m]? = some o → listed.getD m false = true → ∀ e ∈ o.after,Region.binds md e = true → listed.getD e.on false = true
theorem set_mono {listed:Array Bool} {j m:Nat} (h:listed.getD m false = true):(listed.setIfInBounds j true).getD m false = true:=by
  by_cases hjm:j = m
  · subst hjm
    rcases Nat.lt_or_ge j listed.size with h' | h'
    · simp [h']
    · simp [Array.getElem?_eq_none h'] at h
  · rw [getD_set_ne false hjm]; exact h
theorem Closed.set {listed:Array Bool} {j:Nat} (hc:Closed md ops listed) (hj:j ∈ Region.ready md ops listed):Closed md ops (listed.setIfInBounds j true):=by
  obtain ⟨_,oj,hoj,hall⟩:=mem_ready.1 hj
  intro m o ho hm e he hb
  by_cases hjm:j = m
  · subst hjm
    rw [ho] at hoj; injection hoj with hoj; subst hoj
    exact set_mono (hall e he hb)
  · rw [getD_set_ne false hjm] at hm
    exact set_mono (hc m o ho hm e he hb)
theorem depT_listed {listed:Array Bool} (hc:Closed md ops listed) {j:Nat}:∀ (f k:Nat),depT md ops f k j = true → (∀ o,ops[k]? = some o → ∀ e ∈ o.after,Region.binds md e = true → listed.getD e.on false = true) → listed.getD j false = true
  | 0,_,h,_ => by cases h
  | f + 1,k,h,hl => by
    unfold depT at h
    cases ho:ops[k]? with
    | none => rw [ho] at h; cases h
    | some o =>
      rw [ho] at h
      simp only [Option.map_some,Option.getD_some,Bool.or_eq_true] at h
      rcases h with h | h
      · obtain ⟨e,he,hb⟩:=Array.any_eq_true'.1 h
        simp only [Bool.and_eq_true] at hb
        have:=hl o ho e he hb.1
        rwa [Nat.eq_of_beq_eq_true hb.2] at this
      · obtain ⟨e,he,hb⟩:=Array.any_eq_true'.1 h
        simp only [Bool.and_eq_true] at hb
        exact depT_listed hc f e.on hb.2 fun o' ho' => hc e.on o' ho' (hl o ho e he hb.1)
theorem depB_spec {k j:Nat} (h:depB md ops k j = true) {listed:Array Bool} (hc:Closed md ops listed) (hr:k ∈ Region.ready md ops listed):listed.getD j false = true:=by
  obtain ⟨_,o,ho,hall⟩:=mem_ready.1 hr
  exact depT_listed hc 4 k h fun o' ho' => by rw [ho] at ho'; injection ho' with ho'; subst ho'; exact hall
def wpG2 (P:Program) (md:Region.Mode) (ops:Array Oper) (Z:List Nat) (Q:Exit → Act → World → Prop):Nat → Array Bool → (World → Prop) → Act → World → Prop
  | 0,listed,_,a,w => Region.ready md ops listed = []∧Q .normal a w
  | fuel + 1,listed,S,a,w =>
    (Region.ready md ops listed = [] → Q .normal a w) ∧
    ∀ i ∈ Region.ready md ops listed,wpOp P ops Q i (fun a' w' => ∃ S':World → Prop,((Z.contains i = false → ∀ u,S' u → S u)∧S' w')∧wpG2 P md ops Z Q fuel (listed.setIfInBounds i true) S' a' w') a w
theorem wpAny_of_g2:∀ (fuel:Nat) (listed:Array Bool) (S:World → Prop) (a:Act) (w:World),wpG2 P md ops Z Q fuel listed S a w → wpAny P md ops Q fuel listed a w
  | 0,_,_,_,_,h => h
  | fuel + 1,_,_,_,_,h => ⟨h.1,fun i hi => wpOp_mono (fun a' w' ⟨_,_,h'⟩ => wpAny_of_g2 fuel _ _ a' w' h') (h.2 i hi)⟩
def SS (free:Bool) (S:World → Prop):World → Prop:=if free then fun _ => True else S
theorem SS.of {free:Bool} {w:World} (h:S w):SS free S w:=by cases free <;> simp [SS,h]
theorem wpG2_first {free:Bool} {i:Nat} {oi:Oper} {v:Value} (hi:ops[i]? = some oi) (hsel:∀ (j:Nat) (o:Oper) cs b,ops[j]? = some o → o.op ≠ .select cs b)
    (hQ:∀ c a w,Q (.panic c) (a.put oi.dst v) w → Q (.panic c) a w) :
    ∀ (fuel:Nat) (listed:Array Bool) (S:World → Prop) (a:Act) (w:World),Closed md ops listed → (free = false → ∀ k,Z.contains k = true → listed.getD k false = true ∨ depB md ops k i = true) →
      (∀ j oj,ops[j]? = some oj → j ≠ i → listed.getD j true = false → (∀ e ∈ oj.after,Region.binds md e = true → e.on ≠ i) → oi.apart ops oj = true) →
      i ∈ Region.ready md ops listed → YieldsIf P ops (SS free S) oi v a → S w →
      wpG2 P md ops Z Q fuel (listed.setIfInBounds i true) S (a.put oi.dst v) w → wpG2 P md ops Z Q (fuel + 1) listed S a w:=by
  intro fuel
  induction fuel with
  | zero =>
    intro listed S a w hcl hz _ hr hy hS H
    refine ⟨fun h => (by rw [h] at hr; cases hr),fun j hj => ?_⟩
    by_cases hji:j = i
    · subst hji; exact hy.wpOp hi (SS.of hS) ⟨S,⟨fun _ _ h => h,hS⟩,H⟩
    · have:=ready_mono hj hji
      rw [H.1] at this
      cases this
  | succ fuel ih =>
    intro listed S a w hcl hz hfree hr hy hS H
    refine ⟨fun h => (by rw [h] at hr; cases hr),fun j hj => ?_⟩
    by_cases hji:j = i
    · subst hji; exact hy.wpOp hi (SS.of hS) ⟨S,⟨fun _ _ h => h,hS⟩,H⟩
    · have h1:=H.2 j (ready_mono hj hji)
      obtain ⟨hjun,oj,hoj,hall⟩:=mem_ready.1 hj
      have hnot:∀ e ∈ oj.after,Region.binds md e = true → e.on ≠ i:=fun e he hb heq => by
        have h1:=hall e he hb
        have h0:=(mem_ready.1 hr).1
        rw [heq] at h1
        rcases Nat.lt_or_ge i listed.size with h' | h'
        · simp [h'] at h0 h1; rw [h0] at h1; cases h1
        · simp [Array.getElem?_eq_none h'] at h1
      have h2:=wpOp_putIf hoj (hfree j oj hoj hji hjun hnot) (fun cs b => hsel i oi cs b hi) (fun cs b => hsel j oj cs b hoj) hQ hy h1
      have hfree':∀ k ok,ops[k]? = some ok → k ≠ i → (listed.setIfInBounds j true).getD k true = false →
          (∀ e ∈ ok.after,Region.binds md e = true → e.on ≠ i) → oi.apart ops ok = true:=fun k ok hk hki hun hno => by
        refine hfree k ok hk hki ?_ hno
        by_cases hjk:j = k
        · subst hjk; exact hjun
        · rw [getD_set_ne true hjk] at hun; exact hun
      have hiu:listed.getD i false = false:=by
        have hil:=(mem_ready.1 hr).1
        rcases Nat.lt_or_ge i listed.size with h' | h'
        · simp [h'] at hil ⊢; exact hil
        · simp [Array.getElem?_eq_none h']
      have hju:listed.getD j false = false:=by
        rcases Nat.lt_or_ge j listed.size with h' | h'
        · simp [h'] at hjun ⊢; exact hjun
        · simp [Array.getElem?_eq_none h']
      have hzj:free = false → Z.contains j = false:=fun hf => by
        cases hc:Z.contains j with
        | false => rfl
        | true =>
          rcases hz hf j hc with h5 | h5
          · rw [hju] at h5; cases h5
          · have:=depB_spec h5 hcl hj
            rw [hiu] at this; cases this
      have hz':free = false → ∀ k,Z.contains k = true → (listed.setIfInBounds j true).getD k false = true ∨ depB md ops k i = true:=fun hf k hk => by
        rcases hz hf k hk with h5 | h5
        · left
          by_cases hjk:j = k
          · subst hjk; rw [hju] at h5; cases h5
          · rw [getD_set_ne false hjk]; exact h5
        · exact .inr h5
      refine wpOp_mono (fun a' w' h3 => ?_) h2
      obtain ⟨hy',S',hs,H'⟩:=h3
      have hs1:∀ u,SS free S' u → SS free S u:=by
        cases free with
        | true => exact fun _ h => h
        | false => exact hs.1 (hzj rfl)
      refine ⟨S',hs,ih (listed.setIfInBounds j true) S' a' w' (hcl.set hj) hz' hfree' (ready_mono hr (Ne.symm hji)) (yieldsIf_mono hy' hs1) hs.2 ?_⟩
      rw [Array.setIfInBounds_comm _ _ hji]
      exact H'
inductive Pl where
  | done
  | q (k:Nat) (r:Pl)
  | e (k:Nat) (r:Pl)
  | two (k₁:Nat) (r₁:Pl) (k₂:Nat) (r₂:Pl)
def Pl.len:Pl → Nat
  | .done => 0
  | .q _ r => r.len + 1
  | .e _ r => r.len + 1
  | .two _ r₁ _ _ => r₁.len + 1
def wpT (P:Program) (ops:Array Oper) (Z F:List Nat) (K:Act → World → Prop):Pl → (World → Prop) → Act → World → Prop
  | .done,_,a,w => K a w
  | .q k r,S,a,w => ∃ o v,ops[k]? = some o∧YieldsIf P ops (SS (F.contains k) S) o v a∧wpT P ops Z F K r S (a.put o.dst v) w
  | .e k r,S,a,w => ∃ o,ops[k]? = some o∧wpList P ops (Qn fun a' w' => ∃ S':World → Prop,((Z.contains k = false → ∀ u,S' u → S u)∧S' w')∧wpT P ops Z F K r S' a' w') [o] a w
  | .two k₁ r₁ k₂ r₂,S,a,w => (∃ o,ops[k₁]? = some o∧wpList P ops (Qn fun a' w' => ∃ S':World → Prop,((Z.contains k₁ = false → ∀ u,S' u → S u)∧S' w')∧wpT P ops Z F K r₁ S' a' w') [o] a w)∧(∃ o,ops[k₂]? = some o∧wpList P ops (Qn fun a' w' => ∃ S':World → Prop,((Z.contains k₂ = false → ∀ u,S' u → S u)∧S' w')∧wpT P ops Z F K r₂ S' a' w') [o] a w)
def planT (md:Region.Mode) (ops:Array Oper) (Z F:List Nat):Pl → Array Bool → Bool
  | .done,listed => (Region.ready md ops listed).isEmpty
  | .q k r,listed => (Region.ready md ops listed).contains k && Region.free md ops listed k && (F.contains k || Z.all fun z => listed.getD z false || depB md ops z k) && planT md ops Z F r (listed.setIfInBounds k true)
  | .e k r,listed => decide (Region.ready md ops listed = [k]) && planT md ops Z F r (listed.setIfInBounds k true)
  | .two k₁ r₁ k₂ r₂,listed => decide (Region.ready md ops listed = [k₁,k₂]) && Nat.beq r₁.len r₂.len && planT md ops Z F r₁ (listed.setIfInBounds k₁ true) && planT md ops Z F r₂ (listed.setIfInBounds k₂ true)
theorem closed_none (n:Nat):Closed md ops (Array.replicate n false):=fun m o _ h => by
  rcases Nat.lt_or_ge m n with h' | h'
  · simp [h'] at h
  · simp [h'] at h
theorem wpT_sound (hsel:Region.noSelect ops = true) {K:Act → World → Prop}:∀ (pl:Pl) (listed:Array Bool) (S:World → Prop) (a:Act) (w:World),
    Closed md ops listed → planT md ops Z F pl listed = true → S w → wpT P ops Z F K pl S a w → wpG2 P md ops Z (Qn K) pl.len listed S a w
  | .done,listed,S,a,w,hc,hB,hS,h => ⟨by simpa [planT] using hB,rfl,h⟩
  | .q k r,listed,S,a,w,hc,hB,hS,h => by
    simp only [planT,Bool.and_eq_true] at hB
    obtain ⟨o,v,ho,hy,h⟩:=h
    refine wpG2_first ho (Region.noSelect_spec hsel) (fun c a w h => absurd h.1 (by intro e; cases e)) r.len listed S a w hc (fun hf z hz => ?_) (Region.free_spec ho hB.1.1.2) (by simpa using hB.1.1.1) hy hS (wpT_sound hsel r _ S _ w (hc.set (by simpa using hB.1.1.1)) hB.2 hS h)
    rw [hf,Bool.false_or] at hB
    have:=List.all_eq_true.1 hB.1.2 z (by simpa using hz)
    simpa using this
  | .e k r,listed,S,a,w,hc,hB,hS,h => by
    simp only [planT,Bool.and_eq_true,decide_eq_true_eq] at hB
    obtain ⟨o,ho,h⟩:=h
    refine ⟨fun h0 => (by rw [hB.1] at h0; cases h0),fun i hi => ?_⟩
    have hi':=hi
    rw [hB.1] at hi
    obtain rfl:i = k:=by simpa using hi
    have h1:=wpOp_of_one (K':=K) ho h
    exact wpOp_mono (fun a' w' ⟨S',hs,h'⟩ => ⟨S',hs,wpT_sound hsel r _ S' a' w' (hc.set hi') hB.2 hs.2 h'⟩) h1
  | .two k₁ r₁ k₂ r₂,listed,S,a,w,hc,hB,hS,h => by
    simp only [planT,Bool.and_eq_true,decide_eq_true_eq] at hB
    obtain ⟨⟨⟨hB0,hBl⟩,hB1⟩,hB2⟩:=hB
    have hl:r₂.len = r₁.len:=(Nat.eq_of_beq_eq_true hBl).symm
    obtain ⟨⟨o₁,ho₁,h₁⟩,o₂,ho₂,h₂⟩:=h
    refine ⟨fun h0 => (by rw [hB0] at h0; cases h0),fun i hi => ?_⟩
    have hi':=hi
    rw [hB0] at hi
    have hi:i = k₁ ∨ i = k₂:=by simpa using hi
    rcases hi with rfl | rfl
    · have h1:=wpOp_of_one (K':=K) ho₁ h₁
      exact wpOp_mono (fun a' w' ⟨S',hs,h'⟩ => ⟨S',hs,wpT_sound hsel r₁ _ S' a' w' (hc.set hi') hB1 hs.2 h'⟩) h1
    · have h1:=wpOp_of_one (K':=K) ho₂ h₂
      refine wpOp_mono (fun a' w' ⟨S',hs,h'⟩ => ⟨S',hs,?_⟩) h1
      have:=wpT_sound hsel r₂ _ S' a' w' (hc.set hi') hB2 hs.2 h'
      rw [hl] at this
      exact this
end
section
variable {P:Program} {Q:Exit → Act → World → Prop} {N:Nat} {ρ:Nat → Value} {w:World} {S:World → Prop}
theorem t_region {id:Nat} {l:List Oper} {H:Hp} {L L':List Res} (Z F:List Nat) (pl:Pl) (hm:P.follows .mixedOrders = true) (hs:St H w L) (hk:∀ u,St H u L → St H u L')
    (hB:(Region.noSelect l.toArray && Nat.beq pl.len l.length && planT .any l.toArray Z F pl (Array.replicate l.length false)) = true)
    (h:∀ w,St H w L → wpT P l.toArray Z F (Q .normal) pl (fun u => St H u L') (en N ρ) w):(Code.region id l.toArray true).wp P Q (en N ρ) w:=by
  simp only [Bool.and_eq_true] at hB
  obtain ⟨⟨hB1,hB2⟩,hB3⟩:=hB
  have hlen:pl.len = l.length:=Nat.eq_of_beq_eq_true hB2
  refine Code.wp_mono (Q:=Qn (Q .normal)) (fun e a w hq => by rw [hq.1]; exact hq.2) (wp_region_any hm (wpAny_of_g2 (Z:=Z) _ _ (fun u => St H u L') _ _ ?_))
  have:=wpT_sound (md:=.any) (Z:=Z) hB1 pl _ _ (en N ρ) _ (closed_none _) hB3 (hk _ (hs.drawn (w.drawn + 1))) (h _ (hs.drawn (w.drawn + 1)))
  rw [hlen] at this
  simpa using this
variable {ops:Array Oper} {Z F:List Nat} {K:Act → World → Prop} {r r₁ r₂:Pl} {k d ty:Nat} {pos:String} {aft:Array Edge} {op:Op} {v:Value}
theorem t_nil (h:K (en N ρ) w):wpT P ops Z F K .done S (en N ρ) w:=h
theorem t_st (hf:F.contains k = false) (ho:ops[k]? = some ⟨some d,op,ty,pos,aft,none⟩) (hr:∀ w,S w → Ex P N ρ w op ty v w) (h:wpT P ops Z F K r S (en N (up ρ d v)) w):wpT P ops Z F K (.q k r) S (en N ρ) w:=by
  refine ⟨_,v,ho,.inl ⟨by simp [Region.wanted],fun u hu => hr u (by rw [hf] at hu; exact hu) _ _ _ _⟩,?_⟩
  rw [en_put]; exact h
theorem t_fr (ho:ops[k]? = some ⟨some d,op,ty,pos,aft,none⟩) (hr:∀ w,True → Ex P N ρ w op ty v w) (h:wpT P ops Z F K r S (en N (up ρ d v)) w):wpT P ops Z F K (.q k r) S (en N ρ) w:=by
  refine ⟨_,v,ho,.inl ⟨by simp [Region.wanted],fun u hu => hr u trivial _ _ _ _⟩,?_⟩
  rw [en_put]; exact h
theorem t_eff {o:Oper} (ho:ops[k]? = some o) (h:wpList P ops (Qn fun a' w' => ∃ S':World → Prop,((Z.contains k = false → ∀ u,S' u → S u)∧S' w')∧wpT P ops Z F K r S' a' w') [o] (en N ρ) w):wpT P ops Z F K (.e k r) S (en N ρ) w:=⟨o,ho,h⟩
theorem t_on {S':World → Prop} (hs:∀ u,S' u → S u) (hw:S' w) (h:wpT P ops Z F K r S' (en N ρ) w) :
    wpList P ops (Qn fun a' w' => ∃ S':World → Prop,((Z.contains k = false → ∀ u,S' u → S u)∧S' w')∧wpT P ops Z F K r S' a' w') [] (en N ρ) w:=⟨rfl,S',⟨fun _ => hs,hw⟩,h⟩
theorem t_two {k₁ k₂:Nat} (h₁:wpT P ops Z F K (.e k₁ r₁) S (en N ρ) w) (h₂:wpT P ops Z F K (.e k₂ r₂) S (en N ρ) w):wpT P ops Z F K (.two k₁ r₁ k₂ r₂) S (en N ρ) w:=⟨h₁,h₂⟩
theorem t_new {S':World → Prop} (hz:Z.contains k = true) (hw:S' w) (h:wpT P ops Z F K r S' (en N ρ) w) :
    wpList P ops (Qn fun a' w' => ∃ S':World → Prop,((Z.contains k = false → ∀ u,S' u → S u)∧S' w')∧wpT P ops Z F K r S' a' w') [] (en N ρ) w:=⟨rfl,S',⟨fun e => (by rw [hz] at e; cases e),hw⟩,h⟩
end
end Go.FM

set_option linter.unusedVariables false
set_option linter.unusedSimpArgs false
namespace Go.FM
open Go
section
variable {P:Program} {ops:Array Oper} {Q:Exit → Act → World → Prop} {K:Act → World → Prop} {a:Act} {w:World} {N:Nat} {ρ:Nat → Value} {C:World → Prop} {Qa Ka:Act → Prop} {o:Oper}
theorem upon_join {next next':Act → World → Prop} (hn:∀ a w,next a w → next' a w) (h:o.wp P a w next (Qn K)):o.wp P a w next' Q:=by
  unfold Oper.wp at h ⊢
  generalize (execOp a.eval o).run P w = r at h ⊢
  cases r with
  | ok n w' =>
    cases n <;> simp only [Oper.upon] at h ⊢
    case value v => exact hn _ _ h
    case skip => exact hn _ _ h
    case defer d => exact hn _ _ h
    case enter f args =>
      refine Calls.mono h fun e w'' he => ?_
      cases e with
      | returned v => exact hn _ _ he
      | panicked c => exact absurd he.1 (by intro e; cases e)
      | outgrown => exact absurd he not_letsOut
    case row row args => exact Rows.mono h fun v w'' he => hn _ _ he
  | halt x w' =>
    cases x <;> simp only [Oper.upon] at h ⊢
    case panic v => exact absurd h.1 (by intro e; cases e)
theorem wpList_app:∀ (l1 l2:List Oper) (a:Act) (w:World),wpList P ops (Qn (wpList P ops Q l2)) l1 a w → wpList P ops Q (l1 ++ l2) a w
  | [],l2,a,w,h => h.2
  | o::l1,l2,a,w,h => by
    simp only [wpList,List.cons_append] at h ⊢
    split
    · rename_i hw
      rw [if_pos hw] at h
      left
      rcases h with h | ⟨_,h⟩
      · exact upon_join (fun a w h => wpList_app l1 l2 a w h) h
      · exact absurd h not_letsOut
    · rename_i hw
      rw [if_neg hw] at h
      exact wpList_app l1 l2 _ w h
theorem wpList_mono {K K':Act → World → Prop} (hk:∀ a w,K a w → K' a w):∀ (l:List Oper) (a:Act) (w:World),wpList P ops (Qn K) l a w → wpList P ops (Qn K') l a w
  | [],a,w,h => ⟨h.1,hk a w h.2⟩
  | o::l,a,w,h => by
    simp only [wpList] at h ⊢
    split
    · rename_i hw
      rw [if_pos hw] at h
      left
      rcases h with h | ⟨_,h⟩
      · exact upon_join (fun a w h => wpList_mono hk l a w h) h
      · exact absurd h not_letsOut
    · rename_i hw
      rw [if_neg hw] at h
      exact wpList_mono hk l _ w h
theorem jw {l:List Oper} (k:Nat) (S:(Nat → Value) → World → Prop) (h:wpList P ops (Qn fun a' w' => ∃ ρ',a' = en N ρ'∧S ρ' w') (l.take k) (en N ρ) w) (c:∀ ρ' w',S ρ' w' → wpList P ops Q (l.drop k) (en N ρ') w'):wpList P ops Q l (en N ρ) w:=by
  have h2:=wpList_app (Q:=Q) (l.take k) (l.drop k) (en N ρ) w (wpList_mono (fun a' w' h => by obtain ⟨ρ',rfl,hS⟩:=h; exact c ρ' w' hS) _ _ _ h)
  rwa [List.take_append_drop] at h2
theorem jw_end {S:(Nat → Value) → World → Prop} (h:S ρ w):wpList P ops (Qn fun a' w' => ∃ ρ',a' = en N ρ'∧S ρ' w') [] (en N ρ) w:=⟨rfl,ρ,rfl,h⟩
end
section
variable {a b:Bool} {p q:Prop}
theorem jor_f (h:a = false):b = (a || b):=by rw [h]; rfl
theorem jor_t (h:a = true):true = (a || b):=by rw [h]; rfl
theorem jand_t (h:a = true):b = (a && b):=by rw [h]; rfl
theorem jand_f (h:a = false):false = (a && b):=by rw [h]; rfl
theorem J_or (h:a = true ↔ p) (k:b = true ↔ q):(a || b) = true ↔ (p ∨ q):=by rw [Bool.or_eq_true,h,k]
theorem J_and (h:a = true ↔ p) (k:b = true ↔ q):(a && b) = true ↔ (p∧q):=by rw [Bool.and_eq_true,h,k]
theorem J_not (h:a = true ↔ p):(!a) = true ↔ ¬ p:=by rw [Bool.not_eq_true',← h,Bool.not_eq_true]
theorem J_no (h:a = true ↔ p) (k:a = false):¬ p:=fun hp => by rw [h.2 hp] at k; cases k
end
end Go.FM

set_option linter.unusedVariables false
set_option linter.unusedSimpArgs false
namespace Go.Proofs.Ytlfihfmmhhcigaa
open Go Go.FM Go.Proofs
attribute [local irreducible] wpList wpQuiet wpS Code.wp Calls
set_option maxHeartbeats 8000000 in
theorem form_spec {H:Hp} {w:World} {L:List Res} (hs:St H w L) (n:Nat) (p:Int):Calls Try.prog 61 #[.agg #[.int .u64 ((n:Nat):Int),.int .i64 p]] w (fun e w' => e = .returned (.bool (formV n p))∧St H w' L):=by
 refine enter (args:=[.agg #[.int .u64 ((n:Nat):Int),.int .i64 p]]) (N:=21) Try.func61 rfl rfl rfl ?_
 refine c_seq (c_region (st_m (m_box (cs:=[.int .u64 ((n:Nat):Int),.int .i64 p]) hs (v:=.agg #[.int .u64 ((n:Nat):Int),.int .i64 p]) (.tmp rfl rfl) rfl) ?_))
 rintro _ w2 ⟨g1,rfl,hs4⟩
 refine st (v:=.bool false) (x_assign .const) ?_
 refine c_nil (n_then (c_seq (c_region (st (v:=.pointer (some ⟨g1,0 + 1,none⟩)) (fa24_1 (.tmp rfl rfl)) ?_))))
 refine st (v:=.int .i64 p) (ld3 (.tmp rfl rfl) (hs4.cell 0 rfl (0 + 1) rfl)) ?_
 refine st (v:=.bool (decide ((0:Int) ≤ p))) (x_geq (k:=.i64) (a:=p) (b:=0) (.tmp rfl rfl) .const) ?_
 refine st (v:=.bool (decide ((0:Int) ≤ p))) (x_move (.tmp rfl rfl)) ?_
 rcases Bool.eq_false_or_eq_true (decide ((0:Int) ≤ p)) with hc5 | hc5
 have hp5:(0:Int) ≤ p:=of_decide_eq_true hc5
 refine g_yes (yk 6 true rfl rfl hc5) ?_
 refine st (v:=.pointer (some ⟨g1,0 + 1,none⟩)) (fa24_1 (.tmp rfl rfl)) ?_
 refine g_yes (yk 6 true rfl rfl hc5) ?_
 refine st (v:=.int .i64 p) (ld3 (.tmp rfl rfl) (hs4.cell 0 rfl (0 + 1) rfl)) ?_
 refine g_yes (yk 6 true rfl rfl hc5) ?_
 refine st (v:=.bool (decide ((p:Int) < 16))) (x_lss (k:=.i64) (a:=p) (b:=16) (.tmp rfl rfl) .const) ?_
 refine st (v:=.bool (decide ((p:Int) < 16))) (x_pick_t (.tmp rfl (cVb hc5)) (.tmp rfl rfl)) ?_
 refine st (v:=.bool (decide ((p:Int) < 16))) (x_move (.tmp rfl rfl)) ?_
 rcases Bool.eq_false_or_eq_true (decide ((p:Int) < 16)) with hc6 | hc6
 have hp6:(p:Int) < 16:=of_decide_eq_true hc6
 refine g_yes (yk 11 true rfl rfl hc6) ?_
 refine st (v:=.pointer (some ⟨g1,0 + 0,none⟩)) (fa24_0 (.tmp rfl rfl)) ?_
 refine g_yes (yk 11 true rfl rfl hc6) ?_
 refine st (v:=.int .u64 ((n:Nat):Int)) (ld22 (.tmp rfl rfl) (hs4.cell 0 rfl (0 + 0) rfl)) ?_
 refine g_yes (yk 11 true rfl rfl hc6) ?_
 refine st (v:=.bool (decide ((0:Int) < ((n:Nat):Int)))) (x_gtr (k:=.u64) (a:=((n:Nat):Int)) (b:=0) (.tmp rfl rfl) .const) ?_
 refine g_yes (yk 11 true rfl rfl hc6) ?_
 refine st (v:=.bool (decide ((0:Int) < ((n:Nat):Int)))) (x_move (.tmp rfl rfl)) ?_
 rcases Bool.eq_false_or_eq_true (decide ((0:Int) < ((n:Nat):Int))) with hc7 | hc7
 have hp7:(0:Int) < ((n:Nat):Int):=of_decide_eq_true hc7
 refine g_no (yk 15 true rfl rfl hc7) rfl ?_
 refine g_no (yk 15 true rfl rfl hc7) rfl ?_
 refine g_no (yk 15 true rfl rfl hc7) rfl ?_
 refine g_yes (yk 11 true rfl rfl hc6) ?_
 refine st (v:=.bool true) (x_pick_t (.tmp rfl (cVb hc7)) .const) ?_
 refine st (v:=.bool true) (x_pick_t (.tmp rfl (cVb hc6)) (.tmp rfl rfl)) ?_
 refine st (v:=.bool true) (x_assign (.tmp rfl rfl)) ?_
 refine c_nil (n_then (c_ret (leave_ret (res_one (v:=.bool true) rfl (.mk rfl rfl)) ?_)))
 have hfm:true = formV n p:=by
   unfold formV
   first | exact decide_eq_decide.2 (by omega) | exact (decide_eq_true (by omega)).symm | exact (decide_eq_false (by omega)).symm
 exact ⟨congrArg (fun b => Ending.returned (.bool b)) hfm,hs4.drop⟩
 have hp7:¬ ((0:Int) < ((n:Nat):Int)):=of_decide_eq_false hc7
 refine g_yes (yk 15 false rfl rfl hc7) ?_
 refine st (v:=.pointer (some ⟨g1,0 + 1,none⟩)) (fa24_1 (.tmp rfl rfl)) ?_
 refine g_yes (yk 15 false rfl rfl hc7) ?_
 refine st (v:=.int .i64 p) (ld3 (.tmp rfl rfl) (hs4.cell 0 rfl (0 + 1) rfl)) ?_
 refine g_yes (yk 15 false rfl rfl hc7) ?_
 refine st (v:=.bool (decide ((p:Int) = 0))) (x_eql (k:=.i64) (a:=p) (b:=0) (.tmp rfl rfl) .const) ?_
 refine g_yes (yk 11 true rfl rfl hc6) ?_
 refine st (v:=.bool (decide ((p:Int) = 0))) (x_pick_f (.tmp rfl (cVb hc7)) (.tmp rfl rfl)) ?_
 refine st (v:=.bool (decide ((p:Int) = 0))) (x_pick_t (.tmp rfl (cVb hc6)) (.tmp rfl rfl)) ?_
 refine st (v:=.bool (decide ((p:Int) = 0))) (x_assign (.tmp rfl rfl)) ?_
 refine c_nil (n_then (c_ret (leave_ret (res_one (v:=.bool (decide ((p:Int) = 0))) rfl (.mk rfl rfl)) ?_)))
 have hfm:(decide ((p:Int) = 0)) = formV n p:=by
   unfold formV
   first | exact decide_eq_decide.2 (by omega) | exact (decide_eq_true (by omega)).symm | exact (decide_eq_false (by omega)).symm
 exact ⟨congrArg (fun b => Ending.returned (.bool b)) hfm,hs4.drop⟩
 have hp6:¬ ((p:Int) < 16):=of_decide_eq_false hc6
 refine g_no (yk 11 false rfl rfl hc6) rfl ?_
 refine g_no (yk 11 false rfl rfl hc6) rfl ?_
 refine g_no (yk 11 false rfl rfl hc6) rfl ?_
 refine g_no (yk 11 false rfl rfl hc6) rfl ?_
 refine g_no0 (yn (dj:=15) rfl rfl) ?_
 refine g_no0 (yn (dj:=15) rfl rfl) ?_
 refine g_no0 (yn (dj:=15) rfl rfl) ?_
 refine g_no (yk 11 false rfl rfl hc6) rfl ?_
 refine st (v:=.bool false) (x_pick_f (.tmp rfl (cVb hc6)) .const) ?_
 refine st (v:=.bool false) (x_assign (.tmp rfl rfl)) ?_
 refine c_nil (n_then (c_ret (leave_ret (res_one (v:=.bool false) rfl (.mk rfl rfl)) ?_)))
 have hfm:false = formV n p:=by
   unfold formV
   first | exact decide_eq_decide.2 (by omega) | exact (decide_eq_true (by omega)).symm | exact (decide_eq_false (by omega)).symm
 exact ⟨congrArg (fun b => Ending.returned (.bool b)) hfm,hs4.drop⟩
 have hp5:¬ ((0:Int) ≤ p):=of_decide_eq_false hc5
 refine g_no (yk 6 false rfl rfl hc5) rfl ?_
 refine g_no (yk 6 false rfl rfl hc5) rfl ?_
 refine g_no (yk 6 false rfl rfl hc5) rfl ?_
 refine st (v:=.bool false) (x_pick_f (.tmp rfl (cVb hc5)) .const) ?_
 refine st (v:=.bool false) (x_move (.tmp rfl rfl)) ?_
 refine g_no (yl (dj:=11) (b:=false) rfl rfl rfl) rfl ?_
 refine g_no (yl (dj:=11) (b:=false) rfl rfl rfl) rfl ?_
 refine g_no (yl (dj:=11) (b:=false) rfl rfl rfl) rfl ?_
 refine g_no (yl (dj:=11) (b:=false) rfl rfl rfl) rfl ?_
 refine g_no0 (yn (dj:=15) rfl rfl) ?_
 refine g_no0 (yn (dj:=15) rfl rfl) ?_
 refine g_no0 (yn (dj:=15) rfl rfl) ?_
 refine g_no (yl (dj:=11) (b:=false) rfl rfl rfl) rfl ?_
 refine st (v:=.bool false) (x_pick_f (.tmp rfl rfl) .const) ?_
 refine st (v:=.bool false) (x_assign (.tmp rfl rfl)) ?_
 refine c_nil (n_then (c_ret (leave_ret (res_one (v:=.bool false) rfl (.mk rfl rfl)) ?_)))
 have hfm:false = formV n p:=by
   unfold formV
   first | exact decide_eq_decide.2 (by omega) | exact (decide_eq_true (by omega)).symm | exact (decide_eq_false (by omega)).symm
 exact ⟨congrArg (fun b => Ending.returned (.bool b)) hfm,hs4.drop⟩
set_option maxHeartbeats 8000000 in
theorem rform_spec {H:Hp} {w:World} {L:List Res} (hs:St H w L) (n:Nat) (p:Int):Calls Try.prog 19 #[.agg #[.int .u64 ((n:Nat):Int),.int .i64 p]] w (fun e w' => e = .returned (.bool (formV n p))∧St H w' L):=by
 refine enter (args:=[.agg #[.int .u64 ((n:Nat):Int),.int .i64 p]]) (N:=17) Try.func19 rfl rfl rfl ?_
 refine c_seq (c_region (st_m (m_box (cs:=[.int .u64 ((n:Nat):Int),.int .i64 p]) hs (v:=.agg #[.int .u64 ((n:Nat):Int),.int .i64 p]) (.tmp rfl rfl) rfl) ?_))
 rintro _ w2 ⟨g1,rfl,hs4⟩
 refine st (v:=.bool false) (x_assign .const) ?_
 refine c_nil (n_then (c_seq (c_seq (c_region (st (v:=.pointer (some ⟨g1,0 + 0,none⟩)) (fa24_0 (.tmp rfl rfl)) ?_)))))
 refine st (v:=.int .u64 ((n:Nat):Int)) (ld22 (.tmp rfl rfl) (hs4.cell 0 rfl (0 + 0) rfl)) ?_
 refine st (v:=.bool (decide ((((n:Nat):Int):Int) = 0))) (x_eql (k:=.u64) (a:=((n:Nat):Int)) (b:=0) (.tmp rfl rfl) .const) ?_
 refine c_nil (n_then ?_)
 rcases Bool.eq_false_or_eq_true (decide ((((n:Nat):Int):Int) = 0)) with hc5 | hc5
 have hp5:(((n:Nat):Int):Int) = 0:=of_decide_eq_true hc5
 refine c_cond_t (t:=true) (.tmp rfl (cVb hc5)) rfl ?_
 refine c_seq (c_region (st (v:=.pointer (some ⟨g1,0 + 1,none⟩)) (fa24_1 (.tmp rfl rfl)) ?_))
 refine st (v:=.int .i64 p) (ld3 (.tmp rfl rfl) (hs4.cell 0 rfl (0 + 1) rfl)) ?_
 refine st (v:=.bool (decide ((p:Int) = 0))) (x_eql (k:=.i64) (a:=p) (b:=0) (.tmp rfl rfl) .const) ?_
 refine st (v:=.bool (decide ((p:Int) = 0))) (x_assign (.tmp rfl rfl)) ?_
 refine c_nil (n_then (c_ret (r_then (leave_ret (res_one (v:=.bool (decide ((p:Int) = 0))) rfl (.mk rfl rfl)) ?_))))
 have hfm:(decide ((p:Int) = 0)) = formV n p:=by
   unfold formV
   first | exact decide_eq_decide.2 (by omega) | exact (decide_eq_true (by omega)).symm | exact (decide_eq_false (by omega)).symm
 exact ⟨congrArg (fun b => Ending.returned (.bool b)) hfm,hs4.drop⟩
 have hp5:¬ ((((n:Nat):Int):Int) = 0):=of_decide_eq_false hc5
 refine c_cond_f (t:=false) (.tmp rfl (cVb hc5)) rfl ?_
 refine c_skip (n_then (c_seq (c_region (st (v:=.pointer (some ⟨g1,0 + 1,none⟩)) (fa24_1 (.tmp rfl rfl)) ?_))))
 refine st (v:=.int .i64 p) (ld3 (.tmp rfl rfl) (hs4.cell 0 rfl (0 + 1) rfl)) ?_
 refine st (v:=.bool (decide ((0:Int) ≤ p))) (x_geq (k:=.i64) (a:=p) (b:=0) (.tmp rfl rfl) .const) ?_
 refine st (v:=.bool (decide ((0:Int) ≤ p))) (x_move (.tmp rfl rfl)) ?_
 rcases Bool.eq_false_or_eq_true (decide ((0:Int) ≤ p)) with hc6 | hc6
 have hp6:(0:Int) ≤ p:=of_decide_eq_true hc6
 refine g_yes (yk 12 true rfl rfl hc6) ?_
 refine st (v:=.pointer (some ⟨g1,0 + 1,none⟩)) (fa24_1 (.tmp rfl rfl)) ?_
 refine g_yes (yk 12 true rfl rfl hc6) ?_
 refine st (v:=.int .i64 p) (ld3 (.tmp rfl rfl) (hs4.cell 0 rfl (0 + 1) rfl)) ?_
 refine g_yes (yk 12 true rfl rfl hc6) ?_
 refine st (v:=.bool (decide ((p:Int) ≤ 15))) (x_leq (k:=.i64) (a:=p) (b:=15) (.tmp rfl rfl) .const) ?_
 refine st (v:=.bool (decide ((p:Int) ≤ 15))) (x_pick_t (.tmp rfl (cVb hc6)) (.tmp rfl rfl)) ?_
 refine st (v:=.bool (decide ((p:Int) ≤ 15))) (x_assign (.tmp rfl rfl)) ?_
 refine c_nil (n_then (c_ret (leave_ret (res_one (v:=.bool (decide ((p:Int) ≤ 15))) rfl (.mk rfl rfl)) ?_)))
 have hfm:(decide ((p:Int) ≤ 15)) = formV n p:=by
   unfold formV
   first | exact decide_eq_decide.2 (by omega) | exact (decide_eq_true (by omega)).symm | exact (decide_eq_false (by omega)).symm
 exact ⟨congrArg (fun b => Ending.returned (.bool b)) hfm,hs4.drop⟩
 have hp6:¬ ((0:Int) ≤ p):=of_decide_eq_false hc6
 refine g_no (yk 12 false rfl rfl hc6) rfl ?_
 refine g_no (yk 12 false rfl rfl hc6) rfl ?_
 refine g_no (yk 12 false rfl rfl hc6) rfl ?_
 refine st (v:=.bool false) (x_pick_f (.tmp rfl (cVb hc6)) .const) ?_
 refine st (v:=.bool false) (x_assign (.tmp rfl rfl)) ?_
 refine c_nil (n_then (c_ret (leave_ret (res_one (v:=.bool false) rfl (.mk rfl rfl)) ?_)))
 have hfm:false = formV n p:=by
   unfold formV
   first | exact decide_eq_decide.2 (by omega) | exact (decide_eq_true (by omega)).symm | exact (decide_eq_false (by omega)).symm
 exact ⟨congrArg (fun b => Ending.returned (.bool b)) hfm,hs4.drop⟩
end Go.Proofs.Ytlfihfmmhhcigaa

set_option linter.unusedVariables false
set_option linter.unusedSimpArgs false
namespace Go.Proofs.Ytlfihfmmhhcigaa
open Go Go.FM Go.Proofs
attribute [local irreducible] wpList wpQuiet wpS Code.wp Calls
set_option maxHeartbeats 8000000 in
theorem sum_spec {H:Hp} {w:World} {L:List Res} (hs:St H w L) {A:Option Addr} {n c:Nat} {bs:List Nat} (hp:Bs H A n c bs) (hn:n ≤ 140737488355320):Calls Try.prog 59 #[.slice A n c] w (fun e w' => e = .returned (.int .u32 ((crc bs:Nat):Int))∧St H w' L):=by
 refine enter (args:=[.slice A n c]) (N:=29) Try.func59 rfl rfl rfl ?_
 have hle:=hp.le
 have hlen:=hp.len
 refine c_seq (c_region (st (v:=.int .u32 0) (x_assign .const) ?_))
 refine c_nil (n_then (c_seq (c_region (st (v:=.int .u32 4294967295) (x_assign .const) ?_))))
 refine c_nil (n_then (c_seq (c_seq (c_region (st (v:=.slice A n c) (x_move (.tmp rfl rfl)) ?_)))))
 refine st (v:=.int .i64 ((n:Nat):Int)) (x_len (n:=n) Try.underlying33 (.tmp rfl rfl)) ?_
 refine st (v:=.int .i64 0) (x_move .const) ?_
 refine c_nil (n_then (c_block (c_loop (fun ρ w mm => ∃ (i:Nat) (cc:Nat),ρ 3 = .int .u32 ((cc:Nat):Int)∧ρ 6 = .slice A n c∧ρ 7 = .int .i64 ((n:Nat):Int)∧ρ 8 = .int .i64 ((i:Nat):Int)∧(i ≤ n)∧(cc < 4294967296)∧(cc = crcR 4294967295 (bs.take i))∧St H w (L)∧mm = n - i) _ ⟨0,4294967295,rfl,rfl,rfl,rfl,(by omega),(by decide),rfl,hs,rfl⟩ ?_)))
 rintro ρ w mm ⟨i,cc,hρ2,hρ3,hρ4,hρ5,hi,hc,he,hs6,rfl⟩
 refine c_seq (c_region (st (v:=.bool (decide ((((i:Nat):Int):Int) < ((n:Nat):Int)))) (x_lss (k:=.i64) (a:=((i:Nat):Int)) (b:=((n:Nat):Int)) (.tmp rfl hρ5) (.tmp rfl hρ4)) ?_))
 refine c_nil (n_then (c_seq ?_))
 rcases Bool.eq_false_or_eq_true (decide ((((i:Nat):Int):Int) < ((n:Nat):Int))) with hc7 | hc7
 have hp7:(((i:Nat):Int):Int) < ((n:Nat):Int):=of_decide_eq_true hc7
 refine c_cond_t (t:=true) (.tmp rfl (cVb hc7)) rfl ?_
 refine c_skip (n_then (c_seq (c_block (c_seq (c_region ?_)))))
 obtain ⟨b8,o9,hA10,hc11⟩:=hp.get (i:=i) (by omega)
 refine st (v:=.pointer (some ⟨b8,(o9 + i * 1),none⟩)) (ixo33 (.tmp rfl hρ3) hA10 (i:=((i:Nat):Int)) (.tmp rfl hρ5) (by omega) (by omega) rfl) ?_
 refine st (v:=.int .u8 ((bs.getD i 0:Nat):Int)) (ld5 (.tmp rfl rfl) (hc11 hs6)) ?_
 refine st (v:=.int .u8 ((bs.getD i 0:Nat):Int)) (x_assign (.tmp rfl rfl)) ?_
 refine c_nil (n_then (c_seq (c_region (st (v:=.int .u32 ((cc:Nat):Int)) (x_move (.tmp rfl hρ2)) ?_))))
 refine st (v:=.int .u8 ((bs.getD i 0:Nat):Int)) (x_move (.tmp rfl rfl)) ?_
 have hb12:(bs.getD i 0) < 4294967296:=Nat.lt_of_lt_of_le (hp.lt.getD _) (by decide)
 refine st (v:=.int .u32 (((bs.getD i 0):Nat):Int)) (x_conv (k:=.u8) (a:=((bs.getD i 0:Nat):Int)) Try.underlying5 Try.underlying45 (.tmp rfl rfl) (wU rfl rfl hb12)) ?_
 have hb13:(cc ^^^ (bs.getD i 0)) < 4294967296:=Nat.xor_lt_two_pow (n:=32) hc hb12
 refine st (v:=.int .u32 (((cc ^^^ (bs.getD i 0)):Nat):Int)) (x_xor (k:=.u32) (m:=cc) (n:=(bs.getD i 0)) rfl (.tmp rfl rfl) (.tmp rfl rfl) (show _ < 2 ^ 32 from hc) (show _ < 2 ^ 32 from hb12)) ?_
 refine st (v:=.int .u32 (((cc ^^^ (bs.getD i 0)):Nat):Int)) (x_assign (.tmp rfl rfl)) ?_
 refine c_nil (n_then (c_seq (c_region (st (v:=.int .i64 0) (x_move .const) ?_))))
 refine c_nil (n_then (c_block (c_loop (fun ρ w mm => ∃ (j:Nat) (d:Nat),ρ 3 = .int .u32 ((d:Nat):Int)∧ρ 6 = .slice A n c∧ρ 7 = .int .i64 ((n:Nat):Int)∧ρ 8 = .int .i64 ((i:Nat):Int)∧ρ 16 = .int .i64 ((j:Nat):Int)∧(j ≤ 8)∧(d < 4294967296)∧(d = cbits j (cc ^^^ bs.getD i 0))∧St H w (L)∧mm = 8 - j) _ ⟨0,(cc ^^^ (bs.getD i 0)),rfl,hρ3,hρ4,hρ5,rfl,(by omega),hb13,rfl,hs6,rfl⟩ ?_)))
 rintro ρ w mm ⟨j,d,hρ15,hρ16,hρ17,hρ18,hρ19,hj,hd,he2,hs20,rfl⟩
 refine c_seq (c_region (st (v:=.bool (decide ((((j:Nat):Int):Int) < 8))) (x_lss (k:=.i64) (a:=((j:Nat):Int)) (b:=8) (.tmp rfl hρ19) .const) ?_))
 refine c_nil (n_then (c_seq ?_))
 rcases Bool.eq_false_or_eq_true (decide ((((j:Nat):Int):Int) < 8)) with hc21 | hc21
 have hp21:(((j:Nat):Int):Int) < 8:=of_decide_eq_true hc21
 refine c_cond_t (t:=true) (.tmp rfl (cVb hc21)) rfl ?_
 refine c_skip (n_then (c_seq (c_block (c_region (st (v:=.int .u32 ((d:Nat):Int)) (x_move (.tmp rfl hρ15)) ?_)))))
 have hb22:(d / 2 ^ 1) < 4294967296:=Nat.lt_of_le_of_lt (Nat.div_le_self _ _) hd
 refine st (v:=.int .u32 (((d / 2 ^ 1):Nat):Int)) (x_shr (k:=.u32) (m:=d) (b:=1) rfl (.tmp rfl rfl) .const (by omega) (show _ < 2 ^ 32 from hd)) ?_
 refine st (v:=.int .u32 ((d:Nat):Int)) (x_move (.tmp rfl hρ15)) ?_
 have hb23:(d &&& 1) < 4294967296:=Nat.lt_of_le_of_lt Nat.and_le_left hd
 refine st (v:=.int .u32 (((d &&& 1):Nat):Int)) (x_and (k:=.u32) (m:=d) (n:=1) rfl (.tmp rfl rfl) .const (show _ < 2 ^ 32 from hd) (show _ < 2 ^ 32 from (by decide))) ?_
 refine st (v:=.int .u32 ((((0 - (((d &&& 1):Nat):Int)) % 4294967296).toNat:Nat):Int)) (x_neg (k:=.u32) (a:=(((d &&& 1):Nat):Int)) (.tmp rfl rfl) (wrapU _ rfl _)) ?_
 have hb24:(3988292384 &&& (((0 - (((d &&& 1):Nat):Int)) % 4294967296).toNat)) < 4294967296:=Nat.lt_of_le_of_lt Nat.and_le_left (by decide)
 refine st (v:=.int .u32 (((3988292384 &&& (((0 - (((d &&& 1):Nat):Int)) % 4294967296).toNat)):Nat):Int)) (x_and (k:=.u32) (m:=3988292384) (n:=(((0 - (((d &&& 1):Nat):Int)) % 4294967296).toNat)) rfl .const (.tmp rfl rfl) (show _ < 2 ^ 32 from (by decide)) (show _ < 2 ^ 32 from (by omega))) ?_
 have hb25:((d / 2 ^ 1) ^^^ (3988292384 &&& (((0 - (((d &&& 1):Nat):Int)) % 4294967296).toNat))) < 4294967296:=Nat.xor_lt_two_pow (n:=32) hb22 hb24
 refine st (v:=.int .u32 ((((d / 2 ^ 1) ^^^ (3988292384 &&& (((0 - (((d &&& 1):Nat):Int)) % 4294967296).toNat))):Nat):Int)) (x_xor (k:=.u32) (m:=(d / 2 ^ 1)) (n:=(3988292384 &&& (((0 - (((d &&& 1):Nat):Int)) % 4294967296).toNat))) rfl (.tmp rfl rfl) (.tmp rfl rfl) (show _ < 2 ^ 32 from hb22) (show _ < 2 ^ 32 from hb24)) ?_
 refine st (v:=.int .u32 ((((d / 2 ^ 1) ^^^ (3988292384 &&& (((0 - (((d &&& 1):Nat):Int)) % 4294967296).toNat))):Nat):Int)) (x_assign (.tmp rfl rfl)) ?_
 refine c_nil (n_block (n_then (c_region (st (v:=.int .i64 (((j:Nat):Int) + 1)) (x_add (k:=.i64) (a:=((j:Nat):Int)) (b:=1) (.tmp rfl hρ19) .const (w64 (by omega) (by omega))) ?_))))
 refine st (v:=.int .i64 (((j:Nat):Int) + 1)) (x_move (.tmp rfl rfl)) ?_
 refine c_nil ?_
 refine n_then ⟨_,_,rfl,?_,(j + 1),((d / 2 ^ 1) ^^^ (3988292384 &&& (((0 - (((d &&& 1):Nat):Int)) % 4294967296).toNat))),rfl,hρ16,hρ17,hρ18,rfl,(by omega),hb25,(by rw [cbit_code,he2]; rfl),hs20,rfl⟩
 omega
 have hp21:¬ ((((j:Nat):Int):Int) < 8):=of_decide_eq_false hc21
 refine c_cond_f (t:=false) (.tmp rfl (cVb hc21)) rfl ?_
 refine c_exit (x_then (x_then (x_here (n_block (n_then (c_region ?_))))))
 have hj8:j = 8:=by omega
 refine st (v:=.int .i64 (((i:Nat):Int) + 1)) (x_add (k:=.i64) (a:=((i:Nat):Int)) (b:=1) (.tmp rfl hρ18) .const (w64 (by omega) (by omega))) ?_
 refine st (v:=.int .i64 (((i:Nat):Int) + 1)) (x_move (.tmp rfl rfl)) ?_
 refine c_nil ?_
 refine n_then ⟨_,_,rfl,?_,(i + 1),d,hρ15,hρ16,hρ17,rfl,(by omega),hd,(by rw [he2,hj8,crcR_take (by omega),← he]; rfl),hs20,rfl⟩
 omega
 have hp7:¬ ((((i:Nat):Int):Int) < ((n:Nat):Int)):=of_decide_eq_false hc7
 refine c_cond_f (t:=false) (.tmp rfl (cVb hc7)) rfl ?_
 refine c_exit (x_then (x_then (x_here (n_then (c_seq (c_region (st (v:=.int .u32 ((cc:Nat):Int)) (x_move (.tmp rfl hρ2)) ?_)))))))
 refine st (v:=.int .u32 ((4294967295 - cc:Nat):Int)) (x_xorU (k:=.u32) (n:=cc) rfl (.tmp rfl rfl) (show _ < 2 ^ 32 from hc)) ?_
 refine st (v:=.int .u32 ((4294967295 - cc:Nat):Int)) (x_assign (.tmp rfl rfl)) ?_
 refine c_nil (n_then (c_ret (leave_ret (res_one (v:=.int .u32 ((4294967295 - cc:Nat):Int)) rfl (.mk rfl rfl)) ?_)))
 have hi2:i = bs.length:=by omega
 rw [hi2,List.take_length] at he
 exact ⟨by rw [he]; rfl,hs6⟩
set_option maxHeartbeats 8000000 in
theorem rsum_spec {H:Hp} {w:World} {L:List Res} (hs:St H w L) {A:Option Addr} {n c:Nat} {bs:List Nat} (hp:Bs H A n c bs) (hn:n ≤ 140737488355320):Calls Try.prog 46 #[.slice A n c] w (fun e w' => e = .returned (.int .u32 ((crc bs:Nat):Int))∧St H w' L):=by
 refine enter (args:=[.slice A n c]) (N:=36) Try.func46 rfl rfl rfl ?_
 have hle:=hp.le
 have hlen:=hp.len
 refine c_seq (c_region (st (v:=.int .u32 0) (x_assign .const) ?_))
 refine c_nil (n_then (c_seq (c_region (st (v:=.int .u32 4294967295) (x_assign .const) ?_))))
 refine c_nil (n_then (c_seq (c_seq (c_region (st (v:=.int .i64 0) (x_assign .const) ?_)))))
 refine c_nil (n_then (c_block (c_loop (fun ρ w mm => ∃ (i:Nat) (cc:Nat),ρ 0 = .slice A n c∧ρ 3 = .int .u32 ((cc:Nat):Int)∧ρ 4 = .int .i64 ((i:Nat):Int)∧(i ≤ n)∧(cc < 4294967296)∧(cc = crcR 4294967295 (bs.take i))∧St H w (L)∧mm = n - i) _ ⟨0,4294967295,rfl,rfl,rfl,(by omega),(by decide),rfl,hs,rfl⟩ ?_)))
 rintro ρ w mm ⟨i,cc,hρ2,hρ3,hρ4,hi,hc,he,hs5,rfl⟩
 refine c_seq (c_seq (c_region (st (v:=.int .i64 ((i:Nat):Int)) (x_move (.tmp rfl hρ4)) ?_)))
 refine st (v:=.slice A n c) (x_move (.tmp rfl hρ2)) ?_
 refine st (v:=.int .i64 ((n:Nat):Int)) (x_len (n:=n) Try.underlying33 (.tmp rfl rfl)) ?_
 refine st (v:=.bool (decide ((((i:Nat):Int):Int) < ((n:Nat):Int)))) (x_lss (k:=.i64) (a:=((i:Nat):Int)) (b:=((n:Nat):Int)) (.tmp rfl rfl) (.tmp rfl rfl)) ?_
 refine c_nil (n_then ?_)
 rcases Bool.eq_false_or_eq_true (decide ((((i:Nat):Int):Int) < ((n:Nat):Int))) with hc6 | hc6
 have hp6:(((i:Nat):Int):Int) < ((n:Nat):Int):=of_decide_eq_true hc6
 refine c_cond_t (t:=true) (.tmp rfl (cVb hc6)) rfl ?_
 refine c_skip (n_then (c_seq (c_block (c_seq (c_region (st (v:=.int .i64 0) (x_assign .const) ?_))))))
 refine c_nil (n_then (c_block (c_loop (fun ρ w mm => ∃ (j:Nat) (d:Nat),ρ 0 = .slice A n c∧ρ 3 = .int .u32 ((d:Nat):Int)∧ρ 4 = .int .i64 ((i:Nat):Int)∧ρ 5 = .int .i64 ((j:Nat):Int)∧(j ≤ 8)∧(d < 4294967296)∧(d = feed cc (fun i_ => (bs.getD i 0).testBit i_) j)∧St H w (L)∧mm = 8 - j) _ ⟨0,cc,hρ2,hρ3,hρ4,rfl,(by omega),hc,rfl,hs5,rfl⟩ ?_)))
 rintro ρ w mm ⟨j,d,hρ8,hρ9,hρ10,hρ11,hj,hd,he2,hs12,rfl⟩
 refine c_seq (c_seq (c_region (st (v:=.int .i64 ((j:Nat):Int)) (x_move (.tmp rfl hρ11)) ?_)))
 refine st (v:=.bool (decide ((((j:Nat):Int):Int) < 8))) (x_lss (k:=.i64) (a:=((j:Nat):Int)) (b:=8) (.tmp rfl rfl) .const) ?_
 refine c_nil (n_then ?_)
 rcases Bool.eq_false_or_eq_true (decide ((((j:Nat):Int):Int) < 8)) with hc13 | hc13
 have hp13:(((j:Nat):Int):Int) < 8:=of_decide_eq_true hc13
 refine c_cond_t (t:=true) (.tmp rfl (cVb hc13)) rfl ?_
 refine c_skip (n_then (c_seq (c_block (c_seq (c_region (st (v:=.int .u32 ((d:Nat):Int)) (x_move (.tmp rfl hρ9)) ?_))))))
 have hb14:(d &&& 1) < 4294967296:=Nat.lt_of_le_of_lt Nat.and_le_left hd
 refine st (v:=.int .u32 (((d &&& 1):Nat):Int)) (x_and (k:=.u32) (m:=d) (n:=1) rfl (.tmp rfl rfl) .const (show _ < 2 ^ 32 from hd) (show _ < 2 ^ 32 from (by decide))) ?_
 refine st (v:=.slice A n c) (x_move (.tmp rfl hρ8)) ?_
 refine st (v:=.int .i64 ((i:Nat):Int)) (x_move (.tmp rfl hρ10)) ?_
 obtain ⟨b15,o16,hA17,hc18⟩:=hp.get (i:=i) (by omega)
 refine st (v:=.pointer (some ⟨b15,(o16 + i * 1),none⟩)) (ixo33 (.tmp rfl rfl) hA17 (i:=((i:Nat):Int)) (.tmp rfl rfl) (by omega) (by omega) rfl) ?_
 refine st (v:=.int .u8 ((bs.getD i 0:Nat):Int)) (ld5 (.tmp rfl rfl) (hc18 hs12)) ?_
 refine st (v:=.int .i64 ((j:Nat):Int)) (x_move (.tmp rfl hρ11)) ?_
 have hb19:((bs.getD i 0) / 2 ^ j) < 256:=Nat.lt_of_le_of_lt (Nat.div_le_self _ _) (hp.lt.getD _)
 refine st (v:=.int .u8 ((((bs.getD i 0) / 2 ^ j):Nat):Int)) (x_shr (k:=.u8) (m:=(bs.getD i 0)) (b:=((j:Nat):Int)) rfl (.tmp rfl rfl) (.tmp rfl rfl) (by omega) (show _ < 2 ^ 8 from (hp.lt.getD _))) ?_
 have hb20:((bs.getD i 0) / 2 ^ j) < 4294967296:=Nat.lt_of_lt_of_le hb19 (by decide)
 refine st (v:=.int .u32 ((((bs.getD i 0) / 2 ^ j):Nat):Int)) (x_conv (k:=.u8) (a:=((((bs.getD i 0) / 2 ^ j):Nat):Int)) Try.underlying5 Try.underlying45 (.tmp rfl rfl) (wU rfl rfl hb20)) ?_
 have hb21:(((bs.getD i 0) / 2 ^ j) &&& 1) < 4294967296:=Nat.lt_of_le_of_lt Nat.and_le_left hb20
 refine st (v:=.int .u32 (((((bs.getD i 0) / 2 ^ j) &&& 1):Nat):Int)) (x_and (k:=.u32) (m:=((bs.getD i 0) / 2 ^ j)) (n:=1) rfl (.tmp rfl rfl) .const (show _ < 2 ^ 32 from hb20) (show _ < 2 ^ 32 from (by decide))) ?_
 have hb22:((d &&& 1) ^^^ (((bs.getD i 0) / 2 ^ j) &&& 1)) < 4294967296:=Nat.xor_lt_two_pow (n:=32) hb14 hb21
 refine st (v:=.int .u32 ((((d &&& 1) ^^^ (((bs.getD i 0) / 2 ^ j) &&& 1)):Nat):Int)) (x_xor (k:=.u32) (m:=(d &&& 1)) (n:=(((bs.getD i 0) / 2 ^ j) &&& 1)) rfl (.tmp rfl rfl) (.tmp rfl rfl) (show _ < 2 ^ 32 from hb14) (show _ < 2 ^ 32 from hb21)) ?_
 refine st (v:=.int .u32 ((((d &&& 1) ^^^ (((bs.getD i 0) / 2 ^ j) &&& 1)):Nat):Int)) (x_assign (.tmp rfl rfl)) ?_
 refine c_nil (n_then (c_seq (c_region (st (v:=.int .u32 ((d:Nat):Int)) (x_move (.tmp rfl hρ9)) ?_))))
 have hb23:(d / 2 ^ 1) < 4294967296:=Nat.lt_of_le_of_lt (Nat.div_le_self _ _) hd
 refine st (v:=.int .u32 (((d / 2 ^ 1):Nat):Int)) (x_shr (k:=.u32) (m:=d) (b:=1) rfl (.tmp rfl rfl) .const (by omega) (show _ < 2 ^ 32 from hd)) ?_
 refine st (v:=.int .u32 (((d / 2 ^ 1):Nat):Int)) (x_assign (.tmp rfl rfl)) ?_
 refine c_nil (n_then (c_seq (c_region (st (v:=.int .u32 ((((d &&& 1) ^^^ (((bs.getD i 0) / 2 ^ j) &&& 1)):Nat):Int)) (x_move (.tmp rfl rfl)) ?_))))
 refine st (v:=.bool (decide ((((((d &&& 1) ^^^ (((bs.getD i 0) / 2 ^ j) &&& 1)):Nat):Int):Int) = 1))) (x_eql (k:=.u32) (a:=((((d &&& 1) ^^^ (((bs.getD i 0) / 2 ^ j) &&& 1)):Nat):Int)) (b:=1) (.tmp rfl rfl) .const) ?_
 refine c_nil (n_then ?_)
 rcases Bool.eq_false_or_eq_true (decide ((((((d &&& 1) ^^^ (((bs.getD i 0) / 2 ^ j) &&& 1)):Nat):Int):Int) = 1)) with hc24 | hc24
 have hp24:(((((d &&& 1) ^^^ (((bs.getD i 0) / 2 ^ j) &&& 1)):Nat):Int):Int) = 1:=of_decide_eq_true hc24
 refine c_cond_t (t:=true) (.tmp rfl (cVb hc24)) rfl ?_
 refine c_region (st (v:=.int .u32 (((d / 2 ^ 1):Nat):Int)) (x_move (.tmp rfl rfl)) ?_)
 have hb25:((d / 2 ^ 1) ^^^ 3988292384) < 4294967296:=Nat.xor_lt_two_pow (n:=32) hb23 (by decide)
 refine st (v:=.int .u32 ((((d / 2 ^ 1) ^^^ 3988292384):Nat):Int)) (x_xor (k:=.u32) (m:=(d / 2 ^ 1)) (n:=3988292384) rfl (.tmp rfl rfl) .const (show _ < 2 ^ 32 from hb23) (show _ < 2 ^ 32 from (by decide))) ?_
 refine st (v:=.int .u32 ((((d / 2 ^ 1) ^^^ 3988292384):Nat):Int)) (x_assign (.tmp rfl rfl)) ?_
 refine c_nil (n_block (n_then (c_region (st (v:=.int .i64 ((j:Nat):Int)) (x_move (.tmp rfl hρ11)) ?_))))
 refine st (v:=.int .i64 (((j:Nat):Int) + 1)) (x_add (k:=.i64) (a:=((j:Nat):Int)) (b:=1) (.tmp rfl rfl) .const (w64 (by omega) (by omega))) ?_
 refine st (v:=.int .i64 (((j:Nat):Int) + 1)) (x_assign (.tmp rfl rfl)) ?_
 refine c_nil ?_
 refine n_then ⟨_,_,rfl,?_,(j + 1),((d / 2 ^ 1) ^^^ 3988292384),hρ8,rfl,hρ10,rfl,(by omega),hb25,(by rw [feed,← he2]; exact ref_yes hp24),hs12,rfl⟩
 omega
 have hp24:¬ ((((((d &&& 1) ^^^ (((bs.getD i 0) / 2 ^ j) &&& 1)):Nat):Int):Int) = 1):=of_decide_eq_false hc24
 refine c_cond_f (t:=false) (.tmp rfl (cVb hc24)) rfl ?_
 refine c_skip (n_block (n_then (c_region (st (v:=.int .i64 ((j:Nat):Int)) (x_move (.tmp rfl hρ11)) ?_))))
 refine st (v:=.int .i64 (((j:Nat):Int) + 1)) (x_add (k:=.i64) (a:=((j:Nat):Int)) (b:=1) (.tmp rfl rfl) .const (w64 (by omega) (by omega))) ?_
 refine st (v:=.int .i64 (((j:Nat):Int) + 1)) (x_assign (.tmp rfl rfl)) ?_
 refine c_nil ?_
 refine n_then ⟨_,_,rfl,?_,(j + 1),(d / 2 ^ 1),hρ8,rfl,hρ10,rfl,(by omega),hb23,(by rw [feed,← he2]; exact ref_no hp24),hs12,rfl⟩
 omega
 have hp13:¬ ((((j:Nat):Int):Int) < 8):=of_decide_eq_false hc13
 refine c_cond_f (t:=false) (.tmp rfl (cVb hc13)) rfl ?_
 refine c_exit (x_then (x_then (x_here (n_block (n_then (c_region ?_))))))
 have hj8:j = 8:=by omega
 refine st (v:=.int .i64 ((i:Nat):Int)) (x_move (.tmp rfl hρ10)) ?_
 refine st (v:=.int .i64 (((i:Nat):Int) + 1)) (x_add (k:=.i64) (a:=((i:Nat):Int)) (b:=1) (.tmp rfl rfl) .const (w64 (by omega) (by omega))) ?_
 refine st (v:=.int .i64 (((i:Nat):Int) + 1)) (x_assign (.tmp rfl rfl)) ?_
 refine c_nil ?_
 refine n_then ⟨_,_,rfl,?_,(i + 1),d,hρ8,hρ9,rfl,(by omega),hd,(by rw [he2,hj8,crcR_take (by omega),← he]; exact (cbyte_feed cc (hp.lt.getD i)).symm),hs12,rfl⟩
 omega
 have hp6:¬ ((((i:Nat):Int):Int) < ((n:Nat):Int)):=of_decide_eq_false hc6
 refine c_cond_f (t:=false) (.tmp rfl (cVb hc6)) rfl ?_
 refine c_exit (x_then (x_then (x_here (n_then (c_seq (c_region (st (v:=.int .u32 ((cc:Nat):Int)) (x_move (.tmp rfl hρ3)) ?_)))))))
 have hb26:(4294967295 - cc) < 4294967296:=by omega
 refine st (v:=.int .u32 (((4294967295 - cc):Nat):Int)) (x_sub (k:=.u32) (a:=4294967295) (b:=((cc:Nat):Int)) .const (.tmp rfl rfl) (wU rfl (by omega) hb26)) ?_
 refine st (v:=.int .u32 (((4294967295 - cc):Nat):Int)) (x_assign (.tmp rfl rfl)) ?_
 refine c_nil (n_then (c_ret (leave_ret (res_one (v:=.int .u32 (((4294967295 - cc):Nat):Int)) rfl (.mk rfl rfl)) ?_)))
 have hi2:i = bs.length:=by omega
 rw [hi2,List.take_length] at he
 exact ⟨by rw [he]; rfl,hs5⟩
end Go.Proofs.Ytlfihfmmhhcigaa

set_option linter.unusedVariables false
set_option linter.unusedSimpArgs false
namespace Go.Proofs.Ytlfihfmmhhcigaa
open Go Go.FM Go.Proofs
attribute [local irreducible] wpList wpQuiet wpS Code.wp Calls
set_option maxHeartbeats 8000000 in
theorem four_spec {H:Hp} {w:World} {L:List Res} (hs:St H w L) (s:Nat) (b_s:s < 4294967296):Calls Try.prog 58 #[.int .u32 ((s:Nat):Int)] w (fun e w' => e = .returned (.agg #[.int .u8 ((s % 256:Nat):Int),.int .u8 ((s / 2 ^ 8 % 256:Nat):Int),.int .u8 ((s / 2 ^ 16 % 256:Nat):Int),.int .u8 ((s / 2 ^ 24 % 256:Nat):Int)])∧St H w' L):=by
 refine enter (args:=[.int .u32 ((s:Nat):Int)]) (N:=15) Try.func58 rfl rfl rfl ?_
 refine c_seq (c_region (st_m (al95 (cs:=[.int .u8 0,.int .u8 0,.int .u8 0,.int .u8 0]) hs rfl) ?_))
 rintro _ w2 ⟨g1,rfl,hs4⟩
 refine c_nil (n_then (c_seq (c_region (st (v:=.int .u32 ((s:Nat):Int)) (x_move (.tmp rfl rfl)) ?_))))
 refine st (v:=.int .u8 (((s % 256):Nat):Int)) (x_conv (k:=.u32) (a:=((s:Nat):Int)) Try.underlying45 Try.underlying5 (.tmp rfl rfl) (wrapN _ rfl _)) ?_
 refine st (v:=.int .u32 ((s:Nat):Int)) (x_move (.tmp rfl rfl)) ?_
 have hb5:(s / 2 ^ 8) < 4294967296:=Nat.lt_of_le_of_lt (Nat.div_le_self _ _) b_s
 refine st (v:=.int .u32 (((s / 2 ^ 8):Nat):Int)) (x_shr (k:=.u32) (m:=s) (b:=8) rfl (.tmp rfl rfl) .const (by omega) (show _ < 2 ^ 32 from b_s)) ?_
 refine st (v:=.int .u8 ((((s / 2 ^ 8) % 256):Nat):Int)) (x_conv (k:=.u32) (a:=(((s / 2 ^ 8):Nat):Int)) Try.underlying45 Try.underlying5 (.tmp rfl rfl) (wrapN _ rfl _)) ?_
 refine st (v:=.int .u32 ((s:Nat):Int)) (x_move (.tmp rfl rfl)) ?_
 have hb6:(s / 2 ^ 16) < 4294967296:=Nat.lt_of_le_of_lt (Nat.div_le_self _ _) b_s
 refine st (v:=.int .u32 (((s / 2 ^ 16):Nat):Int)) (x_shr (k:=.u32) (m:=s) (b:=16) rfl (.tmp rfl rfl) .const (by omega) (show _ < 2 ^ 32 from b_s)) ?_
 refine st (v:=.int .u8 ((((s / 2 ^ 16) % 256):Nat):Int)) (x_conv (k:=.u32) (a:=(((s / 2 ^ 16):Nat):Int)) Try.underlying45 Try.underlying5 (.tmp rfl rfl) (wrapN _ rfl _)) ?_
 refine st (v:=.int .u32 ((s:Nat):Int)) (x_move (.tmp rfl rfl)) ?_
 have hb7:(s / 2 ^ 24) < 4294967296:=Nat.lt_of_le_of_lt (Nat.div_le_self _ _) b_s
 refine st (v:=.int .u32 (((s / 2 ^ 24):Nat):Int)) (x_shr (k:=.u32) (m:=s) (b:=24) rfl (.tmp rfl rfl) .const (by omega) (show _ < 2 ^ 32 from b_s)) ?_
 refine st (v:=.int .u8 ((((s / 2 ^ 24) % 256):Nat):Int)) (x_conv (k:=.u32) (a:=(((s / 2 ^ 24):Nat):Int)) Try.underlying45 Try.underlying5 (.tmp rfl rfl) (wrapN _ rfl _)) ?_
 refine st (v:=.agg #[.int .u8 (((s % 256):Nat):Int),.int .u8 ((((s / 2 ^ 8) % 256):Nat):Int),.int .u8 ((((s / 2 ^ 16) % 256):Nat):Int),.int .u8 ((((s / 2 ^ 24) % 256):Nat):Int)]) (x_bldArr (ps:=[(0,.int .u8 (((s % 256):Nat):Int)),(1,.int .u8 ((((s / 2 ^ 8) % 256):Nat):Int)),(2,.int .u8 ((((s / 2 ^ 16) % 256):Nat):Int)),(3,.int .u8 ((((s / 2 ^ 24) % 256):Nat):Int))]) Try.underlying95 inf95 inf5 (.cons (.tmp rfl rfl) (.cons (.tmp rfl rfl) (.cons (.tmp rfl rfl) (.cons (.tmp rfl rfl) Evp.nil)))) rfl) ?_
 refine st_m0 (sto95 (cs':=[.int .u8 (((s % 256):Nat):Int),.int .u8 ((((s / 2 ^ 8) % 256):Nat):Int),.int .u8 ((((s / 2 ^ 16) % 256):Nat):Int),.int .u8 ((((s / 2 ^ 24) % 256):Nat):Int)]) (i:=0) hs4 (v:=.agg #[.int .u8 (((s % 256):Nat):Int),.int .u8 ((((s / 2 ^ 8) % 256):Nat):Int),.int .u8 ((((s / 2 ^ 16) % 256):Nat):Int),.int .u8 ((((s / 2 ^ 24) % 256):Nat):Int)]) (.tmp rfl rfl) (.tmp rfl rfl) rfl (Nat.le_of_ble_eq_true rfl) (oneA rfl) rfl) ?_
 rintro w8 hs10
 refine c_nil (n_then (c_ret (leave_ret (res_one (v:=.agg #[.int .u8 (((s % 256):Nat):Int),.int .u8 ((((s / 2 ^ 8) % 256):Nat):Int),.int .u8 ((((s / 2 ^ 16) % 256):Nat):Int),.int .u8 ((((s / 2 ^ 24) % 256):Nat):Int)]) rfl (.mkCell rfl rfl (lv95 (cs:=[.int .u8 (((s % 256):Nat):Int),.int .u8 ((((s / 2 ^ 8) % 256):Nat):Int),.int .u8 ((((s / 2 ^ 16) % 256):Nat):Int),.int .u8 ((((s / 2 ^ 24) % 256):Nat):Int)]) (hs10.at_ 0 rfl 0 rfl) rfl))) ?_)))
 exact ⟨rfl,hs10.drop⟩
set_option maxHeartbeats 8000000 in
theorem seal_spec {H:Hp} {w:World} {L:List Res} (hs:St H w L) {A:Option Addr} {n c:Nat} {bs:List Nat} (hp:Bs H A n c bs) (hn:n ≤ 140737488355320):Calls Try.prog 28 #[.slice A n c] w (fun e w' => ∃ v,e = .returned v∧RowOk 1 v (n + 4) ((seal_ bs).map encB)∧St H w' (row 5 1 v (n + 4) ((seal_ bs).map encB)::L)):=by
 refine enter (args:=[.slice A n c]) (N:=11) Try.func28 rfl rfl rfl ?_
 have hle:=hp.le
 have hlen:=hp.len
 refine c_seq (c_region (st (v:=.slice none 0 0) (x_assign .const) ?_))
 refine c_nil (n_then (c_seq (c_region (st (v:=.slice A n c) (x_move (.tmp rfl rfl)) ?_))))
 refine st_c cb59 .func (evs1 (.tmp rfl rfl)) (sum_spec hs hp (by omega)) ?_
 rintro e w1 ⟨rfl,hs2⟩
 refine ⟨_,rfl,?_⟩
 refine st_c cb58 .func (evs1 (.tmp rfl rfl)) (four_spec hs2 (crc bs) (crc_lt _)) ?_
 rintro e w3 ⟨rfl,hs4⟩
 refine ⟨_,rfl,?_⟩
 refine st_m (al95 (cs:=[.int .u8 0,.int .u8 0,.int .u8 0,.int .u8 0]) hs4 rfl) ?_
 rintro _ w6 ⟨g5,rfl,hs8⟩
 refine st_m0 (sto95 (cs':=[.int .u8 (((crc bs) % 256:Nat):Int),.int .u8 (((crc bs) / 2 ^ 8 % 256:Nat):Int),.int .u8 (((crc bs) / 2 ^ 16 % 256:Nat):Int),.int .u8 (((crc bs) / 2 ^ 24 % 256:Nat):Int)]) (i:=0) hs8 (v:=.agg #[.int .u8 (((crc bs) % 256:Nat):Int),.int .u8 (((crc bs) / 2 ^ 8 % 256:Nat):Int),.int .u8 (((crc bs) / 2 ^ 16 % 256:Nat):Int),.int .u8 (((crc bs) / 2 ^ 24 % 256:Nat):Int)]) (.tmp rfl rfl) (.tmp rfl rfl) rfl (Nat.le_of_ble_eq_true rfl) (oneA rfl) rfl) ?_
 rintro w9 hs11
 refine c_nil (n_then (c_seq (s_region (L:=obj g5 95 [.int .u8 (((crc bs) % 256:Nat):Int),.int .u8 (((crc bs) / 2 ^ 8 % 256:Nat):Int),.int .u8 (((crc bs) / 2 ^ 16 % 256:Nat):Int),.int .u8 (((crc bs) / 2 ^ 24 % 256:Nat):Int)]::L) (L':=obj g5 95 [.int .u8 (((crc bs) % 256:Nat):Int),.int .u8 (((crc bs) / 2 ^ 8 % 256:Nat):Int),.int .u8 (((crc bs) / 2 ^ 16 % 256:Nat):Int),.int .u8 (((crc bs) / 2 ^ 24 % 256:Nat):Int)]::L) none [(0,true),(2,true),(1,false),(3,false),(4,true)] mixed hs11 (fun u hu => hu) (by kernel_rfl) ?_)))
 intro w12 hs13
 refine s_st (k:=0) (v:=.slice A n c) rfl (fun w hs => (x_move (.tmp rfl rfl))) ?_
 refine s_st (k:=2) (v:=.slice (some ⟨g5,0,none⟩) 4 4) rfl (fun w hs => (x_sliceArr Try.underlying95 inf5 (.tmp rfl rfl))) ?_
 refine s_eff (k:=1) rfl ?_
 refine st_m (m_appNil Try.underlying33 inf5 hs13 .const (.tmp rfl rfl) hp (by omega)) ?_
 rintro v14 w15 ⟨ok16,hs17⟩
 refine s_on (S':=fun u => St H u (obj g5 95 [.int .u8 (((crc bs) % 256:Nat):Int),.int .u8 (((crc bs) / 2 ^ 8 % 256:Nat):Int),.int .u8 (((crc bs) / 2 ^ 16 % 256:Nat):Int),.int .u8 (((crc bs) / 2 ^ 24 % 256:Nat):Int)]::L)) (fun u hu => hu) hs17.drop ?_
 refine s_eff (k:=3) rfl ?_
 refine st_m (m_appAt (bs:=[((crc bs) % 256),((crc bs) / 2 ^ 8 % 256),((crc bs) / 2 ^ 16 % 256),((crc bs) / 2 ^ 24 % 256)]) Try.underlying33 inf5 hs17 ok16 (.tmp rfl rfl) (.tmp rfl rfl) rfl (hs17.at_ 1 rfl 0 rfl) (by omega)) ?_
 rintro v19 w20 ⟨ok21,hs22⟩
 refine s_on (S':=fun u => St H u (obj g5 95 [.int .u8 (((crc bs) % 256:Nat):Int),.int .u8 (((crc bs) / 2 ^ 8 % 256:Nat):Int),.int .u8 (((crc bs) / 2 ^ 16 % 256:Nat):Int),.int .u8 (((crc bs) / 2 ^ 24 % 256:Nat):Int)]::L)) (fun u hu => hu) hs22.drop ?_
 refine s_st (k:=4) (v:=v19) rfl (fun w hs => (x_assign (.tmp rfl rfl))) ?_
 refine s_nil ?_
 refine n_then (c_ret (leave_ret (res_one (v:=v19) rfl (.mk rfl rfl)) ?_))
 exact ⟨_,rfl,ok21,(hs22.p1).drop⟩
set_option maxHeartbeats 8000000 in
theorem rseal_spec {H:Hp} {w:World} {L:List Res} (hs:St H w L) {A:Option Addr} {n c:Nat} {bs:List Nat} (hp:Bs H A n c bs) (hn:n ≤ 140737488355320):Calls Try.prog 17 #[.slice A n c] w (fun e w' => ∃ v,e = .returned v∧RowOk 1 v (n + 4) ((seal_ bs).map encB)∧St H w' (row 5 1 v (n + 4) ((seal_ bs).map encB)::L)):=by
 refine enter (args:=[.slice A n c]) (N:=24) Try.func17 rfl rfl rfl ?_
 have hle:=hp.le
 have hlen:=hp.len
 refine c_seq (c_region (st (v:=.slice none 0 0) (x_assign .const) ?_))
 refine c_nil (n_then (c_seq (c_region (st (v:=.slice none 0 0) (x_assign .const) ?_))))
 refine c_nil (n_then (c_seq (c_region (st (v:=.slice none 0 0) (x_move (.tmp rfl rfl)) ?_))))
 refine st (v:=.slice A n c) (x_move (.tmp rfl rfl)) ?_
 refine st_m (m_appNil Try.underlying33 inf5 hs (.tmp rfl rfl) (.tmp rfl rfl) hp (by omega)) ?_
 rintro v1 w2 ⟨ok3,hs4⟩
 refine st (v:=v1) (x_assign (.tmp rfl rfl)) ?_
 refine c_nil (n_then (c_seq (c_region (st (v:=.slice A n c) (x_move (.tmp rfl rfl)) ?_))))
 refine st_c cb46 .func (evs1 (.tmp rfl rfl)) (rsum_spec hs4 hp (by omega)) ?_
 rintro e w6 ⟨rfl,hs7⟩
 refine ⟨_,rfl,?_⟩
 refine st (v:=.int .u32 ((crc bs:Nat):Int)) (x_assign (.tmp rfl rfl)) ?_
 refine c_nil (n_then (c_seq (c_seq (c_region (st (v:=.int .i64 0) (x_assign .const) ?_)))))
 refine c_nil (n_then (c_block (c_loop (fun ρ w mm => ∃ (j:Nat) (v:Value),ρ 3 = v∧ρ 4 = .int .u32 ((crc bs:Nat):Int)∧ρ 5 = .int .i64 ((j:Nat):Int)∧(j ≤ 4)∧(RowOk 1 v (n + j) ((bs ++ (four (crc bs)).take j).map encB))∧St H w (row 5 1 v (n + j) ((bs ++ (four (crc bs)).take j).map encB)::L)∧mm = 4 - j) _ ⟨0,v1,rfl,rfl,rfl,(by omega),(by simpa using ok3),(by simpa using hs7),rfl⟩ ?_)))
 rintro ρ w mm ⟨j,v,hρ9,hρ10,hρ11,hj,ok,hs12,rfl⟩
 refine c_seq (c_seq (c_region (st (v:=.int .i64 ((j:Nat):Int)) (x_move (.tmp rfl hρ11)) ?_)))
 refine st (v:=.bool (decide ((((j:Nat):Int):Int) < 4))) (x_lss (k:=.i64) (a:=((j:Nat):Int)) (b:=4) (.tmp rfl rfl) .const) ?_
 refine c_nil (n_then ?_)
 rcases Bool.eq_false_or_eq_true (decide ((((j:Nat):Int):Int) < 4)) with hc13 | hc13
 have hp13:(((j:Nat):Int):Int) < 4:=of_decide_eq_true hc13
 refine c_cond_t (t:=true) (.tmp rfl (cVb hc13)) rfl ?_
 refine c_skip (n_then (c_seq (c_block (c_region ?_))))
 have hj4:j < 4:=by omega
 refine st (v:=v) (x_move (.tmp rfl hρ9)) ?_
 refine st (v:=.int .u32 ((crc bs:Nat):Int)) (x_move (.tmp rfl hρ10)) ?_
 refine st (v:=.int .i64 ((j:Nat):Int)) (x_move (.tmp rfl hρ11)) ?_
 refine st (v:=.int .i64 (8 * ((j:Nat):Int))) (x_mul (k:=.i64) (a:=8) (b:=((j:Nat):Int)) .const (.tmp rfl rfl) (w64 (by omega) (by omega))) ?_
 have hb14:((crc bs) / 2 ^ (8 * ((j:Nat):Int)).toNat) < 4294967296:=Nat.lt_of_le_of_lt (Nat.div_le_self _ _) (crc_lt _)
 refine st (v:=.int .u32 ((((crc bs) / 2 ^ (8 * ((j:Nat):Int)).toNat):Nat):Int)) (x_shr (k:=.u32) (m:=(crc bs)) (b:=(8 * ((j:Nat):Int))) rfl (.tmp rfl rfl) (.tmp rfl rfl) (by omega) (show _ < 2 ^ 32 from (crc_lt _))) ?_
 refine st (v:=.int .u8 (((((crc bs) / 2 ^ (8 * ((j:Nat):Int)).toNat) % 256):Nat):Int)) (x_conv (k:=.u32) (a:=((((crc bs) / 2 ^ (8 * ((j:Nat):Int)).toNat):Nat):Int)) Try.underlying45 Try.underlying5 (.tmp rfl rfl) (wrapN _ rfl _)) ?_
 refine st_m (m_lit (n:=1) (ps:=[(0,.int .u8 (((((crc bs) / 2 ^ (8 * ((j:Nat):Int)).toNat) % 256):Nat):Int))]) (cs:=[.int .u8 (((((crc bs) / 2 ^ (8 * ((j:Nat):Int)).toNat) % 256):Nat):Int)]) Try.underlying33 inf5 (.cons (.tmp rfl rfl) Evp.nil) (by decide) (by decide) rfl rfl hs12) ?_
 rintro _ w16 ⟨g15,rfl,hs18⟩
 have hs19:=hs18.p1
 refine st_m (m_appAt (bs:=[(((crc bs) / 2 ^ (8 * ((j:Nat):Int)).toNat) % 256)]) Try.underlying33 inf5 hs19 ok (.tmp rfl rfl) (.tmp rfl rfl) rfl (hs19.at_ 1 rfl 0 rfl) (by omega)) ?_
 rintro v20 w21 ⟨ok22,hs23⟩
 refine st (v:=v20) (x_assign (.tmp rfl rfl)) ?_
 refine c_nil (n_block (n_then (c_region (st (v:=.int .i64 ((j:Nat):Int)) (x_move (.tmp rfl hρ11)) ?_))))
 refine st (v:=.int .i64 (((j:Nat):Int) + 1)) (x_add (k:=.i64) (a:=((j:Nat):Int)) (b:=1) (.tmp rfl rfl) .const (w64 (by omega) (by omega))) ?_
 refine st (v:=.int .i64 (((j:Nat):Int) + 1)) (x_assign (.tmp rfl rfl)) ?_
 refine c_nil ?_
 refine n_then ⟨_,_,rfl,?_,(j + 1),v20,rfl,hρ10,rfl,(by omega),(four_next bs hj4 ok22),(four_nextS bs hj4 (hs23.p1).drop),rfl⟩
 omega
 have hp13:¬ ((((j:Nat):Int):Int) < 4):=of_decide_eq_false hc13
 refine c_cond_f (t:=false) (.tmp rfl (cVb hc13)) rfl ?_
 refine c_exit (x_then (x_then (x_here (n_then (c_seq (c_region (st (v:=v) (x_move (.tmp rfl hρ9)) ?_)))))))
 refine st (v:=v) (x_assign (.tmp rfl rfl)) ?_
 refine c_nil (n_then (c_ret (leave_ret (res_one (v:=v) rfl (.mk rfl rfl)) ?_)))
 obtain rfl:j = 4:=by omega
 exact ⟨_,rfl,ok,hs12⟩
set_option maxHeartbeats 8000000 in
theorem open_spec {H:Hp} {w:World} {L:List Res} (hs:St H w L) {A:Option Addr} {n c:Nat} {bs:List Nat} (hp:Bs H A n c bs) (hn:n ≤ 140737488355320):Calls Try.prog 31 #[.slice A n c] w (fun e w' => ∃ v,e = .returned (.tuple #[v,.int .i64 (openL bs).2])∧RowOk 1 v (openL bs).1.length ((openL bs).1.map encB)∧St H w' (row 5 1 v (openL bs).1.length ((openL bs).1.map encB)::L)):=by
 obtain rfl:=hp.len
 refine enter (args:=[.slice A bs.length c]) (N:=25) Try.func31 rfl rfl rfl ?_
 have hle:=hp.le
 refine c_seq (c_region (st (v:=.slice none 0 0) (x_assign .const) ?_))
 refine st (v:=.int .i64 0) (x_assign .const) ?_
 refine c_nil (n_then (c_seq (c_region (st (v:=.slice A bs.length c) (x_move (.tmp rfl rfl)) ?_))))
 refine st (v:=.int .i64 ((bs.length:Nat):Int)) (x_len (n:=bs.length) Try.underlying33 (.tmp rfl rfl)) ?_
 refine st (v:=.int .i64 (((bs.length:Nat):Int) - 4)) (x_sub (k:=.i64) (a:=((bs.length:Nat):Int)) (b:=4) (.tmp rfl rfl) .const (w64 (by omega) (by omega))) ?_
 refine st (v:=.int .i64 (((bs.length:Nat):Int) - 4)) (x_assign (.tmp rfl rfl)) ?_
 refine c_nil (n_then (c_seq (c_seq (c_region (st (v:=.int .i64 (((bs.length:Nat):Int) - 4)) (x_move (.tmp rfl rfl)) ?_)))))
 refine st (v:=.bool (decide (((((bs.length:Nat):Int) - 4):Int) < 0))) (x_lss (k:=.i64) (a:=(((bs.length:Nat):Int) - 4)) (b:=0) (.tmp rfl rfl) .const) ?_
 refine c_nil (n_then ?_)
 rcases Bool.eq_false_or_eq_true (decide (((((bs.length:Nat):Int) - 4):Int) < 0)) with hc1 | hc1
 have hp1:((((bs.length:Nat):Int) - 4):Int) < 0:=of_decide_eq_true hc1
 refine c_cond_t (t:=true) (.tmp rfl (cVb hc1)) rfl ?_
 refine c_seq (c_region (st (v:=.slice none 0 0) (x_assign .const) ?_))
 refine st (v:=.int .i64 3) (x_assign .const) ?_
 refine c_nil (n_then (c_ret (r_then (leave_ret (res_two (v:=.slice none 0 0) (u:=.int .i64 3) rfl (.mk rfl rfl) (.mk rfl rfl)) ?_))))
 rw [openL_short (by omega)]
 exact ⟨_,rfl,RowOk.nil 1,(hs).rowNil 5 1⟩
 have hp1:¬ (((((bs.length:Nat):Int) - 4):Int) < 0):=of_decide_eq_false hc1
 refine c_cond_f (t:=false) (.tmp rfl (cVb hc1)) rfl ?_
 refine c_skip (n_then (c_seq (c_seq (s_region (L:=L) (L':=L) none [(0,true),(1,true),(2,true),(3,true),(4,true),(5,true),(6,true),(7,true),(8,false),(9,false),(10,true)] mixed hs (fun u hu => hu) (by kernel_rfl) ?_))))
 intro w2 hs3
 refine s_st (k:=0) (v:=.slice A bs.length c) rfl (fun w hs => (x_move (.tmp rfl rfl))) ?_
 refine s_st (k:=1) (v:=.int .i64 (((bs.length:Nat):Int) - 4)) rfl (fun w hs => (x_move (.tmp rfl rfl))) ?_
 have:=hp.le
 refine s_st (k:=2) (v:=.slice (cutA A c ((((bs.length:Nat):Int) - 4).toNat) 1) (bs.length - (((bs.length:Nat):Int) - 4).toNat) (c - (((bs.length:Nat):Int) - 4).toNat)) rfl (fun w hs => (bs_l Try.underlying33 inf5 (a:=(((bs.length:Nat):Int) - 4)) (.tmp rfl rfl) (.tmp rfl rfl) (by omega) (by omega) (by omega))) ?_
 obtain ⟨b4,o5,hA6,hat7⟩:=(hp.drop (k:=(((bs.length:Nat):Int) - 4).toNat) (by omega)).first (by omega)
 refine s_st (k:=3) (v:=.pointer (cutA A c ((((bs.length:Nat):Int) - 4).toNat) 1)) rfl (fun w hs => (x_toArray Try.underlying95 (.tmp rfl rfl) (by omega))) ?_
 refine s_st (k:=4) (v:=.agg #[.int .u8 (((bs.drop ((((bs.length:Nat):Int) - 4).toNat)).getD 0 0:Nat):Int),.int .u8 (((bs.drop ((((bs.length:Nat):Int) - 4).toNat)).getD 1 0:Nat):Int),.int .u8 (((bs.drop ((((bs.length:Nat):Int) - 4).toNat)).getD 2 0:Nat):Int),.int .u8 (((bs.drop ((((bs.length:Nat):Int) - 4).toNat)).getD 3 0:Nat):Int)]) rfl (fun w hs => (ld95 (cs:=[.int .u8 (((bs.drop ((((bs.length:Nat):Int) - 4).toNat)).getD 0 0:Nat):Int),.int .u8 (((bs.drop ((((bs.length:Nat):Int) - 4).toNat)).getD 1 0:Nat):Int),.int .u8 (((bs.drop ((((bs.length:Nat):Int) - 4).toNat)).getD 2 0:Nat):Int),.int .u8 (((bs.drop ((((bs.length:Nat):Int) - 4).toNat)).getD 3 0:Nat):Int)]) (.tmp rfl (congrArg Value.pointer hA6)) ((hat7 hs).sub 0 rfl) rfl)) ?_
 refine s_st (k:=5) (v:=.slice A bs.length c) rfl (fun w hs => (x_move (.tmp rfl rfl))) ?_
 refine s_st (k:=6) (v:=.int .i64 (((bs.length:Nat):Int) - 4)) rfl (fun w hs => (x_move (.tmp rfl rfl))) ?_
 have:=hp.le
 refine s_st (k:=7) (v:=.slice A ((((bs.length:Nat):Int) - 4).toNat) c) rfl (fun w hs => (bs_h Try.underlying33 inf5 (a:=(((bs.length:Nat):Int) - 4)) (.tmp rfl rfl) (.tmp rfl rfl) (by omega) (by omega))) ?_
 refine s_eff (k:=8) rfl ?_
 refine st_c cb59 .func (evs1 (.tmp rfl rfl)) (sum_spec hs3 (hp.take (k:=(((bs.length:Nat):Int) - 4).toNat) (by omega)) (by omega)) ?_
 rintro e w8 ⟨rfl,hs9⟩
 refine ⟨_,rfl,?_⟩
 refine s_on (S':=fun u => St H u (L)) (fun u hu => hu) hs9 ?_
 refine s_eff (k:=9) rfl ?_
 refine st_c cb58 .func (evs1 (.tmp rfl rfl)) (four_spec hs9 (crc (bs.take ((((bs.length:Nat):Int) - 4).toNat))) (crc_lt _)) ?_
 rintro e w10 ⟨rfl,hs11⟩
 refine ⟨_,rfl,?_⟩
 refine s_on (S':=fun u => St H u (L)) (fun u hu => hu) hs11 ?_
 refine s_st (k:=10) (v:=.bool (!((((bs.drop ((((bs.length:Nat):Int) - 4).toNat)).getD 0 0:Nat):Int) == (((crc (bs.take ((((bs.length:Nat):Int) - 4).toNat))) % 256:Nat):Int) && ((((bs.drop ((((bs.length:Nat):Int) - 4).toNat)).getD 1 0:Nat):Int) == (((crc (bs.take ((((bs.length:Nat):Int) - 4).toNat))) / 2 ^ 8 % 256:Nat):Int) && ((((bs.drop ((((bs.length:Nat):Int) - 4).toNat)).getD 2 0:Nat):Int) == (((crc (bs.take ((((bs.length:Nat):Int) - 4).toNat))) / 2 ^ 16 % 256:Nat):Int) && (((bs.drop ((((bs.length:Nat):Int) - 4).toNat)).getD 3 0:Nat):Int) == (((crc (bs.take ((((bs.length:Nat):Int) - 4).toNat))) / 2 ^ 24 % 256:Nat):Int)))))) rfl (fun w hs => (x_neqA eqg95 (.tmp rfl rfl) (.tmp rfl rfl) (fun d => run_eqArr4 (d + 98) Try.underlying95 Try.underlying5 sc5 inf5 _ _ _ _ _ _ _ _))) ?_
 refine s_nil ?_
 refine n_then ?_
 rcases Bool.eq_false_or_eq_true ((((bs.drop ((((bs.length:Nat):Int) - 4).toNat)).getD 0 0:Nat):Int) == (((crc (bs.take ((((bs.length:Nat):Int) - 4).toNat))) % 256:Nat):Int) && ((((bs.drop ((((bs.length:Nat):Int) - 4).toNat)).getD 1 0:Nat):Int) == (((crc (bs.take ((((bs.length:Nat):Int) - 4).toNat))) / 2 ^ 8 % 256:Nat):Int) && ((((bs.drop ((((bs.length:Nat):Int) - 4).toNat)).getD 2 0:Nat):Int) == (((crc (bs.take ((((bs.length:Nat):Int) - 4).toNat))) / 2 ^ 16 % 256:Nat):Int) && (((bs.drop ((((bs.length:Nat):Int) - 4).toNat)).getD 3 0:Nat):Int) == (((crc (bs.take ((((bs.length:Nat):Int) - 4).toNat))) / 2 ^ 24 % 256:Nat):Int)))) with hc12 | hc12
 refine c_cond_f (t:=false) (.tmp rfl (cVb (by rw [hc12]; rfl))) rfl ?_
 refine c_skip (n_then (c_seq (c_region (st (v:=.slice A bs.length c) (x_move (.tmp rfl rfl)) ?_))))
 refine st (v:=.int .i64 (((bs.length:Nat):Int) - 4)) (x_move (.tmp rfl rfl)) ?_
 have:=hp.le
 refine st (v:=.slice A ((((bs.length:Nat):Int) - 4).toNat) c) (bs_h Try.underlying33 inf5 (a:=(((bs.length:Nat):Int) - 4)) (.tmp rfl rfl) (.tmp rfl rfl) (by omega) (by omega)) ?_
 refine st_m (m_appNil Try.underlying33 inf5 hs11 .const (.tmp rfl rfl) (hp.take (k:=(((bs.length:Nat):Int) - 4).toNat) (by omega)) (by omega)) ?_
 rintro v13 w14 ⟨ok15,hs16⟩
 refine st (v:=v13) (x_assign (.tmp rfl rfl)) ?_
 refine st (v:=.int .i64 0) (x_assign .const) ?_
 refine c_nil (n_then (c_ret (leave_ret (res_two (v:=v13) (u:=.int .i64 0) rfl (.mk rfl rfl) (.mk rfl rfl)) ?_)))
 have e4:((bs.length:Int) - 4).toNat = bs.length - 4:=by omega
 rw [e4,four_eq (by omega)] at hc12
 rw [openL_good (by omega) (of_decide_eq_true hc12)]
 have hk:(bs.take (bs.length - 4)).length = bs.length - 4:=by simp
 rw [hk,← e4]
 exact ⟨_,rfl,ok15,hs16⟩
 refine c_cond_t (t:=true) (.tmp rfl (cVb (by rw [hc12]; rfl))) rfl ?_
 refine c_seq (c_region (st (v:=.slice none 0 0) (x_assign .const) ?_))
 refine st (v:=.int .i64 5) (x_assign .const) ?_
 refine c_nil (n_then (c_ret (r_then (leave_ret (res_two (v:=.slice none 0 0) (u:=.int .i64 5) rfl (.mk rfl rfl) (.mk rfl rfl)) ?_))))
 have e4:((bs.length:Int) - 4).toNat = bs.length - 4:=by omega
 rw [e4,four_eq (by omega)] at hc12
 rw [openL_bad (by omega) (of_decide_eq_false hc12)]
 exact ⟨_,rfl,RowOk.nil 1,(hs11).rowNil 5 1⟩
end Go.Proofs.Ytlfihfmmhhcigaa

set_option linter.unusedVariables false
set_option linter.unusedSimpArgs false
namespace Go.Proofs.Ytlfihfmmhhcigaa
open Go Go.FM Go.Proofs
attribute [local irreducible] wpList wpQuiet wpS Code.wp Calls
set_option maxHeartbeats 8000000 in
theorem uint_spec {H:Hp} {w:World} {L:List Res} {v:Value} {n:Nat} {l:List Nat} (hs:St H w (row 5 1 v n (l.map encB)::L)) (ok:RowOk 1 v n (l.map encB)) (hsm:Small l) (m:Nat) (hn:n ≤ 140737488355310) (b_m:m < 18446744073709551616):Calls Try.prog 56 #[v,.int .u64 ((m:Nat):Int)] w (fun e w' => ∃ v',e = .returned v'∧RowOk 1 v' (n + (uenc m).length) ((l ++ uenc m).map encB)∧St H w' (row 5 1 v' (n + (uenc m).length) ((l ++ uenc m).map encB)::L)):=by
 refine enter (args:=[v,.int .u64 ((m:Nat):Int)]) (N:=20) Try.func56 rfl rfl rfl ?_
 have h10:=uenc_len10 b_m
 refine c_seq (c_region (st (v:=.slice none 0 0) (x_assign .const) ?_))
 refine c_nil (n_then (c_seq (c_block (c_loop (fun ρ w mm => ∃ (r:Nat) (u:Value) (k:Nat) (q:List Nat),ρ 0 = u∧ρ 1 = .int .u64 ((r:Nat):Int)∧(r < 18446744073709551616)∧(l ++ uenc m = q ++ uenc r)∧(k + (uenc r).length = n + (uenc m).length)∧(Small q)∧(RowOk 1 u k (q.map encB))∧St H w (row 5 1 u k (q.map encB)::L)∧mm = r + 1) _ ⟨m,v,n,l,rfl,rfl,b_m,rfl,rfl,hsm,ok,hs,rfl⟩ ?_))))
 rintro ρ w mm ⟨r,u,k,q,hρ2,hρ3,hr,hm,hk,hq,ok2,hs4,rfl⟩
 refine c_seq (c_seq (c_region (st (v:=.int .u64 ((r:Nat):Int)) (x_move (.tmp rfl hρ3)) ?_)))
 refine st (v:=.bool (decide ((128:Int) ≤ ((r:Nat):Int)))) (x_geq (k:=.u64) (a:=((r:Nat):Int)) (b:=128) (.tmp rfl rfl) .const) ?_
 refine c_nil (n_then ?_)
 rcases Bool.eq_false_or_eq_true (decide ((128:Int) ≤ ((r:Nat):Int))) with hc5 | hc5
 have hp5:(128:Int) ≤ ((r:Nat):Int):=of_decide_eq_true hc5
 refine c_cond_t (t:=true) (.tmp rfl (cVb hc5)) rfl ?_
 refine c_skip (n_then (c_block (c_seq (c_region ?_))))
 have hb1:¬ r < 128:=by omega
 have hk1:(uenc r).length = (uenc (r / 2 ^ 7)).length + 1:=by rw [uenc_big hb1]; rfl
 have hb2:r / 2 ^ 7 < r:=by omega
 refine st (v:=u) (x_move (.tmp rfl hρ2)) ?_
 refine st (v:=.int .u64 ((r:Nat):Int)) (x_move (.tmp rfl hρ3)) ?_
 refine st (v:=.int .u8 (((r % 256):Nat):Int)) (x_conv (k:=.u64) (a:=((r:Nat):Int)) Try.underlying22 Try.underlying5 (.tmp rfl rfl) (wrapN _ rfl _)) ?_
 have hb6:((r % 256) ||| 128) < 256:=Nat.or_lt_two_pow (n:=8) (Nat.mod_lt _ (by decide)) (by decide)
 refine st (v:=.int .u8 ((((r % 256) ||| 128):Nat):Int)) (x_or (k:=.u8) (m:=(r % 256)) (n:=128) rfl (.tmp rfl rfl) .const (show _ < 2 ^ 8 from (Nat.mod_lt _ (by decide))) (show _ < 2 ^ 8 from (by decide))) ?_
 refine st_m (m_lit (n:=1) (ps:=[(0,.int .u8 ((((r % 256) ||| 128):Nat):Int))]) (cs:=[.int .u8 ((((r % 256) ||| 128):Nat):Int)]) Try.underlying33 inf5 (.cons (.tmp rfl rfl) Evp.nil) (by decide) (by decide) rfl rfl hs4) ?_
 rintro _ w8 ⟨g7,rfl,hs10⟩
 have hs11:=hs10.p1
 refine st_m (m_appAt (bs:=[((r % 256) ||| 128)]) Try.underlying33 inf5 hs11 ok2 (.tmp rfl rfl) (.tmp rfl rfl) rfl (hs11.at_ 1 rfl 0 rfl) (by omega)) ?_
 rintro v12 w13 ⟨ok14,hs15⟩
 refine st (v:=v12) (x_assign (.tmp rfl rfl)) ?_
 refine c_nil (n_then (c_region (st (v:=.int .u64 ((r:Nat):Int)) (x_move (.tmp rfl hρ3)) ?_)))
 have hb16:(r / 2 ^ 7) < 18446744073709551616:=Nat.lt_of_le_of_lt (Nat.div_le_self _ _) hr
 refine st (v:=.int .u64 (((r / 2 ^ 7):Nat):Int)) (x_shr (k:=.u64) (m:=r) (b:=7) rfl (.tmp rfl rfl) .const (by omega) (show _ < 2 ^ 64 from hr)) ?_
 refine st (v:=.int .u64 (((r / 2 ^ 7):Nat):Int)) (x_assign (.tmp rfl rfl)) ?_
 refine c_nil (n_block ?_)
 refine n_then ⟨_,_,rfl,?_,(r / 2 ^ 7),v12,(k + 1),(q ++ [((r % 256) ||| 128)]),rfl,rfl,hb16,(by rw [uenc_big hb1] at hm; rw [hm,or128]; simp),(by have:=hk1; omega),(hq.append (Small.cons hb6 Small.nil)),ok14,(hs15.p1).drop,rfl⟩
 exact Nat.succ_lt_succ hb2
 have hp5:¬ ((128:Int) ≤ ((r:Nat):Int)):=of_decide_eq_false hc5
 refine c_cond_f (t:=false) (.tmp rfl (cVb hc5)) rfl ?_
 refine c_exit (x_then (x_then (x_here (n_then (c_seq (c_region ?_))))))
 have hb1:r < 128:=by omega
 have hk1:(uenc r).length = 1:=by rw [uenc_one hb1]; rfl
 refine st (v:=u) (x_move (.tmp rfl hρ2)) ?_
 refine st (v:=.int .u64 ((r:Nat):Int)) (x_move (.tmp rfl hρ3)) ?_
 refine st (v:=.int .u8 (((r % 256):Nat):Int)) (x_conv (k:=.u64) (a:=((r:Nat):Int)) Try.underlying22 Try.underlying5 (.tmp rfl rfl) (wrapN _ rfl _)) ?_
 refine st_m (m_lit (n:=1) (ps:=[(0,.int .u8 (((r % 256):Nat):Int))]) (cs:=[.int .u8 (((r % 256):Nat):Int)]) Try.underlying33 inf5 (.cons (.tmp rfl rfl) Evp.nil) (by decide) (by decide) rfl rfl hs4) ?_
 rintro _ w18 ⟨g17,rfl,hs20⟩
 have hs21:=hs20.p1
 refine st_m (m_appAt (bs:=[(r % 256)]) Try.underlying33 inf5 hs21 ok2 (.tmp rfl rfl) (.tmp rfl rfl) rfl (hs21.at_ 1 rfl 0 rfl) (by omega)) ?_
 rintro v22 w23 ⟨ok24,hs25⟩
 refine st (v:=v22) (x_assign (.tmp rfl rfl)) ?_
 refine c_nil (n_then (c_ret (leave_ret (res_one (v:=v22) rfl (.mk rfl rfl)) ?_)))
 have hmod:r % 256 = r:=by omega
 have e1:l ++ uenc m = q ++ [r % 256]:=by rw [hm,uenc_one hb1,hmod]
 have e2:n + (uenc m).length = k + 1:=by omega
 rw [e1,e2]
 exact ⟨_,rfl,ok24,(hs25.p1).drop⟩
end Go.Proofs.Ytlfihfmmhhcigaa

set_option linter.unusedVariables false
set_option linter.unusedSimpArgs false
namespace Go.Proofs.Ytlfihfmmhhcigaa
open Go Go.FM Go.Proofs
attribute [local irreducible] wpList wpQuiet wpS Code.wp Calls
set_option maxHeartbeats 8000000 in
theorem newReader_spec {H:Hp} {w:World} {L:List Res} (hs:St H w L) {A:Option Addr} {n c:Nat}:Calls Try.prog 32 #[.slice A n c] w (fun e w' => ∃ g,e = .returned (.pointer (some ⟨g,0,none⟩))∧St H w' (obj g 98 [.slice A n c,.bool false]::L)):=by
 refine enter (args:=[.slice A n c]) (N:=6) Try.func32 rfl rfl rfl ?_
 refine c_seq (c_region (st (v:=.pointer none) (x_assign .const) ?_))
 refine c_nil (n_then (c_seq (c_region (st (v:=.slice A n c) (x_move (.tmp rfl rfl)) ?_))))
 refine st (v:=.agg #[.slice A n c,.bool false]) (bl98 (ps:=[(0,.slice A n c)]) (.cons (.tmp rfl rfl) Evp.nil) rfl) ?_
 refine st_m (m_box (cs:=[.slice A n c,.bool false]) hs (v:=.agg #[.slice A n c,.bool false]) (.tmp rfl rfl) rfl) ?_
 rintro _ w2 ⟨g1,rfl,hs4⟩
 refine st (v:=.pointer (some ⟨g1,0,none⟩)) (x_assign (.tmp rfl rfl)) ?_
 refine c_nil (n_then (c_ret (leave_ret (res_one (v:=.pointer (some ⟨g1,0,none⟩)) rfl (.mk rfl rfl)) ?_)))
 exact ⟨_,rfl,hs4⟩
set_option maxHeartbeats 8000000 in
theorem bad_own {H:Hp} {w:World} {L:List Res} {g:Nat} {A:Option Addr} {n c:Nat} {b:Bool} (hs:St H w (obj g 98 [.slice A n c,.bool b]::L)):Calls Try.prog 37 #[.pointer (some ⟨g,0,none⟩)] w (fun e w' => e = .returned (.bool b)∧St H w' (obj g 98 [.slice A n c,.bool b]::L)):=by
 refine enter (args:=[.pointer (some ⟨g,0,none⟩)]) (N:=11) Try.func37 rfl rfl rfl ?_
 refine c_seq (c_region (st (v:=.bool false) (x_assign .const) ?_))
 refine c_nil (n_then (c_seq (c_region (st (v:=.pointer (some ⟨g,0,none⟩)) (x_move (.tmp rfl rfl)) ?_))))
 refine st (v:=.bool false) (x_eqlP Try.underlying67 (.tmp rfl rfl) .const rfl) ?_
 refine st (v:=.bool false) (x_move (.tmp rfl rfl)) ?_
 refine g_yes (yl (dj:=5) (b:=false) rfl rfl rfl) ?_
 refine st (v:=.pointer (some ⟨g,0,none⟩)) (x_move (.tmp rfl rfl)) ?_
 refine g_yes (yl (dj:=5) (b:=false) rfl rfl rfl) ?_
 refine st (v:=.pointer (some ⟨g,0,none⟩)) (x_nilCheck (.tmp rfl rfl)) ?_
 refine g_yes (yl (dj:=5) (b:=false) rfl rfl rfl) ?_
 refine st (v:=.pointer (some ⟨g,0 + 1,none⟩)) (fa98_1 (.tmp rfl rfl)) ?_
 refine g_yes (yl (dj:=5) (b:=false) rfl rfl rfl) ?_
 refine st (v:=.bool b) (ld4 (.tmp rfl rfl) (hs.cell 0 rfl (0 + 1) rfl)) ?_
 refine st (v:=.bool b) (x_pick_f (.tmp rfl rfl) (.tmp rfl rfl)) ?_
 refine st (v:=.bool b) (x_assign (.tmp rfl rfl)) ?_
 refine c_nil (n_then (c_ret (leave_ret (res_one (v:=.bool b) rfl (.mk rfl rfl)) ?_)))
 exact ⟨rfl,hs⟩
set_option maxHeartbeats 8000000 in
theorem left_own {H:Hp} {w:World} {L:List Res} {g:Nat} {A:Option Addr} {n c:Nat} {b:Bool} (hs:St H w (obj g 98 [.slice A n c,.bool b]::L)):Calls Try.prog 40 #[.pointer (some ⟨g,0,none⟩)] w (fun e w' => e = .returned (.int .i64 (if b = true then 0 else ((n:Nat):Int)))∧St H w' (obj g 98 [.slice A n c,.bool b]::L)):=by
 refine enter (args:=[.pointer (some ⟨g,0,none⟩)]) (N:=16) Try.func40 rfl rfl rfl ?_
 refine c_seq (c_region (st (v:=.int .i64 0) (x_assign .const) ?_))
 refine c_nil (n_then (c_seq (c_seq (c_region (st (v:=.pointer (some ⟨g,0,none⟩)) (x_move (.tmp rfl rfl)) ?_)))))
 refine st (v:=.bool false) (x_eqlP Try.underlying67 (.tmp rfl rfl) .const rfl) ?_
 refine st (v:=.bool false) (x_move (.tmp rfl rfl)) ?_
 refine g_yes (yl (dj:=5) (b:=false) rfl rfl rfl) ?_
 refine st (v:=.pointer (some ⟨g,0,none⟩)) (x_move (.tmp rfl rfl)) ?_
 refine g_yes (yl (dj:=5) (b:=false) rfl rfl rfl) ?_
 refine st (v:=.pointer (some ⟨g,0,none⟩)) (x_nilCheck (.tmp rfl rfl)) ?_
 refine g_yes (yl (dj:=5) (b:=false) rfl rfl rfl) ?_
 refine st (v:=.pointer (some ⟨g,0 + 1,none⟩)) (fa98_1 (.tmp rfl rfl)) ?_
 refine g_yes (yl (dj:=5) (b:=false) rfl rfl rfl) ?_
 refine st (v:=.bool b) (ld4 (.tmp rfl rfl) (hs.cell 0 rfl (0 + 1) rfl)) ?_
 refine st (v:=.bool b) (x_pick_f (.tmp rfl rfl) (.tmp rfl rfl)) ?_
 refine c_nil (n_then ?_)
 rcases Bool.eq_false_or_eq_true b with hc1 | hc1
 refine c_cond_t (t:=true) (.tmp rfl (cVb hc1)) rfl ?_
 refine c_seq (c_region (st (v:=.int .i64 0) (x_assign .const) ?_))
 refine c_nil (n_then (c_ret (r_then (leave_ret (res_one (v:=.int .i64 0) rfl (.mk rfl rfl)) ?_))))
 exact ⟨by rw [hc1]; rfl,hs⟩
 refine c_cond_f (t:=false) (.tmp rfl (cVb hc1)) rfl ?_
 refine c_skip (n_then (c_seq (c_region (st (v:=.pointer (some ⟨g,0,none⟩)) (x_move (.tmp rfl rfl)) ?_))))
 refine st (v:=.pointer (some ⟨g,0,none⟩)) (x_nilCheck (.tmp rfl rfl)) ?_
 refine st (v:=.pointer (some ⟨g,0 + 0,none⟩)) (fa98_0 (.tmp rfl rfl)) ?_
 refine st (v:=.slice A n c) (ld33 (.tmp rfl rfl) (hs.cell 0 rfl (0 + 0) rfl)) ?_
 refine st (v:=.int .i64 ((n:Nat):Int)) (x_len (n:=n) Try.underlying33 (.tmp rfl rfl)) ?_
 refine st (v:=.int .i64 ((n:Nat):Int)) (x_assign (.tmp rfl rfl)) ?_
 refine c_nil (n_then (c_ret (leave_ret (res_one (v:=.int .i64 ((n:Nat):Int)) rfl (.mk rfl rfl)) ?_)))
 exact ⟨by rw [hc1]; rfl,hs⟩
set_option maxHeartbeats 8000000 in
theorem uint_true {H:Hp} {w:World} {L:List Res} {g:Nat} {A:Option Addr} {n c:Nat} {bs:List Nat} (hp:Bs H A n c bs) (hs:St H w (obj g 98 [.slice A n c,.bool true]::L)):Calls Try.prog 36 #[.pointer (some ⟨g,0,none⟩)] w (fun e w' => ∃ A' n' c',e = .returned (.int .u64 (((rdU bs true).1:Nat):Int))∧Bs H A' n' c' (rdU bs true).2.1∧St H w' (obj g 98 [.slice A' n' c',.bool (rdU bs true).2.2]::L)):=by
 refine enter (args:=[.pointer (some ⟨g,0,none⟩)]) (N:=68) Try.func36 rfl rfl rfl ?_
 refine c_seq (c_region (st (v:=.int .u64 0) (x_assign .const) ?_))
 refine c_nil (n_then (c_seq (c_seq (c_region (st (v:=.pointer (some ⟨g,0,none⟩)) (x_move (.tmp rfl rfl)) ?_)))))
 refine st (v:=.bool false) (x_eqlP Try.underlying67 (.tmp rfl rfl) .const rfl) ?_
 refine st (v:=.bool false) (x_move (.tmp rfl rfl)) ?_
 refine g_yes (yl (dj:=8) (b:=false) rfl rfl rfl) ?_
 refine st (v:=.pointer (some ⟨g,0,none⟩)) (x_move (.tmp rfl rfl)) ?_
 refine g_yes (yl (dj:=8) (b:=false) rfl rfl rfl) ?_
 refine st (v:=.pointer (some ⟨g,0,none⟩)) (x_nilCheck (.tmp rfl rfl)) ?_
 refine g_yes (yl (dj:=8) (b:=false) rfl rfl rfl) ?_
 refine st (v:=.pointer (some ⟨g,0 + 1,none⟩)) (fa98_1 (.tmp rfl rfl)) ?_
 refine g_yes (yl (dj:=8) (b:=false) rfl rfl rfl) ?_
 refine st (v:=.bool true) (ld4 (.tmp rfl rfl) (hs.cell 0 rfl (0 + 1) rfl)) ?_
 refine st (v:=.bool true) (x_pick_f (.tmp rfl rfl) (.tmp rfl rfl)) ?_
 refine c_nil (n_then (c_cond_t (t:=true) (.tmp rfl rfl) rfl ?_))
 refine c_seq (c_region (st (v:=.int .u64 0) (x_assign .const) ?_))
 refine c_nil (n_then (c_ret (r_then (leave_ret (res_one (v:=.int .u64 0) rfl (.mk rfl rfl)) ?_))))
 exact ⟨_,_,_,rfl,hp,hs⟩
set_option maxHeartbeats 8000000 in
theorem uint_false {H:Hp} {w:World} {L:List Res} {g:Nat} {A:Option Addr} {n c:Nat} {bs:List Nat} (hp:Bs H A n c bs) (hs:St H w (obj g 98 [.slice A n c,.bool false]::L)):Calls Try.prog 36 #[.pointer (some ⟨g,0,none⟩)] w (fun e w' => ∃ A' n' c',e = .returned (.int .u64 (((rdU bs false).1:Nat):Int))∧Bs H A' n' c' (rdU bs false).2.1∧St H w' (obj g 98 [.slice A' n' c',.bool (rdU bs false).2.2]::L)):=by
 refine enter (args:=[.pointer (some ⟨g,0,none⟩)]) (N:=68) Try.func36 rfl rfl rfl ?_
 have hle:=hp.le
 have hlen:=hp.len
 have hmx:c ≤ 9223372036854775807:=hp.max
 refine c_seq (c_region (st (v:=.int .u64 0) (x_assign .const) ?_))
 refine c_nil (n_then (c_seq (c_seq (c_region (st (v:=.pointer (some ⟨g,0,none⟩)) (x_move (.tmp rfl rfl)) ?_)))))
 refine st (v:=.bool false) (x_eqlP Try.underlying67 (.tmp rfl rfl) .const rfl) ?_
 refine st (v:=.bool false) (x_move (.tmp rfl rfl)) ?_
 refine g_yes (yl (dj:=8) (b:=false) rfl rfl rfl) ?_
 refine st (v:=.pointer (some ⟨g,0,none⟩)) (x_move (.tmp rfl rfl)) ?_
 refine g_yes (yl (dj:=8) (b:=false) rfl rfl rfl) ?_
 refine st (v:=.pointer (some ⟨g,0,none⟩)) (x_nilCheck (.tmp rfl rfl)) ?_
 refine g_yes (yl (dj:=8) (b:=false) rfl rfl rfl) ?_
 refine st (v:=.pointer (some ⟨g,0 + 1,none⟩)) (fa98_1 (.tmp rfl rfl)) ?_
 refine g_yes (yl (dj:=8) (b:=false) rfl rfl rfl) ?_
 refine st (v:=.bool false) (ld4 (.tmp rfl rfl) (hs.cell 0 rfl (0 + 1) rfl)) ?_
 refine st (v:=.bool false) (x_pick_f (.tmp rfl rfl) (.tmp rfl rfl)) ?_
 refine c_nil (n_then (c_cond_f (t:=false) (.tmp rfl rfl) rfl ?_))
 refine c_skip (n_then (c_seq (c_region (st (v:=.int .u64 0) (x_assign .const) ?_))))
 refine c_nil (n_then (c_seq (c_seq (c_region (st (v:=.pointer (some ⟨g,0,none⟩)) (x_move (.tmp rfl rfl)) ?_)))))
 refine st (v:=.pointer (some ⟨g,0,none⟩)) (x_nilCheck (.tmp rfl rfl)) ?_
 refine st (v:=.pointer (some ⟨g,0 + 0,none⟩)) (fa98_0 (.tmp rfl rfl)) ?_
 refine st (v:=.slice A n c) (ld33 (.tmp rfl rfl) (hs.cell 0 rfl (0 + 0) rfl)) ?_
 refine st (v:=.int .i64 ((n:Nat):Int)) (x_len (n:=n) Try.underlying33 (.tmp rfl rfl)) ?_
 refine st (v:=.int .i64 0) (x_move .const) ?_
 refine c_nil (n_then (c_block (c_loop (fun ρ w mm => ∃ (i:Nat) (a:Nat),ρ 0 = .pointer (some ⟨g,0,none⟩)∧ρ 3 = .int .u64 ((a:Nat):Int)∧ρ 18 = .int .i64 ((n:Nat):Int)∧ρ 19 = .int .i64 ((i:Nat):Int)∧(i ≤ n)∧(i ≤ 9)∧(a < 18446744073709551616)∧(uscan 0 0 bs = uscan i a (bs.drop i))∧St H w (obj g 98 [.slice A n c,.bool false]::L)∧mm = n - i) _ ⟨0,0,rfl,rfl,rfl,rfl,(by omega),(by omega),(by decide),rfl,hs,rfl⟩ ?_)))
 rintro ρ w mm ⟨i,a,hρ2,hρ3,hρ4,hρ5,hi,h9,ha,hu,hs6,rfl⟩
 refine c_seq (c_region (st (v:=.bool (decide ((((i:Nat):Int):Int) < ((n:Nat):Int)))) (x_lss (k:=.i64) (a:=((i:Nat):Int)) (b:=((n:Nat):Int)) (.tmp rfl hρ5) (.tmp rfl hρ4)) ?_))
 refine c_nil (n_then (c_seq ?_))
 rcases Bool.eq_false_or_eq_true (decide ((((i:Nat):Int):Int) < ((n:Nat):Int))) with hc7 | hc7
 have hp7:(((i:Nat):Int):Int) < ((n:Nat):Int):=of_decide_eq_true hc7
 refine c_cond_t (t:=true) (.tmp rfl (cVb hc7)) rfl ?_
 refine c_skip (n_then (c_seq (c_block (c_seq (c_region (st (v:=.int .i64 ((i:Nat):Int)) (x_move (.tmp rfl hρ5)) ?_))))))
 refine st (v:=.int .i64 ((i:Nat):Int)) (x_assign (.tmp rfl rfl)) ?_
 refine c_nil (n_then (c_seq (c_region (st (v:=.pointer (some ⟨g,0,none⟩)) (x_move (.tmp rfl hρ2)) ?_))))
 refine st (v:=.pointer (some ⟨g,0,none⟩)) (x_nilCheck (.tmp rfl rfl)) ?_
 refine st (v:=.pointer (some ⟨g,0 + 0,none⟩)) (fa98_0 (.tmp rfl rfl)) ?_
 refine st (v:=.slice A n c) (ld33 (.tmp rfl rfl) (hs6.cell 0 rfl (0 + 0) rfl)) ?_
 refine st (v:=.int .i64 ((i:Nat):Int)) (x_move (.tmp rfl rfl)) ?_
 obtain ⟨b8,o9,hA10,hc11⟩:=hp.get (i:=i) (by omega)
 refine st (v:=.pointer (some ⟨b8,(o9 + i * 1),none⟩)) (ixo33 (.tmp rfl rfl) hA10 (i:=((i:Nat):Int)) (.tmp rfl rfl) (by omega) (by omega) rfl) ?_
 refine st (v:=.int .u8 ((bs.getD i 0:Nat):Int)) (ld5 (.tmp rfl rfl) (hc11 hs6)) ?_
 refine st (v:=.int .u8 ((bs.getD i 0:Nat):Int)) (x_assign (.tmp rfl rfl)) ?_
 refine c_nil (n_then (c_seq (c_seq (c_region (st (v:=.int .i64 ((i:Nat):Int)) (x_move (.tmp rfl rfl)) ?_)))))
 refine st (v:=.bool (decide ((((i:Nat):Int):Int) = 9))) (x_eql (k:=.i64) (a:=((i:Nat):Int)) (b:=9) (.tmp rfl rfl) .const) ?_
 refine st (v:=.bool (decide ((((i:Nat):Int):Int) = 9))) (x_move (.tmp rfl rfl)) ?_
 rcases Bool.eq_false_or_eq_true (decide ((((i:Nat):Int):Int) = 9)) with hc12 | hc12
 have hp12:(((i:Nat):Int):Int) = 9:=of_decide_eq_true hc12
 refine g_yes (yk 31 true rfl rfl hc12) ?_
 refine st (v:=.int .u8 ((bs.getD i 0:Nat):Int)) (x_move (.tmp rfl rfl)) ?_
 refine g_yes (yk 31 true rfl rfl hc12) ?_
 refine st (v:=.bool (decide ((1:Int) < ((bs.getD i 0:Nat):Int)))) (x_gtr (k:=.u8) (a:=((bs.getD i 0:Nat):Int)) (b:=1) (.tmp rfl rfl) .const) ?_
 refine st (v:=.bool (decide ((1:Int) < ((bs.getD i 0:Nat):Int)))) (x_pick_t (.tmp rfl (cVb hc12)) (.tmp rfl rfl)) ?_
 refine st (v:=.bool (decide ((1:Int) < ((bs.getD i 0:Nat):Int)))) (x_move (.tmp rfl rfl)) ?_
 rcases Bool.eq_false_or_eq_true (decide ((1:Int) < ((bs.getD i 0:Nat):Int))) with hc13 | hc13
 have hp13:(1:Int) < ((bs.getD i 0:Nat):Int):=of_decide_eq_true hc13
 refine g_no (yk 35 true rfl rfl hc13) rfl ?_
 refine g_no (yk 35 true rfl rfl hc13) rfl ?_
 refine g_no (yk 35 true rfl rfl hc13) rfl ?_
 refine g_no0 (yn (dj:=38) rfl rfl) ?_
 refine g_no0 (yn (dj:=38) rfl rfl) ?_
 refine g_no (yk 35 true rfl rfl hc13) rfl ?_
 refine st (v:=.bool true) (x_pick_t (.tmp rfl (cVb hc13)) .const) ?_
 refine c_nil (n_then (c_cond_t (t:=true) (.tmp rfl rfl) rfl ?_))
 refine c_exit (x_then (x_block rfl (x_then (x_then (x_here (n_then (c_seq (c_region (st (v:=.pointer (some ⟨g,0,none⟩)) (x_move (.tmp rfl hρ2)) ?_)))))))))
 refine st (v:=.pointer (some ⟨g,0,none⟩)) (x_nilCheck (.tmp rfl rfl)) ?_
 refine st (v:=.pointer (some ⟨g,0 + 1,none⟩)) (fa98_1 (.tmp rfl rfl)) ?_
 refine st_m0 (sto4 (cs':=[.slice A n c,.bool true]) (i:=0 + 1) hs6 (v:=.bool true) (.tmp rfl rfl) .const rfl (Nat.le_of_ble_eq_true rfl) one1 rfl) ?_
 rintro w14 hs16
 refine c_nil (n_then (c_seq (c_region (st (v:=.int .u64 0) (x_assign .const) ?_))))
 refine c_nil (n_then (c_ret (leave_ret (res_one (v:=.int .u64 0) rfl (.mk rfl rfl)) ?_)))
 have hf:uscan 0 0 bs = none:=hu.trans (by first | (rw [uscan_get (by omega),if_pos (by omega)]) | (rw [List.drop_eq_nil_of_le (by omega)]; rfl))
 rw [rdU_none hf]
 exact ⟨_,_,_,rfl,hp,hs16⟩
 have hp13:¬ ((1:Int) < ((bs.getD i 0:Nat):Int)):=of_decide_eq_false hc13
 refine g_yes (yk 35 false rfl rfl hc13) ?_
 refine st (v:=.int .i64 ((i:Nat):Int)) (x_move (.tmp rfl rfl)) ?_
 refine g_yes (yk 35 false rfl rfl hc13) ?_
 refine st (v:=.bool (decide ((0:Int) < ((i:Nat):Int)))) (x_gtr (k:=.i64) (a:=((i:Nat):Int)) (b:=0) (.tmp rfl rfl) .const) ?_
 refine g_yes (yk 35 false rfl rfl hc13) ?_
 refine st (v:=.bool (decide ((0:Int) < ((i:Nat):Int)))) (x_move (.tmp rfl rfl)) ?_
 rcases Bool.eq_false_or_eq_true (decide ((0:Int) < ((i:Nat):Int))) with hc17 | hc17
 have hp17:(0:Int) < ((i:Nat):Int):=of_decide_eq_true hc17
 refine g_yes (yk 38 true rfl rfl hc17) ?_
 refine st (v:=.int .u8 ((bs.getD i 0:Nat):Int)) (x_move (.tmp rfl rfl)) ?_
 refine g_yes (yk 38 true rfl rfl hc17) ?_
 refine st (v:=.bool (decide ((((bs.getD i 0:Nat):Int):Int) = 0))) (x_eql (k:=.u8) (a:=((bs.getD i 0:Nat):Int)) (b:=0) (.tmp rfl rfl) .const) ?_
 refine g_yes (yk 35 false rfl rfl hc13) ?_
 refine st (v:=.bool (decide ((((bs.getD i 0:Nat):Int):Int) = 0))) (x_pick_t (.tmp rfl (cVb hc17)) (.tmp rfl rfl)) ?_
 refine st (v:=.bool (decide ((((bs.getD i 0:Nat):Int):Int) = 0))) (x_pick_f (.tmp rfl (cVb hc13)) (.tmp rfl rfl)) ?_
 refine c_nil (n_then ?_)
 rcases Bool.eq_false_or_eq_true (decide ((((bs.getD i 0:Nat):Int):Int) = 0)) with hc18 | hc18
 have hp18:(((bs.getD i 0:Nat):Int):Int) = 0:=of_decide_eq_true hc18
 refine c_cond_t (t:=true) (.tmp rfl (cVb hc18)) rfl ?_
 refine c_exit (x_then (x_block rfl (x_then (x_then (x_here (n_then (c_seq (c_region (st (v:=.pointer (some ⟨g,0,none⟩)) (x_move (.tmp rfl hρ2)) ?_)))))))))
 refine st (v:=.pointer (some ⟨g,0,none⟩)) (x_nilCheck (.tmp rfl rfl)) ?_
 refine st (v:=.pointer (some ⟨g,0 + 1,none⟩)) (fa98_1 (.tmp rfl rfl)) ?_
 refine st_m0 (sto4 (cs':=[.slice A n c,.bool true]) (i:=0 + 1) hs6 (v:=.bool true) (.tmp rfl rfl) .const rfl (Nat.le_of_ble_eq_true rfl) one1 rfl) ?_
 rintro w19 hs21
 refine c_nil (n_then (c_seq (c_region (st (v:=.int .u64 0) (x_assign .const) ?_))))
 refine c_nil (n_then (c_ret (leave_ret (res_one (v:=.int .u64 0) rfl (.mk rfl rfl)) ?_)))
 have hf:uscan 0 0 bs = none:=hu.trans (by first | (rw [uscan_get (by omega),if_pos (by omega)]) | (rw [List.drop_eq_nil_of_le (by omega)]; rfl))
 rw [rdU_none hf]
 exact ⟨_,_,_,rfl,hp,hs21⟩
 have hp18:¬ ((((bs.getD i 0:Nat):Int):Int) = 0):=of_decide_eq_false hc18
 refine c_cond_f (t:=false) (.tmp rfl (cVb hc18)) rfl ?_
 refine c_skip (n_then (c_seq (c_region (st (v:=.int .u64 ((a:Nat):Int)) (x_move (.tmp rfl hρ3)) ?_))))
 refine st (v:=.int .u8 ((bs.getD i 0:Nat):Int)) (x_move (.tmp rfl rfl)) ?_
 have hb22:((bs.getD i 0) &&& 127) < 256:=Nat.lt_of_le_of_lt Nat.and_le_left (hp.lt.getD _)
 refine st (v:=.int .u8 ((((bs.getD i 0) &&& 127):Nat):Int)) (x_and (k:=.u8) (m:=(bs.getD i 0)) (n:=127) rfl (.tmp rfl rfl) .const (show _ < 2 ^ 8 from (hp.lt.getD _)) (show _ < 2 ^ 8 from (by decide))) ?_
 have hb23:((bs.getD i 0) &&& 127) < 18446744073709551616:=Nat.lt_of_lt_of_le hb22 (by decide)
 refine st (v:=.int .u64 ((((bs.getD i 0) &&& 127):Nat):Int)) (x_conv (k:=.u8) (a:=((((bs.getD i 0) &&& 127):Nat):Int)) Try.underlying5 Try.underlying22 (.tmp rfl rfl) (wU rfl rfl hb23)) ?_
 refine st (v:=.int .i64 ((i:Nat):Int)) (x_move (.tmp rfl rfl)) ?_
 refine st (v:=.int .i64 (((7 * i):Nat):Int)) (x_mul (k:=.i64) (a:=7) (b:=((i:Nat):Int)) .const (.tmp rfl rfl) ((w64 (by omega) (by omega)).trans (by omega))) ?_
 have hb24:(((bs.getD i 0) &&& 127) * 2 ^ (7 * i) % 18446744073709551616) < 18446744073709551616:=Nat.mod_lt _ (by decide)
 refine st (v:=.int .u64 (((((bs.getD i 0) &&& 127) * 2 ^ (7 * i) % 18446744073709551616):Nat):Int)) (x_shl (k:=.u64) (m:=((bs.getD i 0) &&& 127)) (b:=(((7 * i):Nat):Int)) rfl (.tmp rfl rfl) (.tmp rfl rfl) (by omega)) ?_
 have hb25:(a ||| (((bs.getD i 0) &&& 127) * 2 ^ (7 * i) % 18446744073709551616)) < 18446744073709551616:=Nat.or_lt_two_pow (n:=64) ha hb24
 refine st (v:=.int .u64 (((a ||| (((bs.getD i 0) &&& 127) * 2 ^ (7 * i) % 18446744073709551616)):Nat):Int)) (x_or (k:=.u64) (m:=a) (n:=(((bs.getD i 0) &&& 127) * 2 ^ (7 * i) % 18446744073709551616)) rfl (.tmp rfl rfl) (.tmp rfl rfl) (show _ < 2 ^ 64 from ha) (show _ < 2 ^ 64 from hb24)) ?_
 refine st (v:=.int .u64 (((a ||| (((bs.getD i 0) &&& 127) * 2 ^ (7 * i) % 18446744073709551616)):Nat):Int)) (x_assign (.tmp rfl rfl)) ?_
 refine c_nil (n_then (c_seq (c_region (st (v:=.int .u8 ((bs.getD i 0:Nat):Int)) (x_move (.tmp rfl rfl)) ?_))))
 refine st (v:=.bool (decide ((((bs.getD i 0:Nat):Int):Int) < 128))) (x_lss (k:=.u8) (a:=((bs.getD i 0:Nat):Int)) (b:=128) (.tmp rfl rfl) .const) ?_
 refine c_nil (n_then ?_)
 rcases Bool.eq_false_or_eq_true (decide ((((bs.getD i 0:Nat):Int):Int) < 128)) with hc26 | hc26
 have hp26:(((bs.getD i 0:Nat):Int):Int) < 128:=of_decide_eq_true hc26
 refine c_cond_t (t:=true) (.tmp rfl (cVb hc26)) rfl ?_
 refine c_seq (c_region (st (v:=.pointer (some ⟨g,0,none⟩)) (x_move (.tmp rfl hρ2)) ?_))
 refine st (v:=.pointer (some ⟨g,0,none⟩)) (x_move (.tmp rfl hρ2)) ?_
 refine st (v:=.pointer (some ⟨g,0,none⟩)) (x_nilCheck (.tmp rfl rfl)) ?_
 refine st (v:=.pointer (some ⟨g,0 + 0,none⟩)) (fa98_0 (.tmp rfl rfl)) ?_
 refine st (v:=.slice A n c) (ld33 (.tmp rfl rfl) (hs6.cell 0 rfl (0 + 0) rfl)) ?_
 refine st (v:=.int .i64 ((i:Nat):Int)) (x_move (.tmp rfl rfl)) ?_
 refine st (v:=.int .i64 (((i + 1):Nat):Int)) (x_add (k:=.i64) (a:=((i:Nat):Int)) (b:=1) (.tmp rfl rfl) .const ((w64 (by omega) (by omega)).trans (by omega))) ?_
 have:=hp.le
 refine st (v:=.slice (cutA A c (i + 1) 1) (n - (i + 1)) (c - (i + 1))) (bs_l Try.underlying33 inf5 (a:=(((i + 1):Nat):Int)) (.tmp rfl rfl) (.tmp rfl rfl) (by omega) (by omega) (by omega)) ?_
 refine st (v:=.pointer (some ⟨g,0,none⟩)) (x_nilCheck (.tmp rfl rfl)) ?_
 refine st (v:=.pointer (some ⟨g,0 + 0,none⟩)) (fa98_0 (.tmp rfl rfl)) ?_
 refine st_m0 (sto33 (cs':=[.slice (cutA A c (i + 1) 1) (n - (i + 1)) (c - (i + 1)),.bool false]) (i:=0 + 0) hs6 (v:=.slice (cutA A c (i + 1) 1) (n - (i + 1)) (c - (i + 1))) (.tmp rfl rfl) (.tmp rfl rfl) rfl (Nat.le_of_ble_eq_true rfl) one1 rfl) ?_
 rintro w27 hs29
 refine c_nil (n_then (c_seq (c_region (st (v:=.int .u64 (((a ||| (((bs.getD i 0) &&& 127) * 2 ^ (7 * i) % 18446744073709551616)):Nat):Int)) (x_move (.tmp rfl rfl)) ?_))))
 refine st (v:=.int .u64 (((a ||| (((bs.getD i 0) &&& 127) * 2 ^ (7 * i) % 18446744073709551616)):Nat):Int)) (x_assign (.tmp rfl rfl)) ?_
 refine c_nil (n_then (c_ret (r_block (r_then (r_then (r_block (r_then (leave_ret (res_one (v:=.int .u64 (((a ||| (((bs.getD i 0) &&& 127) * 2 ^ (7 * i) % 18446744073709551616)):Nat):Int)) rfl (.mk rfl rfl)) ?_))))))))
 have hf:uscan 0 0 bs = some ((a ||| (((bs.getD i 0) &&& 127) * 2 ^ (7 * i) % 18446744073709551616)),bs.drop (i + 1)):=hu.trans (by rw [uscan_get (by omega),if_neg (by omega),if_pos (by omega)])
 rw [rdU_some hf]
 exact ⟨_,_,_,rfl,(hp.drop (k:=(i + 1)) (by omega)),hs29⟩
 have hp26:¬ ((((bs.getD i 0:Nat):Int):Int) < 128):=of_decide_eq_false hc26
 refine c_cond_f (t:=false) (.tmp rfl (cVb hc26)) rfl ?_
 refine c_skip (n_block (n_then (c_region (st (v:=.int .i64 (((i:Nat):Int) + 1)) (x_add (k:=.i64) (a:=((i:Nat):Int)) (b:=1) (.tmp rfl hρ5) .const (w64 (by omega) (by omega))) ?_))))
 refine st (v:=.int .i64 (((i:Nat):Int) + 1)) (x_move (.tmp rfl rfl)) ?_
 refine c_nil ?_
 refine n_then ⟨_,_,rfl,?_,(i + 1),(a ||| (((bs.getD i 0) &&& 127) * 2 ^ (7 * i) % 18446744073709551616)),hρ2,rfl,hρ4,rfl,(by omega),(by omega),hb25,(hu.trans (by rw [uscan_get (by omega),if_neg (by omega),if_neg (by omega)])),hs6,rfl⟩
 omega
 have hp17:¬ ((0:Int) < ((i:Nat):Int)):=of_decide_eq_false hc17
 refine g_no (yk 38 false rfl rfl hc17) rfl ?_
 refine g_no (yk 38 false rfl rfl hc17) rfl ?_
 refine g_yes (yk 35 false rfl rfl hc13) ?_
 refine st (v:=.bool false) (x_pick_f (.tmp rfl (cVb hc17)) .const) ?_
 refine st (v:=.bool false) (x_pick_f (.tmp rfl (cVb hc13)) (.tmp rfl rfl)) ?_
 refine c_nil (n_then (c_cond_f (t:=false) (.tmp rfl rfl) rfl ?_))
 refine c_skip (n_then (c_seq (c_region (st (v:=.int .u64 ((a:Nat):Int)) (x_move (.tmp rfl hρ3)) ?_))))
 refine st (v:=.int .u8 ((bs.getD i 0:Nat):Int)) (x_move (.tmp rfl rfl)) ?_
 have hb30:((bs.getD i 0) &&& 127) < 256:=Nat.lt_of_le_of_lt Nat.and_le_left (hp.lt.getD _)
 refine st (v:=.int .u8 ((((bs.getD i 0) &&& 127):Nat):Int)) (x_and (k:=.u8) (m:=(bs.getD i 0)) (n:=127) rfl (.tmp rfl rfl) .const (show _ < 2 ^ 8 from (hp.lt.getD _)) (show _ < 2 ^ 8 from (by decide))) ?_
 have hb31:((bs.getD i 0) &&& 127) < 18446744073709551616:=Nat.lt_of_lt_of_le hb30 (by decide)
 refine st (v:=.int .u64 ((((bs.getD i 0) &&& 127):Nat):Int)) (x_conv (k:=.u8) (a:=((((bs.getD i 0) &&& 127):Nat):Int)) Try.underlying5 Try.underlying22 (.tmp rfl rfl) (wU rfl rfl hb31)) ?_
 refine st (v:=.int .i64 ((i:Nat):Int)) (x_move (.tmp rfl rfl)) ?_
 refine st (v:=.int .i64 (((7 * i):Nat):Int)) (x_mul (k:=.i64) (a:=7) (b:=((i:Nat):Int)) .const (.tmp rfl rfl) ((w64 (by omega) (by omega)).trans (by omega))) ?_
 have hb32:(((bs.getD i 0) &&& 127) * 2 ^ (7 * i) % 18446744073709551616) < 18446744073709551616:=Nat.mod_lt _ (by decide)
 refine st (v:=.int .u64 (((((bs.getD i 0) &&& 127) * 2 ^ (7 * i) % 18446744073709551616):Nat):Int)) (x_shl (k:=.u64) (m:=((bs.getD i 0) &&& 127)) (b:=(((7 * i):Nat):Int)) rfl (.tmp rfl rfl) (.tmp rfl rfl) (by omega)) ?_
 have hb33:(a ||| (((bs.getD i 0) &&& 127) * 2 ^ (7 * i) % 18446744073709551616)) < 18446744073709551616:=Nat.or_lt_two_pow (n:=64) ha hb32
 refine st (v:=.int .u64 (((a ||| (((bs.getD i 0) &&& 127) * 2 ^ (7 * i) % 18446744073709551616)):Nat):Int)) (x_or (k:=.u64) (m:=a) (n:=(((bs.getD i 0) &&& 127) * 2 ^ (7 * i) % 18446744073709551616)) rfl (.tmp rfl rfl) (.tmp rfl rfl) (show _ < 2 ^ 64 from ha) (show _ < 2 ^ 64 from hb32)) ?_
 refine st (v:=.int .u64 (((a ||| (((bs.getD i 0) &&& 127) * 2 ^ (7 * i) % 18446744073709551616)):Nat):Int)) (x_assign (.tmp rfl rfl)) ?_
 refine c_nil (n_then (c_seq (c_region (st (v:=.int .u8 ((bs.getD i 0:Nat):Int)) (x_move (.tmp rfl rfl)) ?_))))
 refine st (v:=.bool (decide ((((bs.getD i 0:Nat):Int):Int) < 128))) (x_lss (k:=.u8) (a:=((bs.getD i 0:Nat):Int)) (b:=128) (.tmp rfl rfl) .const) ?_
 refine c_nil (n_then ?_)
 rcases Bool.eq_false_or_eq_true (decide ((((bs.getD i 0:Nat):Int):Int) < 128)) with hc34 | hc34
 have hp34:(((bs.getD i 0:Nat):Int):Int) < 128:=of_decide_eq_true hc34
 refine c_cond_t (t:=true) (.tmp rfl (cVb hc34)) rfl ?_
 refine c_seq (c_region (st (v:=.pointer (some ⟨g,0,none⟩)) (x_move (.tmp rfl hρ2)) ?_))
 refine st (v:=.pointer (some ⟨g,0,none⟩)) (x_move (.tmp rfl hρ2)) ?_
 refine st (v:=.pointer (some ⟨g,0,none⟩)) (x_nilCheck (.tmp rfl rfl)) ?_
 refine st (v:=.pointer (some ⟨g,0 + 0,none⟩)) (fa98_0 (.tmp rfl rfl)) ?_
 refine st (v:=.slice A n c) (ld33 (.tmp rfl rfl) (hs6.cell 0 rfl (0 + 0) rfl)) ?_
 refine st (v:=.int .i64 ((i:Nat):Int)) (x_move (.tmp rfl rfl)) ?_
 refine st (v:=.int .i64 (((i + 1):Nat):Int)) (x_add (k:=.i64) (a:=((i:Nat):Int)) (b:=1) (.tmp rfl rfl) .const ((w64 (by omega) (by omega)).trans (by omega))) ?_
 have:=hp.le
 refine st (v:=.slice (cutA A c (i + 1) 1) (n - (i + 1)) (c - (i + 1))) (bs_l Try.underlying33 inf5 (a:=(((i + 1):Nat):Int)) (.tmp rfl rfl) (.tmp rfl rfl) (by omega) (by omega) (by omega)) ?_
 refine st (v:=.pointer (some ⟨g,0,none⟩)) (x_nilCheck (.tmp rfl rfl)) ?_
 refine st (v:=.pointer (some ⟨g,0 + 0,none⟩)) (fa98_0 (.tmp rfl rfl)) ?_
 refine st_m0 (sto33 (cs':=[.slice (cutA A c (i + 1) 1) (n - (i + 1)) (c - (i + 1)),.bool false]) (i:=0 + 0) hs6 (v:=.slice (cutA A c (i + 1) 1) (n - (i + 1)) (c - (i + 1))) (.tmp rfl rfl) (.tmp rfl rfl) rfl (Nat.le_of_ble_eq_true rfl) one1 rfl) ?_
 rintro w35 hs37
 refine c_nil (n_then (c_seq (c_region (st (v:=.int .u64 (((a ||| (((bs.getD i 0) &&& 127) * 2 ^ (7 * i) % 18446744073709551616)):Nat):Int)) (x_move (.tmp rfl rfl)) ?_))))
 refine st (v:=.int .u64 (((a ||| (((bs.getD i 0) &&& 127) * 2 ^ (7 * i) % 18446744073709551616)):Nat):Int)) (x_assign (.tmp rfl rfl)) ?_
 refine c_nil (n_then (c_ret (r_block (r_then (r_then (r_block (r_then (leave_ret (res_one (v:=.int .u64 (((a ||| (((bs.getD i 0) &&& 127) * 2 ^ (7 * i) % 18446744073709551616)):Nat):Int)) rfl (.mk rfl rfl)) ?_))))))))
 have hf:uscan 0 0 bs = some ((a ||| (((bs.getD i 0) &&& 127) * 2 ^ (7 * i) % 18446744073709551616)),bs.drop (i + 1)):=hu.trans (by rw [uscan_get (by omega),if_neg (by omega),if_pos (by omega)])
 rw [rdU_some hf]
 exact ⟨_,_,_,rfl,(hp.drop (k:=(i + 1)) (by omega)),hs37⟩
 have hp34:¬ ((((bs.getD i 0:Nat):Int):Int) < 128):=of_decide_eq_false hc34
 refine c_cond_f (t:=false) (.tmp rfl (cVb hc34)) rfl ?_
 refine c_skip (n_block (n_then (c_region (st (v:=.int .i64 (((i:Nat):Int) + 1)) (x_add (k:=.i64) (a:=((i:Nat):Int)) (b:=1) (.tmp rfl hρ5) .const (w64 (by omega) (by omega))) ?_))))
 refine st (v:=.int .i64 (((i:Nat):Int) + 1)) (x_move (.tmp rfl rfl)) ?_
 refine c_nil ?_
 refine n_then ⟨_,_,rfl,?_,(i + 1),(a ||| (((bs.getD i 0) &&& 127) * 2 ^ (7 * i) % 18446744073709551616)),hρ2,rfl,hρ4,rfl,(by omega),(by omega),hb33,(hu.trans (by rw [uscan_get (by omega),if_neg (by omega),if_neg (by omega)])),hs6,rfl⟩
 omega
 have hp12:¬ ((((i:Nat):Int):Int) = 9):=of_decide_eq_false hc12
 refine g_no (yk 31 false rfl rfl hc12) rfl ?_
 refine g_no (yk 31 false rfl rfl hc12) rfl ?_
 refine st (v:=.bool false) (x_pick_f (.tmp rfl (cVb hc12)) .const) ?_
 refine st (v:=.bool false) (x_move (.tmp rfl rfl)) ?_
 refine g_yes (yl (dj:=35) (b:=false) rfl rfl rfl) ?_
 refine st (v:=.int .i64 ((i:Nat):Int)) (x_move (.tmp rfl rfl)) ?_
 refine g_yes (yl (dj:=35) (b:=false) rfl rfl rfl) ?_
 refine st (v:=.bool (decide ((0:Int) < ((i:Nat):Int)))) (x_gtr (k:=.i64) (a:=((i:Nat):Int)) (b:=0) (.tmp rfl rfl) .const) ?_
 refine g_yes (yl (dj:=35) (b:=false) rfl rfl rfl) ?_
 refine st (v:=.bool (decide ((0:Int) < ((i:Nat):Int)))) (x_move (.tmp rfl rfl)) ?_
 rcases Bool.eq_false_or_eq_true (decide ((0:Int) < ((i:Nat):Int))) with hc38 | hc38
 have hp38:(0:Int) < ((i:Nat):Int):=of_decide_eq_true hc38
 refine g_yes (yk 38 true rfl rfl hc38) ?_
 refine st (v:=.int .u8 ((bs.getD i 0:Nat):Int)) (x_move (.tmp rfl rfl)) ?_
 refine g_yes (yk 38 true rfl rfl hc38) ?_
 refine st (v:=.bool (decide ((((bs.getD i 0:Nat):Int):Int) = 0))) (x_eql (k:=.u8) (a:=((bs.getD i 0:Nat):Int)) (b:=0) (.tmp rfl rfl) .const) ?_
 refine g_yes (yl (dj:=35) (b:=false) rfl rfl rfl) ?_
 refine st (v:=.bool (decide ((((bs.getD i 0:Nat):Int):Int) = 0))) (x_pick_t (.tmp rfl (cVb hc38)) (.tmp rfl rfl)) ?_
 refine st (v:=.bool (decide ((((bs.getD i 0:Nat):Int):Int) = 0))) (x_pick_f (.tmp rfl rfl) (.tmp rfl rfl)) ?_
 refine c_nil (n_then ?_)
 rcases Bool.eq_false_or_eq_true (decide ((((bs.getD i 0:Nat):Int):Int) = 0)) with hc39 | hc39
 have hp39:(((bs.getD i 0:Nat):Int):Int) = 0:=of_decide_eq_true hc39
 refine c_cond_t (t:=true) (.tmp rfl (cVb hc39)) rfl ?_
 refine c_exit (x_then (x_block rfl (x_then (x_then (x_here (n_then (c_seq (c_region (st (v:=.pointer (some ⟨g,0,none⟩)) (x_move (.tmp rfl hρ2)) ?_)))))))))
 refine st (v:=.pointer (some ⟨g,0,none⟩)) (x_nilCheck (.tmp rfl rfl)) ?_
 refine st (v:=.pointer (some ⟨g,0 + 1,none⟩)) (fa98_1 (.tmp rfl rfl)) ?_
 refine st_m0 (sto4 (cs':=[.slice A n c,.bool true]) (i:=0 + 1) hs6 (v:=.bool true) (.tmp rfl rfl) .const rfl (Nat.le_of_ble_eq_true rfl) one1 rfl) ?_
 rintro w40 hs42
 refine c_nil (n_then (c_seq (c_region (st (v:=.int .u64 0) (x_assign .const) ?_))))
 refine c_nil (n_then (c_ret (leave_ret (res_one (v:=.int .u64 0) rfl (.mk rfl rfl)) ?_)))
 have hf:uscan 0 0 bs = none:=hu.trans (by first | (rw [uscan_get (by omega),if_pos (by omega)]) | (rw [List.drop_eq_nil_of_le (by omega)]; rfl))
 rw [rdU_none hf]
 exact ⟨_,_,_,rfl,hp,hs42⟩
 have hp39:¬ ((((bs.getD i 0:Nat):Int):Int) = 0):=of_decide_eq_false hc39
 refine c_cond_f (t:=false) (.tmp rfl (cVb hc39)) rfl ?_
 refine c_skip (n_then (c_seq (c_region (st (v:=.int .u64 ((a:Nat):Int)) (x_move (.tmp rfl hρ3)) ?_))))
 refine st (v:=.int .u8 ((bs.getD i 0:Nat):Int)) (x_move (.tmp rfl rfl)) ?_
 have hb43:((bs.getD i 0) &&& 127) < 256:=Nat.lt_of_le_of_lt Nat.and_le_left (hp.lt.getD _)
 refine st (v:=.int .u8 ((((bs.getD i 0) &&& 127):Nat):Int)) (x_and (k:=.u8) (m:=(bs.getD i 0)) (n:=127) rfl (.tmp rfl rfl) .const (show _ < 2 ^ 8 from (hp.lt.getD _)) (show _ < 2 ^ 8 from (by decide))) ?_
 have hb44:((bs.getD i 0) &&& 127) < 18446744073709551616:=Nat.lt_of_lt_of_le hb43 (by decide)
 refine st (v:=.int .u64 ((((bs.getD i 0) &&& 127):Nat):Int)) (x_conv (k:=.u8) (a:=((((bs.getD i 0) &&& 127):Nat):Int)) Try.underlying5 Try.underlying22 (.tmp rfl rfl) (wU rfl rfl hb44)) ?_
 refine st (v:=.int .i64 ((i:Nat):Int)) (x_move (.tmp rfl rfl)) ?_
 refine st (v:=.int .i64 (((7 * i):Nat):Int)) (x_mul (k:=.i64) (a:=7) (b:=((i:Nat):Int)) .const (.tmp rfl rfl) ((w64 (by omega) (by omega)).trans (by omega))) ?_
 have hb45:(((bs.getD i 0) &&& 127) * 2 ^ (7 * i) % 18446744073709551616) < 18446744073709551616:=Nat.mod_lt _ (by decide)
 refine st (v:=.int .u64 (((((bs.getD i 0) &&& 127) * 2 ^ (7 * i) % 18446744073709551616):Nat):Int)) (x_shl (k:=.u64) (m:=((bs.getD i 0) &&& 127)) (b:=(((7 * i):Nat):Int)) rfl (.tmp rfl rfl) (.tmp rfl rfl) (by omega)) ?_
 have hb46:(a ||| (((bs.getD i 0) &&& 127) * 2 ^ (7 * i) % 18446744073709551616)) < 18446744073709551616:=Nat.or_lt_two_pow (n:=64) ha hb45
 refine st (v:=.int .u64 (((a ||| (((bs.getD i 0) &&& 127) * 2 ^ (7 * i) % 18446744073709551616)):Nat):Int)) (x_or (k:=.u64) (m:=a) (n:=(((bs.getD i 0) &&& 127) * 2 ^ (7 * i) % 18446744073709551616)) rfl (.tmp rfl rfl) (.tmp rfl rfl) (show _ < 2 ^ 64 from ha) (show _ < 2 ^ 64 from hb45)) ?_
 refine st (v:=.int .u64 (((a ||| (((bs.getD i 0) &&& 127) * 2 ^ (7 * i) % 18446744073709551616)):Nat):Int)) (x_assign (.tmp rfl rfl)) ?_
 refine c_nil (n_then (c_seq (c_region (st (v:=.int .u8 ((bs.getD i 0:Nat):Int)) (x_move (.tmp rfl rfl)) ?_))))
 refine st (v:=.bool (decide ((((bs.getD i 0:Nat):Int):Int) < 128))) (x_lss (k:=.u8) (a:=((bs.getD i 0:Nat):Int)) (b:=128) (.tmp rfl rfl) .const) ?_
 refine c_nil (n_then ?_)
 rcases Bool.eq_false_or_eq_true (decide ((((bs.getD i 0:Nat):Int):Int) < 128)) with hc47 | hc47
 have hp47:(((bs.getD i 0:Nat):Int):Int) < 128:=of_decide_eq_true hc47
 refine c_cond_t (t:=true) (.tmp rfl (cVb hc47)) rfl ?_
 refine c_seq (c_region (st (v:=.pointer (some ⟨g,0,none⟩)) (x_move (.tmp rfl hρ2)) ?_))
 refine st (v:=.pointer (some ⟨g,0,none⟩)) (x_move (.tmp rfl hρ2)) ?_
 refine st (v:=.pointer (some ⟨g,0,none⟩)) (x_nilCheck (.tmp rfl rfl)) ?_
 refine st (v:=.pointer (some ⟨g,0 + 0,none⟩)) (fa98_0 (.tmp rfl rfl)) ?_
 refine st (v:=.slice A n c) (ld33 (.tmp rfl rfl) (hs6.cell 0 rfl (0 + 0) rfl)) ?_
 refine st (v:=.int .i64 ((i:Nat):Int)) (x_move (.tmp rfl rfl)) ?_
 refine st (v:=.int .i64 (((i + 1):Nat):Int)) (x_add (k:=.i64) (a:=((i:Nat):Int)) (b:=1) (.tmp rfl rfl) .const ((w64 (by omega) (by omega)).trans (by omega))) ?_
 have:=hp.le
 refine st (v:=.slice (cutA A c (i + 1) 1) (n - (i + 1)) (c - (i + 1))) (bs_l Try.underlying33 inf5 (a:=(((i + 1):Nat):Int)) (.tmp rfl rfl) (.tmp rfl rfl) (by omega) (by omega) (by omega)) ?_
 refine st (v:=.pointer (some ⟨g,0,none⟩)) (x_nilCheck (.tmp rfl rfl)) ?_
 refine st (v:=.pointer (some ⟨g,0 + 0,none⟩)) (fa98_0 (.tmp rfl rfl)) ?_
 refine st_m0 (sto33 (cs':=[.slice (cutA A c (i + 1) 1) (n - (i + 1)) (c - (i + 1)),.bool false]) (i:=0 + 0) hs6 (v:=.slice (cutA A c (i + 1) 1) (n - (i + 1)) (c - (i + 1))) (.tmp rfl rfl) (.tmp rfl rfl) rfl (Nat.le_of_ble_eq_true rfl) one1 rfl) ?_
 rintro w48 hs50
 refine c_nil (n_then (c_seq (c_region (st (v:=.int .u64 (((a ||| (((bs.getD i 0) &&& 127) * 2 ^ (7 * i) % 18446744073709551616)):Nat):Int)) (x_move (.tmp rfl rfl)) ?_))))
 refine st (v:=.int .u64 (((a ||| (((bs.getD i 0) &&& 127) * 2 ^ (7 * i) % 18446744073709551616)):Nat):Int)) (x_assign (.tmp rfl rfl)) ?_
 refine c_nil (n_then (c_ret (r_block (r_then (r_then (r_block (r_then (leave_ret (res_one (v:=.int .u64 (((a ||| (((bs.getD i 0) &&& 127) * 2 ^ (7 * i) % 18446744073709551616)):Nat):Int)) rfl (.mk rfl rfl)) ?_))))))))
 have hf:uscan 0 0 bs = some ((a ||| (((bs.getD i 0) &&& 127) * 2 ^ (7 * i) % 18446744073709551616)),bs.drop (i + 1)):=hu.trans (by rw [uscan_get (by omega),if_neg (by omega),if_pos (by omega)])
 rw [rdU_some hf]
 exact ⟨_,_,_,rfl,(hp.drop (k:=(i + 1)) (by omega)),hs50⟩
 have hp47:¬ ((((bs.getD i 0:Nat):Int):Int) < 128):=of_decide_eq_false hc47
 refine c_cond_f (t:=false) (.tmp rfl (cVb hc47)) rfl ?_
 refine c_skip (n_block (n_then (c_region (st (v:=.int .i64 (((i:Nat):Int) + 1)) (x_add (k:=.i64) (a:=((i:Nat):Int)) (b:=1) (.tmp rfl hρ5) .const (w64 (by omega) (by omega))) ?_))))
 refine st (v:=.int .i64 (((i:Nat):Int) + 1)) (x_move (.tmp rfl rfl)) ?_
 refine c_nil ?_
 refine n_then ⟨_,_,rfl,?_,(i + 1),(a ||| (((bs.getD i 0) &&& 127) * 2 ^ (7 * i) % 18446744073709551616)),hρ2,rfl,hρ4,rfl,(by omega),(by omega),hb46,(hu.trans (by rw [uscan_get (by omega),if_neg (by omega),if_neg (by omega)])),hs6,rfl⟩
 omega
 have hp38:¬ ((0:Int) < ((i:Nat):Int)):=of_decide_eq_false hc38
 refine g_no (yk 38 false rfl rfl hc38) rfl ?_
 refine g_no (yk 38 false rfl rfl hc38) rfl ?_
 refine g_yes (yl (dj:=35) (b:=false) rfl rfl rfl) ?_
 refine st (v:=.bool false) (x_pick_f (.tmp rfl (cVb hc38)) .const) ?_
 refine st (v:=.bool false) (x_pick_f (.tmp rfl rfl) (.tmp rfl rfl)) ?_
 refine c_nil (n_then (c_cond_f (t:=false) (.tmp rfl rfl) rfl ?_))
 refine c_skip (n_then (c_seq (c_region (st (v:=.int .u64 ((a:Nat):Int)) (x_move (.tmp rfl hρ3)) ?_))))
 refine st (v:=.int .u8 ((bs.getD i 0:Nat):Int)) (x_move (.tmp rfl rfl)) ?_
 have hb51:((bs.getD i 0) &&& 127) < 256:=Nat.lt_of_le_of_lt Nat.and_le_left (hp.lt.getD _)
 refine st (v:=.int .u8 ((((bs.getD i 0) &&& 127):Nat):Int)) (x_and (k:=.u8) (m:=(bs.getD i 0)) (n:=127) rfl (.tmp rfl rfl) .const (show _ < 2 ^ 8 from (hp.lt.getD _)) (show _ < 2 ^ 8 from (by decide))) ?_
 have hb52:((bs.getD i 0) &&& 127) < 18446744073709551616:=Nat.lt_of_lt_of_le hb51 (by decide)
 refine st (v:=.int .u64 ((((bs.getD i 0) &&& 127):Nat):Int)) (x_conv (k:=.u8) (a:=((((bs.getD i 0) &&& 127):Nat):Int)) Try.underlying5 Try.underlying22 (.tmp rfl rfl) (wU rfl rfl hb52)) ?_
 refine st (v:=.int .i64 ((i:Nat):Int)) (x_move (.tmp rfl rfl)) ?_
 refine st (v:=.int .i64 (((7 * i):Nat):Int)) (x_mul (k:=.i64) (a:=7) (b:=((i:Nat):Int)) .const (.tmp rfl rfl) ((w64 (by omega) (by omega)).trans (by omega))) ?_
 have hb53:(((bs.getD i 0) &&& 127) * 2 ^ (7 * i) % 18446744073709551616) < 18446744073709551616:=Nat.mod_lt _ (by decide)
 refine st (v:=.int .u64 (((((bs.getD i 0) &&& 127) * 2 ^ (7 * i) % 18446744073709551616):Nat):Int)) (x_shl (k:=.u64) (m:=((bs.getD i 0) &&& 127)) (b:=(((7 * i):Nat):Int)) rfl (.tmp rfl rfl) (.tmp rfl rfl) (by omega)) ?_
 have hb54:(a ||| (((bs.getD i 0) &&& 127) * 2 ^ (7 * i) % 18446744073709551616)) < 18446744073709551616:=Nat.or_lt_two_pow (n:=64) ha hb53
 refine st (v:=.int .u64 (((a ||| (((bs.getD i 0) &&& 127) * 2 ^ (7 * i) % 18446744073709551616)):Nat):Int)) (x_or (k:=.u64) (m:=a) (n:=(((bs.getD i 0) &&& 127) * 2 ^ (7 * i) % 18446744073709551616)) rfl (.tmp rfl rfl) (.tmp rfl rfl) (show _ < 2 ^ 64 from ha) (show _ < 2 ^ 64 from hb53)) ?_
 refine st (v:=.int .u64 (((a ||| (((bs.getD i 0) &&& 127) * 2 ^ (7 * i) % 18446744073709551616)):Nat):Int)) (x_assign (.tmp rfl rfl)) ?_
 refine c_nil (n_then (c_seq (c_region (st (v:=.int .u8 ((bs.getD i 0:Nat):Int)) (x_move (.tmp rfl rfl)) ?_))))
 refine st (v:=.bool (decide ((((bs.getD i 0:Nat):Int):Int) < 128))) (x_lss (k:=.u8) (a:=((bs.getD i 0:Nat):Int)) (b:=128) (.tmp rfl rfl) .const) ?_
 refine c_nil (n_then ?_)
 rcases Bool.eq_false_or_eq_true (decide ((((bs.getD i 0:Nat):Int):Int) < 128)) with hc55 | hc55
 have hp55:(((bs.getD i 0:Nat):Int):Int) < 128:=of_decide_eq_true hc55
 refine c_cond_t (t:=true) (.tmp rfl (cVb hc55)) rfl ?_
 refine c_seq (c_region (st (v:=.pointer (some ⟨g,0,none⟩)) (x_move (.tmp rfl hρ2)) ?_))
 refine st (v:=.pointer (some ⟨g,0,none⟩)) (x_move (.tmp rfl hρ2)) ?_
 refine st (v:=.pointer (some ⟨g,0,none⟩)) (x_nilCheck (.tmp rfl rfl)) ?_
 refine st (v:=.pointer (some ⟨g,0 + 0,none⟩)) (fa98_0 (.tmp rfl rfl)) ?_
 refine st (v:=.slice A n c) (ld33 (.tmp rfl rfl) (hs6.cell 0 rfl (0 + 0) rfl)) ?_
 refine st (v:=.int .i64 ((i:Nat):Int)) (x_move (.tmp rfl rfl)) ?_
 refine st (v:=.int .i64 (((i + 1):Nat):Int)) (x_add (k:=.i64) (a:=((i:Nat):Int)) (b:=1) (.tmp rfl rfl) .const ((w64 (by omega) (by omega)).trans (by omega))) ?_
 have:=hp.le
 refine st (v:=.slice (cutA A c (i + 1) 1) (n - (i + 1)) (c - (i + 1))) (bs_l Try.underlying33 inf5 (a:=(((i + 1):Nat):Int)) (.tmp rfl rfl) (.tmp rfl rfl) (by omega) (by omega) (by omega)) ?_
 refine st (v:=.pointer (some ⟨g,0,none⟩)) (x_nilCheck (.tmp rfl rfl)) ?_
 refine st (v:=.pointer (some ⟨g,0 + 0,none⟩)) (fa98_0 (.tmp rfl rfl)) ?_
 refine st_m0 (sto33 (cs':=[.slice (cutA A c (i + 1) 1) (n - (i + 1)) (c - (i + 1)),.bool false]) (i:=0 + 0) hs6 (v:=.slice (cutA A c (i + 1) 1) (n - (i + 1)) (c - (i + 1))) (.tmp rfl rfl) (.tmp rfl rfl) rfl (Nat.le_of_ble_eq_true rfl) one1 rfl) ?_
 rintro w56 hs58
 refine c_nil (n_then (c_seq (c_region (st (v:=.int .u64 (((a ||| (((bs.getD i 0) &&& 127) * 2 ^ (7 * i) % 18446744073709551616)):Nat):Int)) (x_move (.tmp rfl rfl)) ?_))))
 refine st (v:=.int .u64 (((a ||| (((bs.getD i 0) &&& 127) * 2 ^ (7 * i) % 18446744073709551616)):Nat):Int)) (x_assign (.tmp rfl rfl)) ?_
 refine c_nil (n_then (c_ret (r_block (r_then (r_then (r_block (r_then (leave_ret (res_one (v:=.int .u64 (((a ||| (((bs.getD i 0) &&& 127) * 2 ^ (7 * i) % 18446744073709551616)):Nat):Int)) rfl (.mk rfl rfl)) ?_))))))))
 have hf:uscan 0 0 bs = some ((a ||| (((bs.getD i 0) &&& 127) * 2 ^ (7 * i) % 18446744073709551616)),bs.drop (i + 1)):=hu.trans (by rw [uscan_get (by omega),if_neg (by omega),if_pos (by omega)])
 rw [rdU_some hf]
 exact ⟨_,_,_,rfl,(hp.drop (k:=(i + 1)) (by omega)),hs58⟩
 have hp55:¬ ((((bs.getD i 0:Nat):Int):Int) < 128):=of_decide_eq_false hc55
 refine c_cond_f (t:=false) (.tmp rfl (cVb hc55)) rfl ?_
 refine c_skip (n_block (n_then (c_region (st (v:=.int .i64 (((i:Nat):Int) + 1)) (x_add (k:=.i64) (a:=((i:Nat):Int)) (b:=1) (.tmp rfl hρ5) .const (w64 (by omega) (by omega))) ?_))))
 refine st (v:=.int .i64 (((i:Nat):Int) + 1)) (x_move (.tmp rfl rfl)) ?_
 refine c_nil ?_
 refine n_then ⟨_,_,rfl,?_,(i + 1),(a ||| (((bs.getD i 0) &&& 127) * 2 ^ (7 * i) % 18446744073709551616)),hρ2,rfl,hρ4,rfl,(by omega),(by omega),hb54,(hu.trans (by rw [uscan_get (by omega),if_neg (by omega),if_neg (by omega)])),hs6,rfl⟩
 omega
 have hp7:¬ ((((i:Nat):Int):Int) < ((n:Nat):Int)):=of_decide_eq_false hc7
 refine c_cond_f (t:=false) (.tmp rfl (cVb hc7)) rfl ?_
 refine c_exit (x_then (x_then (x_here (n_then (c_seq (c_region (st (v:=.pointer (some ⟨g,0,none⟩)) (x_move (.tmp rfl hρ2)) ?_)))))))
 refine st (v:=.pointer (some ⟨g,0,none⟩)) (x_nilCheck (.tmp rfl rfl)) ?_
 refine st (v:=.pointer (some ⟨g,0 + 1,none⟩)) (fa98_1 (.tmp rfl rfl)) ?_
 refine st_m0 (sto4 (cs':=[.slice A n c,.bool true]) (i:=0 + 1) hs6 (v:=.bool true) (.tmp rfl rfl) .const rfl (Nat.le_of_ble_eq_true rfl) one1 rfl) ?_
 rintro w59 hs61
 refine c_nil (n_then (c_seq (c_region (st (v:=.int .u64 0) (x_assign .const) ?_))))
 refine c_nil (n_then (c_ret (leave_ret (res_one (v:=.int .u64 0) rfl (.mk rfl rfl)) ?_)))
 have hf:uscan 0 0 bs = none:=hu.trans (by first | (rw [uscan_get (by omega),if_pos (by omega)]) | (rw [List.drop_eq_nil_of_le (by omega)]; rfl))
 rw [rdU_none hf]
 exact ⟨_,_,_,rfl,hp,hs61⟩
theorem uint_own {H:Hp} {w:World} {L:List Res} {g:Nat} {A:Option Addr} {n c:Nat} {bs:List Nat} (hp:Bs H A n c bs) (b:Bool) (hs:St H w (obj g 98 [.slice A n c,.bool b]::L)):Calls Try.prog 36 #[(.pointer (some ⟨g,0,none⟩))] w (fun e w' => ∃ A' n' c',e = .returned (.int .u64 (((rdU bs b).1:Nat):Int))∧Bs H A' n' c' (rdU bs b).2.1∧St H w' (obj g 98 [.slice A' n' c',.bool (rdU bs b).2.2]::L)):=by
  cases b
  · exact uint_false hp hs
  · exact uint_true hp hs
end Go.Proofs.Ytlfihfmmhhcigaa

set_option linter.unusedVariables false
set_option linter.unusedSimpArgs false
namespace Go.Proofs.Ytlfihfmmhhcigaa
open Go Go.FM Go.Proofs
attribute [local irreducible] wpList wpQuiet wpS Code.wp Calls
set_option maxHeartbeats 8000000 in
theorem ruintf_spec {H:Hp} {w:World} {L:List Res} (hs:St H w L) (m:Nat) (b_m:m < 18446744073709551616):Calls Try.prog 42 #[.int .u64 ((m:Nat):Int)] w (fun e w' => ∃ v',e = .returned v'∧RowOk 1 v' (uenc m).length ((uenc m).map encB)∧St H w' (row 5 1 v' (uenc m).length ((uenc m).map encB)::L)):=by
 refine enter (args:=[.int .u64 ((m:Nat):Int)]) (N:=20) Try.func42 rfl rfl rfl ?_
 have h10:=uenc_len10 b_m
 refine c_seq (c_region (st (v:=.slice none 0 0) (x_assign .const) ?_))
 refine c_nil (n_then (c_seq (c_region (st (v:=.slice none 0 0) (x_assign .const) ?_))))
 refine c_nil (n_then (c_seq (c_block ?_)))
 have hs0:=hs.rowNil 5 1
 refine c_loop (fun ρ w mm => ∃ (r:Nat) (u:Value) (k:Nat) (q:List Nat),ρ 0 = .int .u64 ((r:Nat):Int)∧ρ 3 = u∧(r < 18446744073709551616)∧(uenc m = q ++ uenc r)∧(k + (uenc r).length = (uenc m).length)∧(Small q)∧(RowOk 1 u k (q.map encB))∧St H w (row 5 1 u k (q.map encB)::L)∧mm = r + 1) _ ⟨m,(.slice none 0 0),0,[],rfl,rfl,b_m,rfl,(by omega),Small.nil,(RowOk.nil 1),hs0,rfl⟩ ?_
 rintro ρ w mm ⟨r,u,k,q,hρ2,hρ3,hr,hm,hk,hq,ok2,hs4,rfl⟩
 refine c_seq (c_seq (c_region (st (v:=.int .u64 ((r:Nat):Int)) (x_move (.tmp rfl hρ2)) ?_)))
 refine st (v:=.bool (decide ((127:Int) < ((r:Nat):Int)))) (x_gtr (k:=.u64) (a:=((r:Nat):Int)) (b:=127) (.tmp rfl rfl) .const) ?_
 refine c_nil (n_then ?_)
 rcases Bool.eq_false_or_eq_true (decide ((127:Int) < ((r:Nat):Int))) with hc5 | hc5
 have hp5:(127:Int) < ((r:Nat):Int):=of_decide_eq_true hc5
 refine c_cond_t (t:=true) (.tmp rfl (cVb hc5)) rfl ?_
 refine c_skip (n_then (c_block (c_seq (c_region ?_))))
 have hb1:¬ r < 128:=by omega
 have hk1:(uenc r).length = (uenc (r / 128)).length + 1:=by rw [uenc_big hb1]; rfl
 have hb2:r / 128 < r:=by omega
 refine st (v:=u) (x_move (.tmp rfl hρ3)) ?_
 refine st (v:=.int .u64 ((r:Nat):Int)) (x_move (.tmp rfl hρ2)) ?_
 refine st (v:=.int .u64 (((r % 128):Nat):Int)) (x_remN (k:=.u64) (m:=r) (n:=128) (.tmp rfl rfl) .const (by omega)) ?_
 refine st (v:=.int .u8 ((((r % 128) % 256):Nat):Int)) (x_conv (k:=.u64) (a:=(((r % 128):Nat):Int)) Try.underlying22 Try.underlying5 (.tmp rfl rfl) (wrapN _ rfl _)) ?_
 have hb6:(((r % 128) % 256) + 128) < 256:=by omega
 refine st (v:=.int .u8 (((((r % 128) % 256) + 128):Nat):Int)) (x_add (k:=.u8) (a:=((((r % 128) % 256):Nat):Int)) (b:=128) (.tmp rfl rfl) .const (wU rfl (by omega) hb6)) ?_
 refine st_m (m_lit (n:=1) (ps:=[(0,.int .u8 (((((r % 128) % 256) + 128):Nat):Int))]) (cs:=[.int .u8 (((((r % 128) % 256) + 128):Nat):Int)]) Try.underlying33 inf5 (.cons (.tmp rfl rfl) Evp.nil) (by decide) (by decide) rfl rfl hs4) ?_
 rintro _ w8 ⟨g7,rfl,hs10⟩
 have hs11:=hs10.p1
 refine st_m (m_appAt (bs:=[(((r % 128) % 256) + 128)]) Try.underlying33 inf5 hs11 ok2 (.tmp rfl rfl) (.tmp rfl rfl) rfl (hs11.at_ 1 rfl 0 rfl) (by omega)) ?_
 rintro v12 w13 ⟨ok14,hs15⟩
 refine st (v:=v12) (x_assign (.tmp rfl rfl)) ?_
 refine c_nil (n_then (c_region (st (v:=.int .u64 ((r:Nat):Int)) (x_move (.tmp rfl hρ2)) ?_)))
 refine st (v:=.int .u64 (((r / 128):Nat):Int)) (x_quoN (k:=.u64) (m:=r) (n:=128) (.tmp rfl rfl) .const (by omega) (.inr ⟨rfl,show _ < 2 ^ 64 from hr⟩)) ?_
 refine st (v:=.int .u64 (((r / 128):Nat):Int)) (x_assign (.tmp rfl rfl)) ?_
 refine c_nil (n_block ?_)
 have e7:r % 128 % 256 + 128 = r % 128 + 128:=by omega
 refine n_then ⟨_,_,rfl,?_,(r / 128),v12,(k + 1),(q ++ [(((r % 128) % 256) + 128)]),rfl,rfl,(Nat.lt_of_le_of_lt (Nat.div_le_self _ _) hr),(by rw [uenc_big hb1] at hm; rw [hm,e7]; simp),(by have:=hk1; omega),(hq.append (Small.cons hb6 Small.nil)),ok14,(hs15.p1).drop,rfl⟩
 exact Nat.succ_lt_succ hb2
 have hp5:¬ ((127:Int) < ((r:Nat):Int)):=of_decide_eq_false hc5
 refine c_cond_f (t:=false) (.tmp rfl (cVb hc5)) rfl ?_
 refine c_exit (x_then (x_then (x_here (n_then (c_seq (c_region ?_))))))
 have hb1:r < 128:=by omega
 have hk1:(uenc r).length = 1:=by rw [uenc_one hb1]; rfl
 refine st (v:=u) (x_move (.tmp rfl hρ3)) ?_
 refine st (v:=.int .u64 ((r:Nat):Int)) (x_move (.tmp rfl hρ2)) ?_
 refine st (v:=.int .u8 (((r % 256):Nat):Int)) (x_conv (k:=.u64) (a:=((r:Nat):Int)) Try.underlying22 Try.underlying5 (.tmp rfl rfl) (wrapN _ rfl _)) ?_
 refine st_m (m_lit (n:=1) (ps:=[(0,.int .u8 (((r % 256):Nat):Int))]) (cs:=[.int .u8 (((r % 256):Nat):Int)]) Try.underlying33 inf5 (.cons (.tmp rfl rfl) Evp.nil) (by decide) (by decide) rfl rfl hs4) ?_
 rintro _ w17 ⟨g16,rfl,hs19⟩
 have hs20:=hs19.p1
 refine st_m (m_appAt (bs:=[(r % 256)]) Try.underlying33 inf5 hs20 ok2 (.tmp rfl rfl) (.tmp rfl rfl) rfl (hs20.at_ 1 rfl 0 rfl) (by omega)) ?_
 rintro v21 w22 ⟨ok23,hs24⟩
 refine st (v:=v21) (x_assign (.tmp rfl rfl)) ?_
 refine c_nil (n_then (c_ret (leave_ret (res_one (v:=v21) rfl (.mk rfl rfl)) ?_)))
 have hmod:r % 256 = r:=by omega
 have e1:uenc m = q ++ [r % 256]:=by rw [hm,uenc_one hb1,hmod]
 have e2:(uenc m).length = k + 1:=by omega
 rw [e2,e1]
 exact ⟨_,rfl,ok23,(hs24.p1).drop⟩
end Go.Proofs.Ytlfihfmmhhcigaa
