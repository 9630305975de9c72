/- Steps of the proofs over the functions of this seat, printed by a program (gen.py) and checked by Lean. -/
import Derived.Test.YtnikcgcbkdeeeaaDoorW02
set_option linter.unusedVariables false
set_option linter.unusedSimpArgs false
namespace Go.FM
open Go
section
variable {tr:List (List GEvent)} {l:List GEvent} {all:List GLife} {a b:GLife} {i j k n:Nat} {v w u:GView} {x:GViewID} {s sent:List GItem} {y:GItem}
theorem take_min {α:Type} {p q:List α}:p.take (min p.length q.length) = q.take (min p.length q.length) ↔ (∃ c,q = p ++ c) ∨ ∃ c,p = q ++ c:=by
  constructor
  · intro h
    rcases Nat.le_total p.length q.length with h1 | h1
    · rw [Nat.min_eq_left h1,List.take_length] at h
      exact .inl ⟨q.drop p.length,by have h3:=List.take_append_drop p.length q; rw [← h] at h3; exact h3.symm⟩
    · rw [Nat.min_eq_right h1,List.take_length] at h
      exact .inr ⟨p.drop q.length,by have h3:=List.take_append_drop q.length p; rw [h] at h3; exact h3.symm⟩
  · rintro (⟨c,rfl⟩ | ⟨c,rfl⟩)
    · rw [List.length_append,Nat.min_eq_left (by omega)]; simp
    · rw [List.length_append,Nat.min_eq_right (by omega)]; simp
theorem pairL_iff:pairL a b = true ↔ a.view.Set = b.view.Set∧(beginsT a.recv b.recv = true ∨ beginsT b.recv a.recv = true)∧(a.next.N = 0 ∨ a.next ≠ b.next ∨ a.recv.length = b.recv.length):=by
  unfold pairL
  simp only [Bool.and_eq_true,Bool.or_eq_true,decide_eq_true_eq,take_min,begins_iff,and_assoc,or_assoc]
theorem pairL_refl:pairL a a = true:=pairL_iff.2 ⟨rfl,.inl (begins_iff.2 ⟨[],by simp⟩),.inr (.inr rfl)⟩
theorem pairL_symm (h:pairL a b = true):pairL b a = true:=by
  obtain ⟨h1,h2,h3⟩:=pairL_iff.1 h
  refine pairL_iff.2 ⟨h1.symm,h2.symm,?_⟩
  rcases h3 with h3 | h3 | h3
  · by_cases e:b.next = a.next
    · exact .inl (by rw [e]; exact h3)
    · exact .inr (.inl e)
  · exact .inr (.inl fun e => h3 e.symm)
  · exact .inr (.inr h3.symm)
theorem lifes_iff:(∀ m,m < all.length → lifeOk all m = true) ↔ (∀ a ∈ all,∀ b ∈ all,a.view.ID = b.view.ID → pairL a b = true)∧∀ a ∈ all,wholeL a all = true:=by
  have one:∀ m (a:GLife),all[m]? = some a → (lifeOk all m = true ↔ (∀ b ∈ all.take m,a.view.ID = b.view.ID → pairL a b = true)∧wholeL a all = true):=by
    intro m a ha
    unfold lifeOk
    rw [ha]
    simp only [Bool.and_eq_true,List.all_eq_true]
    refine and_congr_left' (forall_congr' fun b => forall_congr' fun hb => ?_)
    cases h1:pairL a b <;> by_cases h2:a.view.ID = b.view.ID <;> simp [h2]
  constructor
  · intro h
    refine ⟨fun a ha b hb he => ?_,fun a ha => ?_⟩
    · obtain ⟨m,hm,rfl⟩:=List.getElem_of_mem ha
      obtain ⟨q,hq,rfl⟩:=List.getElem_of_mem hb
      rcases Nat.lt_trichotomy q m with h1 | h1 | h1
      · exact ((one m _ (List.getElem?_eq_getElem hm)).1 (h m hm)).1 _ (List.mem_take_iff_getElem.2 ⟨q,by omega,rfl⟩) he
      · subst h1; exact pairL_refl
      · exact pairL_symm (((one q _ (List.getElem?_eq_getElem hq)).1 (h q hq)).1 _ (List.mem_take_iff_getElem.2 ⟨m,by omega,rfl⟩) he.symm)
    · obtain ⟨m,hm,rfl⟩:=List.getElem_of_mem ha
      exact ((one m _ (List.getElem?_eq_getElem hm)).1 (h m hm)).2
  · rintro ⟨h1,h2⟩ m hm
    exact (one m _ (List.getElem?_eq_getElem hm)).2 ⟨fun b hb he => h1 _ (List.getElem_mem hm) b (List.mem_of_mem_take hb) he,h2 _ (List.getElem_mem hm)⟩
theorem find_one {α:Type} {p:α → Bool} {l:List α} {b:α} (hb:b ∈ l) (hp:p b = true) (hu:∀ y ∈ l,p y = true → y = b):l.find? p = some b:=by
  cases h:l.find? p with
  | none => rw [List.find?_eq_none] at h; exact absurd hp (h b hb)
  | some y => rw [hu y (List.mem_of_find?_eq_some h) (List.find?_some h)]
theorem uniq_view (h:(viewsT l).Pairwise (fun a b => VLt a.ID b.ID)) (hv:v ∈ viewsT l) (hw:w ∈ viewsT l) (he:v.ID = w.ID):v = w:=by
  obtain ⟨m,hm,rfl⟩:=List.getElem_of_mem hv
  obtain ⟨q,hq,rfl⟩:=List.getElem_of_mem hw
  have hp:=List.pairwise_iff_getElem.1 h
  rcases Nat.lt_trichotomy m q with h1 | h1 | h1
  · exact absurd he (hp m q hm hq h1).ne
  · subst h1; rfl
  · exact absurd he.symm (hp q m hq hm h1).ne
theorem hasT_some (h:(viewsT l).Pairwise (fun a b => VLt a.ID b.ID)):hasT l x = some w ↔ w ∈ viewsT l∧w.ID = x:=by
  unfold hasT
  constructor
  · intro k
    exact ⟨List.mem_of_find?_eq_some k,by simpa using List.find?_some k⟩
  · rintro ⟨k1,k2⟩
    exact find_one k1 (by simpa using k2) fun y hy hp => uniq_view h hy k1 (by rw [k2]; simpa using hp)
theorem hasT_none:hasT l x = none ↔ ∀ w ∈ viewsT l,w.ID ≠ x:=by
  unfold hasT; rw [List.find?_eq_none]; simp
theorem from_cnt (j:Int):∀ (n:Nat) (s:List GItem),s.length = n → ((∀ (k:Nat) (y:GItem),s[k]? = some y → y.From = j → sent[cntI (s.take k) j]? = some y) ↔ beginsT (fromT s j) sent = true)
  | 0,s,hn => by
    obtain rfl:=List.eq_nil_of_length_eq_zero hn
    exact ⟨fun _ => begins_iff.2 ⟨sent,rfl⟩,fun _ k y h => by simp at h⟩
  | n + 1,s,hn => by
    obtain ⟨s0,y,rfl⟩:∃ s0 y,s = s0 ++ [y]:=by
      rcases List.eq_nil_or_concat s with h | ⟨a,b,h⟩
      · rw [h] at hn; cases hn
      · exact ⟨a,b,by simpa using h⟩
    have ih:=from_cnt j n s0 (by simpa using hn)
    have hc:cntI s0 j = (fromT s0 j).length:=by unfold cntI fromT; rw [List.countP_eq_length_filter]
    have hf:fromT (s0 ++ [y]) j = fromT s0 j ++ (if y.From = j then [y] else []):=by
      unfold fromT; rw [List.filter_append]
      by_cases h:y.From = j <;> simp [h]
    have hold:∀ k,k < s0.length → (s0 ++ [y]).take k = s0.take k:=fun k hk => List.take_append_of_le_length (by omega)
    constructor
    · intro h
      have h0:=ih.1 fun k z hz hj => by
        have hk:=(List.getElem?_eq_some_iff.1 hz).1
        have:=h k z (by rw [List.getElem?_append_left hk]; exact hz) hj
        rw [hold k hk] at this; exact this
      rw [hf]
      by_cases hy:y.From = j
      · rw [if_pos hy]
        have:=h s0.length y (by simp) hy
        rw [List.take_left,hc] at this
        exact begins_push h0 this
      · rw [if_neg hy,List.append_nil]; exact h0
    · intro h
      rw [hf] at h
      have h0:beginsT (fromT s0 j) sent = true:=by
        obtain ⟨c,hc⟩:=begins_iff.1 h
        exact begins_iff.2 ⟨_,by rw [hc,List.append_assoc]⟩
      intro k z hz hj
      rcases Nat.lt_trichotomy k s0.length with h1 | h1 | h1
      · rw [List.getElem?_append_left h1] at hz
        rw [hold k h1]; exact ih.2 h0 k z hz hj
      · subst h1
        rw [List.getElem?_append_right (Nat.le_refl _),Nat.sub_self] at hz
        cases hz
        rw [List.take_left,hc]
        rw [if_pos hj] at h
        have:=begins_at (k:=(fromT s0 j).length) h (by simp)
        rw [this]; simp
      · rw [List.getElem?_eq_none (by simp; omega)] at hz; cases hz
end
end Go.FM

set_option linter.unusedVariables false
set_option linter.unusedSimpArgs false
namespace Go.FM
open Go
def atT (tr:List (List GEvent)) (i:Nat):List GEvent:=tr.getD i []
section
variable {tr:List (List GEvent)} {l:List GEvent} {all:List GLife} {a b:GLife} {i j k n:Nat} {v w u:GView} {x:GViewID} {s sent:List GItem} {y:GItem}
theorem mem_all (hal:∀ i:Nat,i < tr.length → aloneT (i:Int) (atT tr i) = true):a ∈ allTo tr tr.length ↔ ∃ i,i < tr.length∧∃ v ∈ viewsT (atT tr i),a = lifeOf (i:Int) (atT tr i) v:=by
  unfold allTo
  rw [List.mem_flatMap]
  constructor
  · rintro ⟨i,hi,ha⟩
    have hi:=List.mem_range.1 hi
    rw [((lives_alone (node:=(i:Int)) (l:=tr.getD i [])).2 (hal i hi)).1] at ha
    obtain ⟨v,hv,e⟩:=List.mem_map.1 ha
    exact ⟨i,hi,v,hv,e.symm⟩
  · rintro ⟨i,hi,v,hv,e⟩
    refine ⟨i,List.mem_range.2 hi,?_⟩
    rw [((lives_alone (node:=(i:Int)) (l:=tr.getD i [])).2 (hal i hi)).1]
    exact List.mem_map.2 ⟨v,hv,e.symm⟩
theorem up_at (hal:∀ i:Nat,i < tr.length → aloneT (i:Int) (atT tr i) = true) (hi:i < tr.length):(viewsT (atT tr i)).Pairwise (fun a b => VLt a.ID b.ID):=((lives_alone (node:=(i:Int)) (l:=atT tr i)).2 (hal i hi)).2
theorem findL_in (hal:∀ i:Nat,i < tr.length → aloneT (i:Int) (atT tr i) = true) (hk:k < tr.length):findL (allTo tr tr.length) (k:Int) x = (hasT (atT tr k) x).map (lifeOf (k:Int) (atT tr k)):=by
  cases h:hasT (atT tr k) x with
  | none =>
    show findL _ _ _ = none
    unfold findL
    rw [List.find?_eq_none]
    intro b hb hp
    rw [Bool.and_eq_true,decide_eq_true_eq,decide_eq_true_eq] at hp
    obtain ⟨i,hi,v,hv,rfl⟩:=(mem_all hal).1 hb
    have e:i = k:=by have:=hp.1; exact Int.ofNat_inj.1 this
    subst e
    exact hasT_none.1 h v hv hp.2
  | some w =>
    obtain ⟨h1,h2⟩:=(hasT_some (up_at hal hk)).1 h
    refine find_one ((mem_all hal).2 ⟨k,hk,w,h1,rfl⟩) (by rw [Bool.and_eq_true,decide_eq_true_eq,decide_eq_true_eq]; exact ⟨rfl,h2⟩) fun b hb hp => ?_
    rw [Bool.and_eq_true,decide_eq_true_eq,decide_eq_true_eq] at hp
    obtain ⟨i,hi,v,hv,rfl⟩:=(mem_all hal).1 hb
    have e:i = k:=by have:=hp.1; exact Int.ofNat_inj.1 this
    subst e
    rw [uniq_view (up_at hal hk) hv h1 (by rw [h2]; exact hp.2)]
theorem findL_out (hal:∀ i:Nat,i < tr.length → aloneT (i:Int) (atT tr i) = true) {z:Int} (hz:¬ (0 ≤ z∧z < (tr.length:Int))):findL (allTo tr tr.length) z x = none:=by
  unfold findL
  rw [List.find?_eq_none]
  intro b hb hp
  rw [Bool.and_eq_true,decide_eq_true_eq,decide_eq_true_eq] at hp
  obtain ⟨i,hi,v,hv,rfl⟩:=(mem_all hal).1 hb
  have:((i:Nat):Int) = z:=hp.1
  omega
theorem gotAt_iff:gotAt all a j = true ↔ ∀ y,a.recv[j]? = some y → ∃ b,findL all y.From a.view.ID = some b∧b.sent[cntI (a.recv.take j) y.From]? = some y:=by
  unfold gotAt
  cases h:a.recv[j]? with
  | none => simp
  | some y =>
    cases h2:findL all y.From a.view.ID with
    | none => simp [h2]
    | some b => simp [h2]
theorem safeAt_iff (hal:∀ i:Nat,i < tr.length → aloneT (i:Int) (atT tr i) = true):safeAt (allTo tr tr.length) a (k:Int) = true ↔ k < tr.length∧∃ w,hasT (atT tr k) a.view.ID = some w∧a.safe ≤ ((itemsT (atT tr k) (k:Int) 3 a.view.ID).length:Int):=by
  unfold safeAt
  rw [List.any_eq_true]
  constructor
  · rintro ⟨b,hb,hp⟩
    simp only [Bool.and_eq_true,decide_eq_true_eq] at hp
    obtain ⟨i,hi,v,hv,rfl⟩:=(mem_all hal).1 hb
    have e:i = k:=by have:=hp.1.1; exact Int.ofNat_inj.1 this
    subst e
    have hid:v.ID = a.view.ID:=hp.1.2
    refine ⟨hi,v,(hasT_some (up_at hal hi)).2 ⟨hv,hid⟩,?_⟩
    have:=hp.2
    rw [← hid]; exact this
  · rintro ⟨hk,w,hw,hs⟩
    obtain ⟨h1,h2⟩:=(hasT_some (up_at hal hk)).1 hw
    refine ⟨_,(mem_all hal).2 ⟨k,hk,w,h1,rfl⟩,?_⟩
    simp only [Bool.and_eq_true,decide_eq_true_eq]
    exact ⟨⟨rfl,h2⟩,by show a.safe ≤ ((itemsT (atT tr k) (k:Int) 3 w.ID).length:Int); rw [h2]; exact hs⟩
theorem gots_iff (hal:∀ i:Nat,i < tr.length → aloneT (i:Int) (atT tr i) = true):(∀ j,j < a.recv.length → gotAt (allTo tr tr.length) a j = true) ↔
    (∀ y ∈ a.recv,0 ≤ y.From∧y.From < (tr.length:Int))∧∀ j,j < tr.length → (hasT (atT tr j) a.view.ID = none → fromT a.recv (j:Int) = [])∧∀ w,hasT (atT tr j) a.view.ID = some w → beginsT (fromT a.recv (j:Int)) (itemsT (atT tr j) (j:Int) 2 a.view.ID) = true:=by
  have sent_w:∀ (j:Nat) (w:GView),hasT (atT tr j) a.view.ID = some w → w.ID = a.view.ID:=fun j w h => by
    have:=List.find?_some h; simpa using this
  constructor
  · intro h
    have hr:∀ y ∈ a.recv,0 ≤ y.From∧y.From < (tr.length:Int):=fun y hy => by
      obtain ⟨m,hm,rfl⟩:=List.getElem_of_mem hy
      obtain ⟨b,hb,_⟩:=gotAt_iff.1 (h m hm) _ (List.getElem?_eq_getElem hm)
      exact Classical.byContradiction fun k => by rw [findL_out hal k] at hb; cases hb
    refine ⟨hr,fun j hj => ⟨fun hn => ?_,fun w hw => ?_⟩⟩
    · unfold fromT
      rw [List.filter_eq_nil_iff]
      intro y hy hp
      have hp:y.From = (j:Int):=by simpa using hp
      obtain ⟨m,hm,rfl⟩:=List.getElem_of_mem hy
      obtain ⟨b,hb,_⟩:=gotAt_iff.1 (h m hm) _ (List.getElem?_eq_getElem hm)
      rw [hp,findL_in hal hj,hn] at hb; cases hb
    · refine (from_cnt (j:Int) a.recv.length a.recv rfl).1 fun m y hy hf => ?_
      have hm:=(List.getElem?_eq_some_iff.1 hy).1
      obtain ⟨b,hb,hs⟩:=gotAt_iff.1 (h m hm) _ hy
      rw [hf,findL_in hal hj,hw] at hb
      have e:lifeOf (j:Int) (atT tr j) w = b:=Option.some.inj hb
      rw [← e,hf] at hs
      rw [← sent_w j w hw]; exact hs
  · rintro ⟨h1,h2⟩ m hm
    refine gotAt_iff.2 fun y hy => ?_
    have hr:=h1 y (List.mem_of_getElem? hy)
    obtain ⟨j,hj⟩:∃ j:Nat,y.From = (j:Int):=⟨y.From.toNat,by omega⟩
    have hjl:j < tr.length:=by omega
    cases hh:hasT (atT tr j) a.view.ID with
    | none =>
      exfalso
      have h3:=(h2 j hjl).1 hh
      unfold fromT at h3
      rw [List.filter_eq_nil_iff] at h3
      exact h3 y (List.mem_of_getElem? hy) (by simpa using hj)
    | some w =>
      refine ⟨lifeOf (j:Int) (atT tr j) w,by rw [hj,findL_in hal hjl,hh]; rfl,?_⟩
      have h3:=(from_cnt (j:Int) a.recv.length a.recv rfl).2 ((h2 j hjl).2 w hh) m y hy hj
      show (itemsT (atT tr j) (j:Int) 2 w.ID)[_]? = _
      rw [sent_w j w hh,hj]; exact h3
end
end Go.FM

set_option linter.unusedVariables false
set_option linter.unusedSimpArgs false
namespace Go.FM
open Go
section
variable {tr:List (List GEvent)} {a b:GLife} {i j k n:Nat} {v w u:GView}
theorem seeT_iff:seeT tr i v j = true ↔ (hasT (atT tr j) v.ID = none → fromT (itemsT (atT tr i) i 3 v.ID) j = []∧¬ (0 < (itemsT (atT tr i) i 4 v.ID).length∧has v.Set j = true)) ∧
    ∀ w,hasT (atT tr j) v.ID = some w → w = v∧(beginsT (itemsT (atT tr i) i 3 v.ID) (itemsT (atT tr j) j 3 v.ID) = true ∨ beginsT (itemsT (atT tr j) j 3 v.ID) (itemsT (atT tr i) i 3 v.ID) = true)∧beginsT (fromT (itemsT (atT tr i) i 3 v.ID) j) (itemsT (atT tr j) j 2 v.ID) = true
     ∧¬ ((itemsT (atT tr j) j 3 v.ID).length < (itemsT (atT tr i) i 4 v.ID).length∧has v.Set j = true)∧¬ (0 < (nextT (atT tr i) v.ID).N∧nextT (atT tr i) v.ID = nextT (atT tr j) v.ID∧(itemsT (atT tr i) i 3 v.ID).length ≠ (itemsT (atT tr j) j 3 v.ID).length):=by
  unfold seeT
  show (match hasT (atT tr j) v.ID with | none => _ | some w => _) = true ↔ _
  cases h:hasT (atT tr j) v.ID with
  | none =>
    simp only [Bool.not_eq_true',Bool.or_eq_false_iff,Bool.and_eq_false_iff,decide_eq_false_iff_not,reduceCtorEq,false_implies,implies_true,and_true,forall_const]
    constructor
    · rintro ⟨h1,h2⟩
      refine ⟨List.eq_nil_of_length_eq_zero (by unfold atT at *; omega),fun ⟨k1,k2⟩ => ?_⟩
      rcases h2 with h2 | h2
      · exact h2 k1
      · rw [k2] at h2; cases h2
    · rintro ⟨h1,h2⟩
      refine ⟨by show ¬ 0 < (fromT (itemsT (atT tr i) i 3 v.ID) j).length; rw [h1]; simp,?_⟩
      by_cases k:0 < (itemsT (atT tr i) i 4 v.ID).length
      · right; cases k2:has v.Set j with
        | false => rfl
        | true => exact absurd ⟨k,k2⟩ h2
      · exact .inl k
  | some w =>
    simp only [reduceCtorEq,false_implies,true_and,Option.some.injEq,forall_eq']
    constructor
    · intro hb
      simp only [Bool.and_eq_true,Bool.not_eq_true',Bool.or_eq_false_iff,Bool.and_eq_false_iff,decide_eq_false_iff_not,Bool.not_eq_false',ne_eq,Classical.not_not] at hb
      obtain ⟨⟨⟨⟨h1,h2⟩,h3⟩,h4⟩,h5⟩:=hb
      refine ⟨h1,h2,h3,fun ⟨k1,k2⟩ => ?_,fun ⟨k1,k2,k3⟩ => ?_⟩
      · rcases h4 with h4 | h4
        · exact h4 k1
        · rw [k2] at h4; cases h4
      · rcases h5 with (h5 | h5) | h5
        · exact h5 k1
        · exact h5 k2
        · exact k3 h5
    · rintro ⟨h1,h2,h3,h4,h5⟩
      simp only [Bool.and_eq_true,Bool.not_eq_true',Bool.or_eq_false_iff,Bool.and_eq_false_iff,decide_eq_false_iff_not,Bool.not_eq_false',ne_eq,Classical.not_not]
      refine ⟨⟨⟨⟨h1,h2⟩,h3⟩,?_⟩,?_⟩
      · by_cases k:(itemsT (atT tr j) j 3 v.ID).length < (itemsT (atT tr i) i 4 v.ID).length
        · right; cases k2:has v.Set j with
          | false => rfl
          | true => exact absurd ⟨k,k2⟩ h4
        · exact .inl k
      · by_cases k1:0 < (nextT (atT tr i) v.ID).N
        · by_cases k2:nextT (atT tr i) v.ID = nextT (atT tr j) v.ID
          · right; exact Classical.byContradiction fun k3 => h5 ⟨k1,k2,k3⟩
          · exact .inl (.inr k2)
        · exact .inl (.inl k1)
theorem view_same {a b:GView} (h1:a.ID = b.ID) (h2:a.Set = b.Set):a = b:=by cases a; cases b; simp_all
theorem has16 (h:has w.Set (k:Int) = true):k < 16:=by
  have:=of_decide_eq_true h
  omega
theorem inview_iff (hal:∀ i:Nat,i < tr.length → aloneT (i:Int) (atT tr i) = true) (hi:i < tr.length) (hv:v ∈ viewsT (atT tr i)) :
    inviewT tr i v = true ↔ (∀ b ∈ allTo tr tr.length,v.ID = b.view.ID → pairL (lifeOf i (atT tr i) v) b = true)∧wholeL (lifeOf i (atT tr i) v) (allTo tr tr.length) = true:=by
  have hsome:∀ (j:Nat) (w:GView),hasT (atT tr j) v.ID = some w → w ∈ viewsT (atT tr j)∧w.ID = v.ID:=fun j w h => ⟨List.mem_of_find?_eq_some h,by simpa using List.find?_some h⟩
  have hw:wholeL (lifeOf i (atT tr i) v) (allTo tr tr.length) = true ↔ (∀ j,j < (lifeOf i (atT tr i) v).recv.length → gotAt (allTo tr tr.length) (lifeOf i (atT tr i) v) j = true)∧∀ k,has v.Set (k:Nat) = true → 0 < (itemsT (atT tr i) i 4 v.ID).length → safeAt (allTo tr tr.length) (lifeOf i (atT tr i) v) (k:Int) = true:=by
    unfold wholeL
    rw [Bool.and_eq_true,List.all_eq_true,List.all_eq_true]
    refine and_congr ⟨fun h j hj => h j (List.mem_range.2 hj),fun h j hj => h j (List.mem_range.1 hj)⟩ ⟨fun h k hk hs => ?_,fun h k hk => ?_⟩
    · have:=h k (has_lst.2 hk)
      have h0:(0:Int) < (lifeOf i (atT tr i) v).safe:=by show (0:Int) < ((itemsT (atT tr i) i 4 v.ID).length:Int); omega
      rw [decide_eq_true h0,Bool.true_and,Bool.not_not] at this
      exact this
    · by_cases hs:0 < (itemsT (atT tr i) i 4 v.ID).length
      · rw [h k (has_lst.1 hk) hs]; simp
      · rw [decide_eq_false (show ¬ (0:Int) < (lifeOf i (atT tr i) v).safe by show ¬ (0:Int) < ((itemsT (atT tr i) i 4 v.ID).length:Int); omega)]; rfl
  have hin:inviewT tr i v = true ↔ (∀ y ∈ itemsT (atT tr i) i 3 v.ID,0 ≤ y.From∧y.From < (tr.length:Int))∧(∀ j,j < tr.length → seeT tr i v j = true)∧∀ j,tr.length ≤ j → j < 16 → ¬ (0 < (itemsT (atT tr i) i 4 v.ID).length∧has v.Set (j:Nat) = true):=by
    unfold inviewT
    rw [Bool.and_eq_true,Bool.and_eq_true,List.all_eq_true,List.all_eq_true,List.all_eq_true,and_assoc]
    refine and_congr ⟨fun h y hy => of_decide_eq_true (h y hy),fun h y hy => decide_eq_true (h y hy)⟩ (and_congr ⟨fun h j hj => h j (List.mem_range.2 hj),fun h j hj => h j (List.mem_range.1 hj)⟩ ⟨fun h j hj h16 hc => ?_,fun h j hj => ?_⟩)
    · have:=h j (List.mem_range.2 h16)
      rw [decide_eq_false (by omega),Bool.false_or] at this
      unfold lateT at this
      rw [show tr.getD i [] = atT tr i from rfl,decide_eq_true hc.1,hc.2] at this
      cases this
    · by_cases hjl:j < tr.length
      · rw [decide_eq_true hjl]; rfl
      · have h16:=List.mem_range.1 hj
        have:=h j (by omega) h16
        rw [decide_eq_false hjl,Bool.false_or]
        unfold lateT
        rw [show tr.getD i [] = atT tr i from rfl]
        cases k:(decide (0 < (itemsT (atT tr i) i 4 v.ID).length) && has v.Set j) with
        | false => rfl
        | true => simp only [Bool.and_eq_true,decide_eq_true_eq] at k; exact absurd k this
  rw [hin,hw,gots_iff hal]
  constructor
  · rintro ⟨h1,h2,h3⟩
    refine ⟨fun b hb he => ?_,⟨h1,fun j hj => ⟨fun hn => ((seeT_iff.1 (h2 j hj)).1 hn).1,fun w hw => ((seeT_iff.1 (h2 j hj)).2 w hw).2.2.1⟩⟩,fun k hk hs => ?_⟩
    · obtain ⟨j,hj,w,hw,rfl⟩:=(mem_all hal).1 hb
      have he:v.ID = w.ID:=he
      have hh:=(hasT_some (x:=v.ID) (up_at hal hj)).2 ⟨hw,he.symm⟩
      obtain ⟨q1,q2,_,_,q5⟩:=(seeT_iff.1 (h2 j hj)).2 w hh
      subst q1
      refine pairL_iff.2 ⟨rfl,q2,?_⟩
      show (nextT (atT tr i) w.ID).N = 0 ∨ nextT (atT tr i) w.ID ≠ nextT (atT tr j) w.ID ∨ (itemsT (atT tr i) i 3 w.ID).length = (itemsT (atT tr j) j 3 w.ID).length
      by_cases k1:(nextT (atT tr i) w.ID).N = 0
      · exact .inl k1
      · by_cases k2:nextT (atT tr i) w.ID = nextT (atT tr j) w.ID
        · exact .inr (.inr (Classical.byContradiction fun k3 => q5 ⟨by omega,k2,k3⟩))
        · exact .inr (.inl k2)
    · refine (safeAt_iff hal).2 ?_
      have hkl:k < tr.length:=Classical.byContradiction fun c => h3 k (by omega) (has16 (w:=v) hk) ⟨hs,hk⟩
      refine ⟨hkl,?_⟩
      cases hh:hasT (atT tr k) v.ID with
      | none => exact absurd ⟨hs,hk⟩ ((seeT_iff.1 (h2 k hkl)).1 hh).2
      | some w =>
        obtain ⟨_,_,_,q4,_⟩:=(seeT_iff.1 (h2 k hkl)).2 w hh
        refine ⟨w,hh,?_⟩
        show ((itemsT (atT tr i) i 4 v.ID).length:Int) ≤ _
        have:¬ (itemsT (atT tr k) k 3 v.ID).length < (itemsT (atT tr i) i 4 v.ID).length:=fun c => q4 ⟨c,hk⟩
        show ((itemsT (atT tr i) i 4 v.ID).length:Int) ≤ ((itemsT (atT tr k) (k:Int) 3 v.ID).length:Int)
        omega
  · rintro ⟨h1,⟨h2,h3⟩,h4⟩
    have safe_k:∀ k,has v.Set (k:Nat) = true → 0 < (itemsT (atT tr i) i 4 v.ID).length → k < tr.length∧∃ w,hasT (atT tr k) v.ID = some w∧(itemsT (atT tr i) i 4 v.ID).length ≤ (itemsT (atT tr k) k 3 v.ID).length:=fun k hk hs => by
      obtain ⟨q1,w,q2,q3⟩:=(safeAt_iff hal).1 (h4 k hk hs)
      have q3:((itemsT (atT tr i) i 4 v.ID).length:Int) ≤ ((itemsT (atT tr k) (k:Int) 3 v.ID).length:Int):=q3
      exact ⟨q1,w,q2,by omega⟩
    refine ⟨h2,fun j hj => seeT_iff.2 ⟨fun hn => ⟨(h3 j hj).1 hn,fun ⟨c1,c2⟩ => ?_⟩,fun w hw => ?_⟩,fun j hj h16 ⟨c1,c2⟩ => ?_⟩
    · obtain ⟨_,w,q,_⟩:=safe_k j c2 c1
      rw [hn] at q; cases q
    · obtain ⟨m1,m2⟩:=hsome j w hw
      have hp:=pairL_iff.1 (h1 _ ((mem_all hal).2 ⟨j,hj,w,m1,rfl⟩) m2.symm)
      obtain ⟨p1,p2,p3⟩:=hp
      have p1:v.Set = w.Set:=p1
      have ew:w = v:=view_same m2 p1.symm
      subst ew
      refine ⟨rfl,p2,(h3 j hj).2 w hw,fun ⟨c1,c2⟩ => ?_,fun ⟨c1,c2,c3⟩ => ?_⟩
      · obtain ⟨_,w',_,q⟩:=safe_k j c2 (by omega)
        omega
      · have p3:(nextT (atT tr i) w.ID).N = 0 ∨ nextT (atT tr i) w.ID ≠ nextT (atT tr j) w.ID ∨ (itemsT (atT tr i) i 3 w.ID).length = (itemsT (atT tr j) j 3 w.ID).length:=p3
        rcases p3 with p3 | p3 | p3
        · omega
        · exact p3 c2
        · exact c3 p3
    · have:=(safe_k j c2 c1).1; omega
theorem judge_ref:judgeV tr = refV tr:=by
  by_cases hal:∀ i:Nat,i < tr.length → aloneT (i:Int) (atT tr i) = true
  · have e1:(List.range tr.length).all (fun (i:Nat) => (livesT (i:Int) (tr.getD i [])).2) = true:=List.all_eq_true.2 fun i hi => by
      rw [(lives_alone (node:=(i:Int)) (l:=tr.getD i [])).1]; exact hal i (List.mem_range.1 hi)
    have e2:(List.range tr.length).all (fun i => aloneT i (tr.getD i [])) = true:=List.all_eq_true.2 fun i hi => hal i (List.mem_range.1 hi)
    unfold judgeV refV
    rw [e1,e2,Bool.true_and,Bool.true_and,Bool.eq_iff_iff]
    constructor
    · intro h
      have h:=(lifes_iff (all:=allTo tr tr.length)).1 fun m hm => List.all_eq_true.1 h m (List.mem_range.2 hm)
      refine List.all_eq_true.2 fun i hi => List.all_eq_true.2 fun v hv => ?_
      have hi:=List.mem_range.1 hi
      have hm:lifeOf i (atT tr i) v ∈ allTo tr tr.length:=(mem_all hal).2 ⟨i,hi,v,hv,rfl⟩
      exact (inview_iff hal hi hv).2 ⟨fun b hb he => h.1 _ hm b hb he,h.2 _ hm⟩
    · intro h
      refine List.all_eq_true.2 fun m hm => (lifes_iff (all:=allTo tr tr.length)).2 ⟨fun a ha b hb he => ?_,fun a ha => ?_⟩ m (List.mem_range.1 hm)
      · obtain ⟨i,hi,v,hv,rfl⟩:=(mem_all hal).1 ha
        exact ((inview_iff hal hi hv).1 (List.all_eq_true.1 (List.all_eq_true.1 h i (List.mem_range.2 hi)) v hv)).1 b hb he
      · obtain ⟨i,hi,v,hv,rfl⟩:=(mem_all hal).1 ha
        exact ((inview_iff hal hi hv).1 (List.all_eq_true.1 (List.all_eq_true.1 h i (List.mem_range.2 hi)) v hv)).2
  · have hex:∃ i:Nat,i < tr.length∧aloneT (i:Int) (atT tr i) = false:=Classical.byContradiction fun k => hal fun i hi => by
      cases h:aloneT (i:Int) (atT tr i) with
      | true => rfl
      | false => exact absurd ⟨i,hi,h⟩ k
    obtain ⟨i,hi,h⟩:=hex
    have hg:tr[i]? = some (atT tr i):=by unfold atT; rw [List.getD_eq_getElem?_getD,List.getElem?_eq_getElem hi]; rfl
    rw [judge_no1 hg (by rw [lives_alone.1]; exact h),refV_no1 hg h]
end
end Go.FM

set_option linter.unusedVariables false
set_option linter.unusedSimpArgs false
namespace Go.FM
open Go
def oCell (x:GViewID × GViewID):List Value:=[.int .u8 0,.int .i64 0,.int .u64 0,.int .i64 0,.int .u16 0,.int .u64 (x.1.N:Int),.int .i64 x.1.P,.int .u64 (x.2.N:Int),.int .i64 x.2.P,.slice none 0 0,.int .u64 0,.slice none 0 0,.slice none 0 0,.int .u64 0,.int .u64 0]
def oCells (os:List (GViewID × GViewID)):List Value:=os.flatMap oCell
def memCells (n self:Nat) (cur:GView) (prom:GViewID) (high:Nat) (pv jv:Value) (os:List (GViewID × GViewID)):List Value :=
  .int .i64 (n:Int)::.int .i64 (self:Int)::.int .u64 (cur.ID.N:Int)::.int .i64 cur.ID.P::.int .u16 (cur.Set:Int)::.int .u64 (prom.N:Int)::.int .i64 prom.P::.int .u64 (high:Int)::pv::jv::oCells os
section
variable {n self high:Nat} {cur:GView} {prom:GViewID} {pv jv:Value} {os:List (GViewID × GViewID)} {i j:Nat}
end
def MB.cells (m:MB) (pv jv:Value):List Value:=memCells m.n m.self m.cur m.prom m.high pv jv m.others
def propCells (p:GProp) (sv:Value):List Value:=[.int .u64 (p.v.ID.N:Int),.int .i64 p.v.ID.P,.int .u16 (p.v.Set:Int),.int .u16 (p.who:Int),sv,.bool p.done]
structure VOk (v:GViewID):Prop where
  n:v.N < 18446744073709551616
  p:IB v.P
structure PropOk (H:Hp) (p:GProp) (sv:Value) (sc:List Value):Prop where
  id:VOk p.v.ID
  set:p.v.Set < 65536
  who:p.who < 65536
  ok:RowOk 4 sv p.states.length sc
  hk:kState.toKn.rows H p.states sc
structure MemOk (H:Hp) (m:MB) (A:Option Addr) (jn jc:Nat) (sv:Value) (sc:List Value):Prop where
  n1:1 ≤ m.n
  n16:m.n ≤ 16
  self:m.self < m.n
  cur:VOk m.cur.ID
  set:m.cur.Set < 65536
  prom:VOk m.prom
  high:m.high < 18446744073709551616
  joined:Sl kState H A jn jc m.joined
  len:m.others.length = 16
  oth:∀ x ∈ m.others,VOk x.1∧VOk x.2
  prop:∀ p,m.prop = some p → PropOk H p sv sc
theorem MemOk.other {H:Hp} {m:MB} {A:Option Addr} {jn jc:Nat} {sv:Value} {sc:List Value} (h:MemOk H m A jn jc sv sc) (i:Nat):VOk (m.other i).1∧VOk (m.other i).2:=by
  unfold MB.other
  rw [List.getD_eq_getElem?_getD]
  cases e:m.others[i]? with
  | none => exact ⟨⟨by decide,by constructor <;> decide⟩,⟨by decide,by constructor <;> decide⟩⟩
  | some x => exact h.oth x (List.mem_of_getElem? e)
section
variable {m:MB} {z:Nat} {v:GViewID}
end
end Go.FM

set_option linter.unusedVariables false
set_option linter.unusedSimpArgs false
namespace Go.FM
open Go
def VLe (a b:GViewID):Prop:=a.N < b.N ∨ a.N = b.N∧a.P ≤ b.P
theorem vid_ext {a b:GViewID} (h1:a.N = b.N) (h2:a.P = b.P):a = b:=by cases a; cases b; simp_all
theorem VLe.refl (a:GViewID):VLe a a:=.inr ⟨rfl,Int.le_refl _⟩
theorem VLe.of_eq {a b:GViewID} (h:a = b):VLe a b:=h ▸ VLe.refl a
theorem VLe.trans {a b c:GViewID} (h:VLe a b) (k:VLe b c):VLe a c:=by unfold VLe at *; omega
theorem VLe.antisymm {a b:GViewID} (h:VLe a b) (k:VLe b a):a = b:=by
  unfold VLe at *; exact vid_ext (by omega) (by omega)
theorem VLe.N {a b:GViewID} (h:VLe a b):a.N ≤ b.N:=by unfold VLe at h; omega
theorem VLe.zero {a:GViewID} (h:0 ≤ a.P):VLe z0 a:=by
  unfold VLe z0; show 0 < a.N ∨ 0 = a.N∧0 ≤ a.P; omega
theorem above_iff {a b:GViewID}:aboveV a b = true ↔ ¬ VLe a b:=by
  unfold aboveV VLe
  rw [decide_eq_true_iff,cmpV_pos]; omega
theorem above_f {a b:GViewID}:aboveV a b = false ↔ VLe a b:=by
  rw [← Bool.not_eq_true,above_iff,Classical.not_not]
theorem VLe.of_not {a b:GViewID} (h:¬ VLe a b):VLe b a:=by unfold VLe at *; omega
structure GG where
  n:Nat
  ms:List MB
  bag:List GOut
  views:List (List GView)
def m00:MB:=MB.new 1 0
def GG.m (g:GG) (i:Nat):MB:=g.ms.getD i m00
def stOf (m:MB):GState:=⟨m.cur.ID,0,[]⟩
def vpost (views:List (List GView)) (i:Nat):Option GInstall → List (List GView)
  | none => views
  | some x => views.set i (views.getD i [] ++ [x.View])
def GG.post (g:GG) (i:Nat) (l:List GOut) (x:Option GInstall):GG:=⟨g.n,g.ms,g.bag ++ l,vpost g.views i x⟩
def GG.put (g:GG) (i:Nat) (m:MB):GG:=⟨g.n,g.ms.set i m,g.bag,g.views⟩
def GG.tickAt (g:GG) (i est:Nat):GG:=(g.put i ((g.m i).tick est (stOf (g.m i))).1).post i ((g.m i).tick est (stOf (g.m i))).2.1 ((g.m i).tick est (stOf (g.m i))).2.2
def GG.inAt (g:GG) (o:GOut):GG:=(g.put o.To.toNat ((g.m o.To.toNat).inn o.F (stOf (g.m o.To.toNat))).1).post o.To.toNat ((g.m o.To.toNat).inn o.F (stOf (g.m o.To.toNat))).2.1 ((g.m o.To.toNat).inn o.F (stOf (g.m o.To.toNat))).2.2.1
def GG.without (g:GG) (k:Nat):GG:=⟨g.n,g.ms,g.bag.eraseIdx k,g.views⟩
def frBeat (i:Nat) (m:MB):GFrame:=⟨1,(i:Int),z0,0,m.cur.ID,m.prom,[],0,[],[],0,0⟩
def GG.beatsTo (g:GG) (i:Nat) (k:Nat):List GOut:=((List.range k).filter (fun j => decide (j ≠ i))).map (fun (j:Nat) => GOut.mk (j:Int) (frBeat i (g.m i)))
def GG.beatAt (g:GG) (i:Nat):GG:=⟨g.n,g.ms,g.bag ++ g.beatsTo i g.n,g.views⟩
def fr0:GFrame:=⟨0,0,z0,0,z0,z0,[],0,[],[],0,0⟩
def o00:GOut:=⟨0,frBeat 0 m00⟩
def GG.comes (g:GG) (k:Nat) (keep hand:Bool):GG :=
  if g.bag = [] then g else
    (let g1:=if keep then g else g.without (k % g.bag.length)
     if hand then g1.inAt (g.bag.getD (k % g.bag.length) o00) else g1)
def GG.move (g:GG) (a:GMove):GG :=
  if a.Kind % 9 < 3 then g.tickAt (a.I % g.n) a.Est
  else if a.Kind % 9 < 8 then g.comes a.Est a.Keep (decide (a.Kind % 9 < 7))
  else g.beatAt (a.I % g.n)
def GG.begin_ (n:Nat):GG:=⟨n,(List.range n).map (MB.new n),[],List.replicate n []⟩
section
variable {g:GG} {i j n:Nat} {m:MB}
theorem put_m (h:i < g.ms.length) (j:Nat):(g.put i m).m j = if j = i then m else g.m j:=by
  unfold GG.put GG.m
  rw [List.getD_eq_getElem?_getD,List.getElem?_set,List.getD_eq_getElem?_getD]
  by_cases e:i = j
  · subst e; rw [if_pos rfl,if_pos h,if_pos rfl]; rfl
  · rw [if_neg e,if_neg (fun h => e h.symm)]
theorem begin_m (h:i < n):(GG.begin_ n).m i = MB.new n i:=by
  unfold GG.begin_ GG.m
  rw [List.getD_eq_getElem?_getD,List.getElem?_map,List.getElem?_range h]; rfl
end
def InLog (log:List GView) (x:GViewID):Prop:=x = z0 ∨ ∃ v ∈ log,v.ID = x
theorem InLog.mono {log log':List GView} {x:GViewID} (h:InLog log x) (hl:∀ v ∈ log,v ∈ log'):InLog log' x:=by
  rcases h with h | ⟨v,h1,h2⟩
  · exact .inl h
  · exact .inr ⟨v,hl v h1,h2⟩
structure LogOk (n B:Nat) (log:List GView):Prop where
  uniq:∀ v ∈ log,∀ u ∈ log,v.ID = u.ID → v = u
  pos:∀ v ∈ log,0 < v.ID.N∧v.ID.N ≤ B
  p:∀ v ∈ log,0 ≤ v.ID.P∧v.ID.P < (n:Int)
  set:∀ v ∈ log,has v.Set v.ID.P = true∧v.Set < 2 ^ n∧least v.Set = v.ID.P
theorem LogOk.idN {n B:Nat} {log:List GView} {x:GViewID} (h:LogOk n B log) (hx:InLog log x):x.N ≤ B:=by
  rcases hx with rfl | ⟨v,h1,rfl⟩
  · exact Nat.zero_le _
  · exact (h.pos v h1).2
structure NodeOk (log:List GView) (k i B:Nat) (m:MB):Prop where
  n:m.n = k
  self:m.self = i
  len:m.others.length = 16
  cur:m.cur = ⟨z0,0⟩ ∨ m.cur ∈ log∧has m.cur.Set (i:Int) = true
  cp:VLe m.cur.ID m.prom
  prom:InLog log m.prom
  high:m.prom.N ≤ m.high
  highB:m.high ≤ B
  pin:∀ p,m.prop = some p → p.v ∈ log∧p.v.ID.P = (i:Int)
  pno:∀ p,m.prop = some p → p.done = false → m.cur.ID ≠ p.v.ID∧p.who ≠ p.v.Set∧p.who < 2 ^ k∧has p.who (i:Int) = true
  pd:∀ p,m.prop = some p → p.done = true → p.who = p.v.Set
  pst:∀ p,m.prop = some p → (∀ s ∈ p.states,s.Floor = 0)∧p.states.length ≤ B
  mine:∀ v ∈ log,v.ID.P = (i:Int) → VLe v.ID m.prom
  own:m.cur.ID = m.prom → m.cur.ID.P = (i:Int) → 0 < m.cur.ID.N → ∃ p,m.prop = some p∧p.v = m.cur∧p.done = true
  oth:∀ j,InLog log (m.other j).1∧InLog log (m.other j).2∧(m.other j).2.N ≤ m.high
  jn:(∀ s ∈ m.joined,s.Floor = 0)∧m.joined.length ≤ B
structure FrOk (log:List GView) (n B:Nat) (f:GFrame):Prop where
  frm:0 ≤ f.From∧f.From < (n:Int)
  id:InLog log f.ID
  cur:InLog log f.Cur
  prom:InLog log f.Prom
  prop:f.Kind = 2 → (⟨f.ID,f.Set⟩:GView) ∈ log∧f.From = f.ID.P
  com:f.Kind = 5 → (⟨f.ID,f.Set⟩:GView) ∈ log∧f.From = f.ID.P
  acc:f.Kind = 3 → ∃ st,f.States = [st]
  st:(∀ s ∈ f.States,s.Floor = 0)∧f.States.length ≤ B
  set:f.Set < 65536
end Go.FM

set_option linter.unusedVariables false
set_option linter.unusedSimpArgs false
namespace Go.FM
open Go
theorem NodeOk.mono {log:List GView} {n i B B':Nat} {m:MB} (h:NodeOk log n i B m) (hb:B ≤ B'):NodeOk log n i B' m :=
  ⟨h.n,h.self,h.len,h.cur,h.cp,h.prom,h.high,Nat.le_trans h.highB hb,h.pin,h.pno,h.pd,fun p hp => ⟨(h.pst p hp).1,Nat.le_trans (h.pst p hp).2 hb⟩,h.mine,h.own,h.oth,⟨h.jn.1,Nat.le_trans h.jn.2 hb⟩⟩
theorem FrOk.mono {log log':List GView} {n B B':Nat} {f:GFrame} (h:FrOk log n B f) (hl:∀ v ∈ log,v ∈ log') (hb:B ≤ B'):FrOk log' n B' f :=
  ⟨h.frm,h.id.mono hl,h.cur.mono hl,h.prom.mono hl,fun k => ⟨hl _ (h.prop k).1,(h.prop k).2⟩,fun k => ⟨hl _ (h.com k).1,(h.com k).2⟩,h.acc,⟨h.st.1,Nat.le_trans h.st.2 hb⟩,h.set⟩
theorem LogOk.mono {log:List GView} {n B B':Nat} (h:LogOk n B log) (hb:B ≤ B'):LogOk n B' log:=⟨h.uniq,fun v hv => ⟨(h.pos v hv).1,Nat.le_trans (h.pos v hv).2 hb⟩,h.p,h.set⟩
theorem NodeOk.more {log:List GView} {n i B:Nat} {m:MB} {v:GView} (h:NodeOk log n i B m) (hv:v.ID.P ≠ (i:Int)):NodeOk (v::log) n i B m :=
  have hl:∀ u ∈ log,u ∈ v::log:=fun u hu => List.mem_cons_of_mem _ hu
  ⟨h.n,h.self,h.len,h.cur.imp id (fun k => ⟨hl _ k.1,k.2⟩),h.cp,h.prom.mono hl,h.high,h.highB,fun p hp => ⟨hl _ (h.pin p hp).1,(h.pin p hp).2⟩,h.pno,h.pd,h.pst,
    fun u hu e => by rcases List.mem_cons.1 hu with rfl | hu; exact absurd e hv; exact h.mine u hu e,h.own,fun j => ⟨(h.oth j).1.mono hl,(h.oth j).2.1.mono hl,(h.oth j).2.2⟩,h.jn⟩
structure StepOk (log:List GView) (n i B:Nat) (m m':MB) (f:GFrame) (ol:List GOut) (x:Option GInstall):Prop where
  node:NodeOk log n i B m'
  cur:VLe m.cur.ID m'.cur.ID
  prom:VLe m.prom m'.prom
  oth:∀ j,m'.other j = m.other j ∨ (f.Kind = 1∧f.From = (j:Int)∧m'.other j = (f.Cur,f.Prom))
  outs:∀ o ∈ ol,(0 ≤ o.To∧o.To < (n:Int))∧FrOk log n B o.F∧o.F.From = (i:Int)∧o.F.Kind ≠ 1∧(o.F.Kind = 3 → VLe o.F.ID m'.prom)∧(o.F.Kind = 5 → ∃ p',m'.prop = some p'∧p'.done = true∧o.F.ID = p'.v.ID)∧o.F.Kind ≠ 0
  len:ol.length ≤ n
  und:∀ p',m'.prop = some p' → p'.done = false → (∃ p,m.prop = some p∧p.v = p'.v∧p.done = false) ∨ (f.Kind = 0∧p'.v.ID.N = m.high + 1)
  who:∀ p',m'.prop = some p' → ∀ j:Nat,has p'.who (j:Int) = true → (∃ p,m.prop = some p∧p.v = p'.v∧has p.who (j:Int) = true) ∨ (f.Kind = 3∧f.From = (j:Int)∧f.ID = p'.v.ID) ∨ (j = i∧VLe p'.v.ID m'.prom)
  inst:∀ y,x = some y → y.View = m'.cur∧m'.cur.ID ≠ m.cur.ID∧m'.cur ∈ log∧has m'.cur.Set (i:Int) = true∧m'.cur.ID = m'.prom∧(m'.cur.ID.P ≠ (i:Int) → m'.cur.ID = m.prom∧f.Kind = 5∧f.ID = m'.cur.ID)
  noin:x = none → m'.cur = m.cur
section
variable {log:List GView} {n i B:Nat} {m m':MB} {f:GFrame} {st:GState} {p:GProp} {outs:List GOut} {x:Option GInstall}
theorem NodeOk.hear (h:NodeOk log n i B m) {v:GViewID} (hv:v.N ≤ B):NodeOk log n i B (m.hear v) :=
  ⟨h.n,h.self,h.len,h.cur,h.cp,h.prom,Nat.le_trans h.high (Nat.le_max_left _ _),Nat.max_le.2 ⟨h.highB,hv⟩,h.pin,h.pno,h.pd,h.pst,h.mine,h.own,fun j => ⟨(h.oth j).1,(h.oth j).2.1,Nat.le_trans (h.oth j).2.2 (Nat.le_max_left _ _)⟩,h.jn⟩
theorem StepOk.same (h:NodeOk log n i B m):StepOk log n i B m m f [] none :=
  ⟨h,VLe.refl _,VLe.refl _,fun j => .inl rfl,fun o ho => absurd ho List.not_mem_nil,Nat.zero_le _,fun p' hp hd => .inl ⟨p',hp,rfl,hd⟩,fun p' hp j hj => .inl ⟨p',hp,rfl,hj⟩,fun y hy => (by cases hy),fun _ => rfl⟩
theorem StepOk.of (hn:NodeOk log n i B m') (h1:m'.cur = m.cur) (h2:VLe m.prom m'.prom) (h3:m'.others = m.others) (h4:m'.prop = m.prop ∨ m'.prop = none)
    (ho:∀ o ∈ outs,(0 ≤ o.To∧o.To < (n:Int))∧FrOk log n B o.F∧o.F.From = (i:Int)∧o.F.Kind ≠ 1∧(o.F.Kind = 3 → VLe o.F.ID m'.prom)∧(o.F.Kind = 5 → ∃ p',m'.prop = some p'∧p'.done = true∧o.F.ID = p'.v.ID)∧o.F.Kind ≠ 0) (hl:outs.length ≤ n):StepOk log n i B m m' f outs none :=
  have hp:∀ p',m'.prop = some p' → m.prop = some p':=fun p' hp => by
    rcases h4 with h4 | h4
    · rw [← h4]; exact hp
    · rw [h4] at hp; cases hp
  ⟨hn,VLe.of_eq (by rw [h1]),h2,fun j => .inl (by unfold MB.other; rw [h3]),ho,hl,fun p' hq hd => .inl ⟨p',hp p' hq,rfl,hd⟩,fun p' hq j hj => .inl ⟨p',hp p' hq,rfl,hj⟩,fun y hy => (by cases hy),fun _ => h1⟩
theorem other_set {k:Nat} {c:GViewID × GViewID} (hk:k < m.others.length) (j:Nat):MB.other { m with others:=m.others.set k c } j = if j = k then c else m.other j:=by
  unfold MB.other
  show (m.others.set k c).getD j (z0,z0) = _
  rw [List.getD_eq_getElem?_getD,List.getElem?_set,List.getD_eq_getElem?_getD]
  by_cases e:k = j
  · subst e; rw [if_pos rfl,if_pos hk,if_pos rfl]; rfl
  · rw [if_neg e,if_neg (fun h => e h.symm)]
theorem step_beat (h:NodeOk log n i B m) (hl:LogOk n B log) (hn:n ≤ 16) (hf:FrOk log n B f) (hk:f.Kind = 1):StepOk log n i B m (({ m with others:=m.others.set f.From.toNat (f.Cur,f.Prom) }.hear f.Cur).hear f.Prom) f [] none:=by
  have hF:=hf.frm
  have hlen:=h.len
  have ho:∀ j,(({ m with others:=m.others.set f.From.toNat (f.Cur,f.Prom) }.hear f.Cur).hear f.Prom).other j = if j = f.From.toNat then (f.Cur,f.Prom) else m.other j:=fun j => other_set (m:=m) (by omega) j
  have hc:=hl.idN hf.cur
  have hp:=hl.idN hf.prom
  have hB:=h.highB
  have hm1:=h.high
  refine ⟨⟨h.n,h.self,by show (m.others.set _ _).length = 16; rw [List.length_set]; exact hlen,h.cur,h.cp,h.prom,?_,?_,h.pin,h.pno,h.pd,h.pst,h.mine,h.own,fun j => ?_,h.jn⟩,VLe.refl _,VLe.refl _,fun j => ?_,fun o ho => absurd ho List.not_mem_nil,Nat.zero_le _,fun p' hp hd => .inl ⟨p',hp,rfl,hd⟩,fun p' hp j hj => .inl ⟨p',hp,rfl,hj⟩,fun y hy => (by cases hy),fun _ => rfl⟩
  · show m.prom.N ≤ max (max m.high f.Cur.N) f.Prom.N; omega
  · show max (max m.high f.Cur.N) f.Prom.N ≤ B; omega
  · rw [ho]
    split
    · exact ⟨hf.cur,hf.prom,by show f.Prom.N ≤ max (max m.high f.Cur.N) f.Prom.N; omega⟩
    · have:=h.oth j
      exact ⟨this.1,this.2.1,by show (m.other j).2.N ≤ max (max m.high f.Cur.N) f.Prom.N; omega⟩
  · rw [ho]
    by_cases e:j = f.From.toNat
    · rw [if_pos e]; exact .inr ⟨hk,by omega,rfl⟩
    · rw [if_neg e]; exact .inl rfl
theorem frAccept_ok (h:NodeOk log n i B m) (hi:i < n) (hf:FrOk log n B f) (hB:1 ≤ B) (hs:st.Floor = 0):FrOk log n B (frAccept m.self f.ID st) :=
  ⟨by show (0:Int) ≤ (m.self:Int)∧(m.self:Int) < n; rw [h.self]; omega,hf.id,.inl rfl,.inl rfl,fun k => absurd k (by show (3:Nat) ≠ 2; decide),fun k => absurd k (by show (3:Nat) ≠ 5; decide),fun _ => ⟨st,rfl⟩,⟨fun s hs' => by rw [List.mem_singleton.1 hs']; exact hs,hB⟩,by show (0:Nat) < 65536; decide⟩
theorem step_propose (h:NodeOk log n i B m) (hl:LogOk n B log) (hi:i < n) (hn:n ≤ 16) (hf:FrOk log n B f) (hk:f.Kind = 2) (hne:f.From ≠ (m.self:Int)) (hB:1 ≤ B) (hs:st.Floor = 0) :
    StepOk log n i B m (m.propose f st).1 f (m.propose f st).2.1 (m.propose f st).2.2.1:=by
  have hF:=hf.frm
  have hN:=hl.idN hf.id
  have hself:=h.self
  unfold MB.propose
  split
  · exact StepOk.same h
  split
  · rename_i h1 h2
    have hab:=VLe.of_not (above_iff.1 h2)
    have hP:=(hf.prop hk).2
    refine StepOk.of ⟨h.n,h.self,h.len,h.cur,h.cp.trans hab,hf.id,Nat.le_max_right _ _,Nat.max_le.2 ⟨h.highB,hN⟩,h.pin,h.pno,h.pd,h.pst,fun v hv e => (h.mine v hv e).trans hab,fun e1 e2 _ => ?_,fun j => ⟨(h.oth j).1,(h.oth j).2.1,Nat.le_trans (h.oth j).2.2 (Nat.le_max_left _ _)⟩,h.jn⟩ rfl hab rfl (.inl rfl) ?_ (by show 1 ≤ n; omega)
    · have e1:m.cur.ID = f.ID:=e1
      have e2:m.cur.ID.P = (i:Int):=e2
      rw [e1] at e2; exact absurd (hP.trans e2) (by rw [← hself]; exact hne)
    · intro o ho
      rw [List.mem_singleton.1 ho]
      exact ⟨hF,frAccept_ok h hi hf hB hs,by show (m.self:Int) = i; rw [hself],by show (3:Nat) ≠ 1; decide,fun _ => VLe.refl _,fun k => absurd k (by show (3:Nat) ≠ 5; decide),by show (3:Nat) ≠ 0; decide⟩
  split
  · refine StepOk.of (h.hear hN) rfl (VLe.refl _) rfl (.inl rfl) ?_ (by show 1 ≤ n; omega)
    intro o ho
    rw [List.mem_singleton.1 ho]
    refine ⟨hF,⟨by show (0:Int) ≤ (m.self:Int)∧(m.self:Int) < n; omega,hf.id,.inl rfl,h.prom,fun k => absurd k (by show (4:Nat) ≠ 2; decide),fun k => absurd k (by show (4:Nat) ≠ 5; decide),fun k => absurd k (by show (4:Nat) ≠ 3; decide),⟨fun s hs => absurd hs List.not_mem_nil,Nat.zero_le _⟩,by show (0:Nat) < 65536; decide⟩,by show (m.self:Int) = i; rw [hself],by show (4:Nat) ≠ 1; decide,fun k => absurd k (by show (4:Nat) ≠ 3; decide),fun k => absurd k (by show (4:Nat) ≠ 5; decide),by show (4:Nat) ≠ 0; decide⟩
  · rename_i h1 h2 h3
    refine StepOk.of (h.hear hN) rfl (VLe.refl _) rfl (.inl rfl) ?_ (by show 1 ≤ n; omega)
    intro o ho
    rw [List.mem_singleton.1 ho]
    exact ⟨hF,frAccept_ok h hi hf hB hs,by show (m.self:Int) = i; rw [hself],by show (3:Nat) ≠ 1; decide,fun _ => VLe.of_eq (Classical.not_not.1 (fun k => h3 (.inl k))),fun k => absurd k (by show (3:Nat) ≠ 5; decide),by show (3:Nat) ≠ 0; decide⟩
theorem has_wth {s z:Nat} (hz:z < 16) (j:Nat):has (wth s (z:Int)) (j:Int) = true ↔ has s (j:Int) = true ∨ j = z:=by
  unfold has
  rw [decide_eq_true_iff,decide_eq_true_iff,Int.toNat_natCast]
  have:=wth_bit (a:=s) (z:=z) (j:=j) hz
  constructor
  · rintro ⟨h1,h2,h3⟩
    rcases this.1 h3 with h | h
    · exact .inl ⟨h1,h2,h⟩
    · exact .inr h
  · rintro (⟨h1,h2,h3⟩ | h)
    · exact ⟨h1,h2,this.2 (.inl h3)⟩
    · exact ⟨by omega,by omega,this.2 (.inr h)⟩
theorem lt_pow_bits {a n:Nat} (h:a < 2 ^ n) {j:Nat} (hj:n ≤ j):¬ a / 2 ^ j % 2 = 1:=by
  rw [← testBit_iff,Nat.testBit_lt_two_pow (Nat.lt_of_lt_of_le h (Nat.pow_le_pow_right (by decide) hj))]; decide
theorem has_lt {a n j:Nat} (h:a < 2 ^ n) (hj:has a (j:Int) = true):j < n:=by
  rcases Nat.lt_or_ge j n with h1 | h1
  · exact h1
  · have:=of_decide_eq_true hj
    rw [Int.toNat_natCast] at this
    exact absurd this.2.2 (lt_pow_bits h h1)
theorem wth_pow {a n z:Nat} (h:a < 2 ^ n) (hz:z < n):wth a (z:Int) < 2 ^ n:=by
  unfold wth
  split
  · exact Nat.or_lt_two_pow h (by rw [Int.toNat_natCast]; exact Nat.pow_lt_pow_right (by decide) hz)
  · exact h
theorem has_wto {s z j:Nat} (hz:z < 16) (hs:s < 65536) (h:has (wto s (z:Int)) (j:Int) = true):has s (j:Int) = true∧j ≠ z:=by
  have h1:=of_decide_eq_true h
  rw [Int.toNat_natCast] at h1
  have:=(wto_bit (a:=s) (z:=z) (j:=j) hz (by omega) hs).1 h1.2.2
  exact ⟨decide_eq_true (by rw [Int.toNat_natCast]; exact ⟨h1.1,h1.2.1,this.1⟩),this.2⟩
theorem lst_len {s n:Nat} (h:s < 2 ^ n):(lst s).length ≤ n:=by rw [lst_length]; exact pc_lt 16 n s h
theorem wto_pow {a n:Nat} {z:Int} (ha:a < 65536) (h:a < 2 ^ n):wto a z < 2 ^ n:=by
  unfold wto
  split
  · exact Nat.lt_of_le_of_lt Nat.and_le_left h
  · exact h
theorem commit_ok {j:Nat} (h:NodeOk log n i B m) (hi:i < n) (hv:p.v ∈ log) (hP:p.v.ID.P = (i:Int)) (hset:p.v.Set < 65536):FrOk log n B (m.commit p j).F :=
  ⟨by show (0:Int) ≤ (m.self:Int)∧(m.self:Int) < n; rw [h.self]; omega,.inr ⟨p.v,hv,rfl⟩,.inl rfl,.inl rfl,fun k => absurd k (by show (5:Nat) ≠ 2; decide),fun _ => ⟨hv,by show (m.self:Int) = p.v.ID.P; rw [h.self,hP]⟩,fun k => absurd k (by show (5:Nat) ≠ 3; decide),h.jn,hset⟩
theorem pow16 {n:Nat} (hn:n ≤ 16) {a:Nat} (h:a < 2 ^ n):a < 65536:=Nat.lt_of_lt_of_le h (by have:2 ^ n ≤ 2 ^ 16:=Nat.pow_le_pow_right (by decide) hn; simpa using this)
theorem step_accept (h:NodeOk log n i B m) (hl:LogOk n B log) (hi:i < n) (hn:n ≤ 16) (hf:FrOk log n B f) (hk:f.Kind = 3) :
    StepOk log n i (B + 1) m (m.accept f).1 f (m.accept f).2.1 (m.accept f).2.2.1:=by
  have hF:=hf.frm
  have hself:=h.self
  have hB:=Nat.le_succ B
  unfold MB.accept
  cases hp:m.prop with
  | none => exact StepOk.same (h.mono hB)
  | some p =>
    simp only []
    split
    · rename_i hok
      obtain ⟨⟨⟨⟨⟨hd,hid⟩,hpr⟩,hset⟩,hnw⟩,hlen⟩:((((p.done = false∧p.v.ID = f.ID)∧m.prom = f.ID)∧has p.v.Set f.From = true)∧has p.who f.From = false)∧f.States.length = 1:=by
        unfold MB.acceptOk at hok
        simpa [Bool.and_eq_true,and_assoc] using hok
      obtain ⟨hpin,hpP⟩:=h.pin p hp
      obtain ⟨hp1,hp2,hp3,hp4⟩:=h.pno p hp hd
      obtain ⟨hs1,hs2⟩:=h.pst p hp
      obtain ⟨z,hz⟩:∃ z:Nat,f.From = (z:Int):=⟨f.From.toNat,by omega⟩
      have hzn:z < n:=by omega
      have hnown:¬ (m.cur.ID = m.prom):=fun e => hp1 (e.trans (hpr.trans hid.symm))
      have hst1:∀ s ∈ p.states ++ f.States,s.Floor = 0:=fun s hs => by
        rcases List.mem_append.1 hs with h1 | h1
        · exact hs1 s h1
        · exact hf.st.1 s h1
      have hst2:(p.states ++ f.States).length ≤ B + 1:=by rw [List.length_append,hlen]; omega
      have hset16:=pow16 hn (hl.set _ hpin).2.1
      have hwho:∀ j:Nat,has (wth p.who f.From) (j:Int) = true → has p.who (j:Int) = true ∨ f.From = (j:Int):=fun j hj => by
        rw [hz] at hj
        rcases (has_wth (by omega) j).1 hj with h1 | h1
        · exact .inl h1
        · exact .inr (by omega)
      unfold MB.agree
      by_cases hw:wth p.who f.From ≠ p.v.Set
      · rw [if_pos hw]
        refine ⟨⟨h.n,h.self,h.len,h.cur,h.cp,h.prom,h.high,Nat.le_trans h.highB hB,?_,?_,fun q hq hd2 => ?_,?_,h.mine,fun e _ _ => absurd e hnown,h.oth,⟨h.jn.1,Nat.le_trans h.jn.2 hB⟩⟩,VLe.refl _,VLe.refl _,fun j => .inl rfl,fun o ho => absurd ho List.not_mem_nil,Nat.zero_le _,fun q hq _ => ?_,?_,fun y hy => (by cases hy),fun _ => rfl⟩
        · intro q hq; cases hq; exact ⟨hpin,hpP⟩
        · intro q hq _; cases hq
          exact ⟨hp1,hw,by rw [hz]; exact wth_pow hp3 hzn,by rw [hz]; exact (has_wth (by omega) i).2 (.inl hp4)⟩
        · cases hq
          have hd2:p.done = true:=hd2
          rw [hd] at hd2; cases hd2
        · intro q hq; cases hq; exact ⟨hst1,hst2⟩
        · cases hq; exact .inl ⟨p,hp,rfl,hd⟩
        · intro q hq j hj; cases hq
          rcases hwho j hj with h1 | h1
          · exact .inl ⟨p,hp,rfl,h1⟩
          · exact .inr (.inl ⟨hk,h1,hid.symm⟩)
      · rw [if_neg hw]
        have hcu:(p.v:GView) = ⟨z0,0⟩ ∨ p.v ∈ log∧has p.v.Set (i:Int) = true:=.inr ⟨hpin,by rw [← hpP]; exact (hl.set _ hpin).1⟩
        have hno:NodeOk log n i (B + 1) { m with prop:=some { p with who:=wth p.who f.From,done:=true,states:=[] },joined:=joinS (p.states ++ f.States),cur:=p.v }:=by
          refine ⟨h.n,h.self,h.len,hcu,VLe.of_eq (hid.trans hpr.symm),h.prom,h.high,Nat.le_trans h.highB hB,?_,?_,fun q hq _ => ?_,?_,h.mine,fun _ _ _ => ⟨_,rfl,rfl,rfl⟩,h.oth,⟨fun s hs => hst1 s (joinS_sub hs),Nat.le_trans (joinTo_length _ _) hst2⟩⟩
          · intro q hq; cases hq; exact ⟨hpin,hpP⟩
          · intro q hq hd2; cases hq; cases hd2
          · cases hq; exact Classical.not_not.1 hw
          · intro q hq; cases hq; exact ⟨fun s hs => absurd hs List.not_mem_nil,Nat.zero_le _⟩
        refine ⟨hno,by show VLe m.cur.ID p.v.ID; rw [hid,← hpr]; exact h.cp,VLe.refl _,fun j => .inl rfl,?_,?_,fun q hq hd2 => ?_,?_,?_,fun e => (by cases e)⟩
        · intro o ho
          obtain ⟨z',hz',rfl⟩:=List.mem_map.1 ho
          have h9:=has_wto (by rw [hself]; omega) hset16 (has_lst.1 hz')
          have h10:=has_lt (hl.set _ hpin).2.1 h9.1
          exact ⟨by show (0:Int) ≤ (z':Int)∧(z':Int) < n; omega,commit_ok hno hi hpin hpP hset16,by show (m.self:Int) = i; rw [hself],by show (5:Nat) ≠ 1; decide,fun k => absurd k (by show (5:Nat) ≠ 3; decide),fun _ => ⟨_,rfl,rfl,rfl⟩,by show (5:Nat) ≠ 0; decide⟩
        · rw [List.length_map]; exact lst_len (wto_pow hset16 (hl.set _ hpin).2.1)
        · cases hq; cases hd2
        · intro q hq j hj; cases hq
          rcases hwho j hj with h1 | h1
          · exact .inl ⟨p,hp,rfl,h1⟩
          · exact .inr (.inl ⟨hk,h1,hid.symm⟩)
        · intro y hy; cases hy
          exact ⟨rfl,fun e => hp1 e.symm,hpin,by rw [← hpP]; exact (hl.set _ hpin).1,hid.trans hpr.symm,fun k => absurd hpP k⟩
    · exact StepOk.same (h.mono hB)
theorem step_refuse (h:NodeOk log n i B m) (hl:LogOk n B log) (hf:FrOk log n B f) :
    StepOk log n i B m (match m.prop with | none => m.hear f.Prom | some p => if p.v.ID = f.ID∧p.done = false∧aboveV f.Prom f.ID = true then { m.hear f.Prom with prop:=none } else m.hear f.Prom) f [] none:=by
  have hN:=hl.idN hf.prom
  have h2:=h.hear hN
  have hs:StepOk log n i B m (m.hear f.Prom) f [] none:=StepOk.of h2 rfl (VLe.refl _) rfl (.inl rfl) (fun o ho => absurd ho List.not_mem_nil) (Nat.zero_le _)
  cases hp:m.prop with
  | none => exact hs
  | some p =>
    simp only []
    split
    · rename_i hc
      refine StepOk.of ⟨h2.n,h2.self,h2.len,h2.cur,h2.cp,h2.prom,h2.high,h2.highB,fun q hq => (by cases hq),fun q hq => (by cases hq),fun q hq => (by cases hq),fun q hq => (by cases hq),h2.mine,fun e1 e2 e3 => ?_,h2.oth,h2.jn⟩ rfl (VLe.refl _) rfl (.inr rfl) (fun o ho => absurd ho List.not_mem_nil) (Nat.zero_le _)
      obtain ⟨q,hq,_,hd⟩:=h.own e1 e2 e3
      rw [hp] at hq; cases hq
      rw [hc.2.1] at hd; cases hd
    · exact hs
theorem step_commit (h:NodeOk log n i B m) (hl:LogOk n B log) (hi:i < n) (hf:FrOk log n B f) (hk:f.Kind = 5) (hne:f.From ≠ (m.self:Int)) (hc:¬ (f.ID ≠ m.prom ∨ m.cur.ID = f.ID ∨ has f.Set m.self = false ∨ f.ID.P ≠ f.From)) :
    StepOk log n i B m { m with cur:=⟨f.ID,f.Set⟩ } f [] (some ⟨⟨f.ID,f.Set⟩,f.States⟩):=by
  have hself:=h.self
  have h1:f.ID = m.prom:=Classical.not_not.1 fun k => hc (.inl k)
  have h2:m.cur.ID ≠ f.ID:=fun k => hc (.inr (.inl k))
  have h3:has f.Set (i:Int) = true:=by
    rw [← hself]
    cases e:has f.Set m.self with
    | true => rfl
    | false => exact absurd (.inr (.inr (.inl e))) hc
  have h4:f.ID.P = f.From:=Classical.not_not.1 fun k => hc (.inr (.inr (.inr k)))
  have h5:f.ID.P ≠ (i:Int):=by rw [h4,← hself]; exact hne
  refine ⟨⟨h.n,h.self,h.len,.inr ⟨(hf.com hk).1,h3⟩,VLe.of_eq h1,h.prom,h.high,h.highB,h.pin,fun p hp hd => ⟨fun e => ?_,(h.pno p hp hd).2⟩,h.pd,h.pst,h.mine,fun _ e _ => absurd e h5,h.oth,h.jn⟩,by show VLe m.cur.ID f.ID; rw [h1]; exact h.cp,VLe.refl _,fun j => .inl rfl,fun o ho => absurd ho List.not_mem_nil,Nat.zero_le _,fun p' hp hd => .inl ⟨p',hp,rfl,hd⟩,fun p' hp j hj => .inl ⟨p',hp,rfl,hj⟩,fun y hy => ?_,fun e => (by cases e)⟩
  · have e:f.ID = p.v.ID:=e
    exact h5 (by rw [e]; exact (h.pin p hp).2)
  · cases hy
    exact ⟨rfl,fun e => h2 e.symm,(hf.com hk).1,h3,h1,fun _ => ⟨h1,hk,rfl⟩⟩
theorem StepOk.mono (h:StepOk log n i B m m' f outs x) {B':Nat} (hb:B ≤ B'):StepOk log n i B' m m' f outs x :=
  ⟨h.node.mono hb,h.cur,h.prom,h.oth,fun o ho => ⟨(h.outs o ho).1,(h.outs o ho).2.1.mono (fun _ hv => hv) hb,(h.outs o ho).2.2⟩,h.len,h.und,h.who,h.inst,h.noin⟩
theorem inn_step (h:NodeOk log n i B m) (hl:LogOk n B log) (hi:i < n) (hn:n ≤ 16) (hf:FrOk log n B f) (hB:1 ≤ B) (hs:st.Floor = 0) :
    StepOk log n i (B + 1) m (m.inn f st).1 f (m.inn f st).2.1 (m.inn f st).2.2.1:=by
  have hB1:=Nat.le_succ B
  unfold MB.inn
  by_cases h0:f.From < 0 ∨ (m.n:Int) ≤ f.From ∨ f.From = (m.self:Int)
  · rw [if_pos h0]; exact StepOk.same (h.mono hB1)
  rw [if_neg h0]
  have hne:f.From ≠ (m.self:Int):=fun e => h0 (.inr (.inr e))
  by_cases h1:f.Kind = 1
  · rw [if_pos h1]; exact (step_beat h hl hn hf h1).mono hB1
  rw [if_neg h1]
  by_cases h2:f.Kind = 2
  · rw [if_pos h2]; exact (step_propose h hl hi hn hf h2 hne hB hs).mono hB1
  rw [if_neg h2]
  by_cases h3:f.Kind = 3
  · rw [if_pos h3]; exact step_accept h hl hi hn hf h3
  rw [if_neg h3]
  by_cases h4:f.Kind = 4
  · rw [if_pos h4]
    have hr:=(step_refuse h hl hf).mono hB1
    cases hp:m.prop with
    | none => rw [hp] at hr; exact hr
    | some p =>
      rw [hp] at hr
      simp only [] at hr ⊢
      split
      · rename_i hc; rw [if_pos hc] at hr; exact hr
      · rename_i hc; rw [if_neg hc] at hr; exact hr
  rw [if_neg h4]
  by_cases h5:f.Kind = 5
  · rw [if_pos h5]
    split
    · exact StepOk.same (h.mono hB1)
    · rename_i hc; exact (step_commit h hl hi hf h5 hne hc).mono hB1
  rw [if_neg h5]; exact StepOk.same (h.mono hB1)
end
end Go.FM

set_option linter.unusedVariables false
set_option linter.unusedSimpArgs false
namespace Go.FM
open Go
section
variable {log:List GView} {n i B:Nat} {m m':MB} {f:GFrame} {st:GState} {p:GProp} {outs:List GOut} {x:Option GInstall}
theorem propose_ok (h:NodeOk log n i B m) (hi:i < n) (hv:p.v ∈ log) (hP:p.v.ID.P = (i:Int)) (hset:p.v.Set < 65536):FrOk log n B (frPropose m.self p.v) :=
  ⟨by show (0:Int) ≤ (m.self:Int)∧(m.self:Int) < n; rw [h.self]; omega,.inr ⟨p.v,hv,rfl⟩,.inl rfl,.inl rfl,fun _ => ⟨hv,by show (m.self:Int) = p.v.ID.P; rw [h.self,hP]⟩,fun k => absurd k (by show (2:Nat) ≠ 5; decide),fun k => absurd k (by show (2:Nat) ≠ 3; decide),⟨fun s hs => absurd hs List.not_mem_nil,Nat.zero_le _⟩,hset⟩
theorem again1_len (m:MB) (p:GProp) (z:Nat):(m.again1 p z).length ≤ 1:=by
  unfold MB.again1
  split
  · exact Nat.zero_le _
  split
  · exact Nat.le_refl _
  split
  · exact Nat.le_refl _
  · exact Nat.zero_le _
theorem flat_len {α β:Type} {f:α → List β} (h:∀ a,(f a).length ≤ 1):∀ (l:List α),(l.flatMap f).length ≤ l.length
  | [] => Nat.le_refl _
  | a::l => by
    rw [List.flatMap_cons,List.length_append,List.length_cons]
    have:=flat_len h l; have:=h a; omega
theorem again_len (h:NodeOk log n i B m) (hl:LogOk n B log):m.again.length ≤ n:=by
  unfold MB.again
  cases hp:m.prop with
  | none => exact Nat.zero_le _
  | some p =>
    simp only []
    split
    · exact Nat.zero_le _
    · exact Nat.le_trans (flat_len (again1_len m p) _) (lst_len (hl.set _ (h.pin p hp).1).2.1)
theorem again_mem {o:GOut} (ho:o ∈ m.again):∃ p z,m.prop = some p∧m.prom = p.v.ID∧has p.v.Set ((z:Nat):Int) = true∧z ≠ m.self∧((p.done = true∧(m.other z).1 ≠ p.v.ID∧o = m.commit p z) ∨ (p.done = false∧has p.who (z:Int) = false∧o = ⟨(z:Int),frPropose m.self p.v⟩)):=by
  unfold MB.again at ho
  cases hp:m.prop with
  | none => rw [hp] at ho; cases ho
  | some p =>
    rw [hp] at ho
    simp only [] at ho
    split at ho
    · cases ho
    · rename_i he
      obtain ⟨z,hz,ho⟩:=List.mem_flatMap.1 ho
      refine ⟨p,z,rfl,Classical.not_not.1 he,has_lst.1 hz,?_⟩
      unfold MB.again1 at ho
      split at ho
      · cases ho
      · rename_i hs
        refine ⟨hs,?_⟩
        split at ho
        · rename_i hd; exact .inl ⟨hd.1,hd.2,List.mem_singleton.1 ho⟩
        split at ho
        · rename_i hd; exact .inr ⟨hd.1,hd.2,List.mem_singleton.1 ho⟩
        · cases ho
theorem again_in {p:GProp} {z:Nat} (hp:m.prop = some p) (he:m.prom = p.v.ID) (hz:has p.v.Set (z:Int) = true) (hs:z ≠ m.self) {o:GOut} (ho:o ∈ m.again1 p z):o ∈ m.again:=by
  unfold MB.again
  rw [hp]
  simp only []
  rw [if_neg (Classical.not_not.2 he)]
  exact List.mem_flatMap.2 ⟨z,has_lst.2 hz,ho⟩
theorem again_ok (h:NodeOk log n i B m) (hl:LogOk n B log) (hi:i < n) (hn:n ≤ 16):∀ o ∈ m.again,(0 ≤ o.To∧o.To < (n:Int))∧FrOk log n B o.F∧o.F.From = (i:Int)∧o.F.Kind ≠ 1∧(o.F.Kind = 3 → VLe o.F.ID m.prom)∧(o.F.Kind = 5 → ∃ p',m.prop = some p'∧p'.done = true∧o.F.ID = p'.v.ID)∧o.F.Kind ≠ 0:=by
  intro o ho
  obtain ⟨p,z,hp,hpr,hz,hzs,hc⟩:=again_mem ho
  obtain ⟨hpin,hpP⟩:=h.pin p hp
  have hset:=(hl.set _ hpin).2.1
  have hzn:=has_lt hset hz
  have hself:=h.self
  rcases hc with ⟨hd,_,rfl⟩ | ⟨hd,hw,rfl⟩
  · exact ⟨by show (0:Int) ≤ (z:Int)∧(z:Int) < n; omega,commit_ok h hi hpin hpP (pow16 hn hset),by show (m.self:Int) = i; rw [hself],by show (5:Nat) ≠ 1; decide,fun k => absurd k (by show (5:Nat) ≠ 3; decide),fun _ => ⟨p,hp,hd,rfl⟩,by show (5:Nat) ≠ 0; decide⟩
  · exact ⟨by show (0:Int) ≤ (z:Int)∧(z:Int) < n; omega,propose_ok h hi hpin hpP (pow16 hn hset),by show (m.self:Int) = i; rw [hself],by show (2:Nat) ≠ 1; decide,fun k => absurd k (by show (2:Nat) ≠ 3; decide),fun k => absurd k (by show (2:Nat) ≠ 5; decide),by show (2:Nat) ≠ 0; decide⟩
theorem est_facts (h:NodeOk log n i B m) (hi:i < n) (hn:n ≤ 16) (e:Nat):has (m.est e) (i:Int) = true∧m.est e < 2 ^ n:=by
  unfold MB.est
  rw [h.n,h.self]
  exact ⟨(has_wth (by omega) i).2 (.inr rfl),wth_pow (mask_lt e) hi⟩
def MB.tlog (m:MB) (e:Nat) (st:GState) (log:List GView):List GView :=
  if least (m.est e) = (m.self:Int)∧m.need (m.est e) = true∧m.under (m.est e) = false then (m.prop1 (m.est e) st).v::log else log
theorem tick_no {e:Nat} (h:¬ (least (m.est e) = (m.self:Int)∧m.need (m.est e) = true∧m.under (m.est e) = false)):m.tick e st = (m,m.again,none):=by
  unfold MB.tick; rw [if_neg h]
theorem wth_zero (i:Nat) (hi:i < 16) (j:Nat):has (wth 0 (i:Int)) (j:Int) = true → j = i:=fun h => by
  rcases (has_wth hi j).1 h with h1 | h1
  · have h2:=(of_decide_eq_true h1).2.2
    rw [Nat.zero_div] at h2
    exact absurd h2 (by decide)
  · exact h1
theorem tick_step (h:NodeOk log n i B m) (hl:LogOk n B log) (hi:i < n) (hn:n ≤ 16) (hB:B < 4611686018427387904) (e:Nat) (hs:st.Floor = 0) :
    LogOk n (B + 1) (m.tlog e st log)∧StepOk (m.tlog e st log) n i (B + 1) m (m.tick e st).1 fr0 (m.tick e st).2.1 (m.tick e st).2.2:=by
  have hB1:=Nat.le_succ B
  unfold MB.tlog
  by_cases hc:least (m.est e) = (m.self:Int)∧m.need (m.est e) = true∧m.under (m.est e) = false
  · rw [if_pos hc]
    obtain ⟨he1,he2⟩:=est_facts h hi hn e
    have hself:=h.self
    generalize hE:m.est e = E at *
    have hhi:=h.highB
    have hph:=h.high
    have hcp:=h.cp.N
    have hv:(m.prop1 E st).v = ⟨⟨m.high + 1,(i:Int)⟩,E⟩:=by
      unfold MB.prop1; rw [Nat.mod_eq_of_lt (show m.high + 1 < 18446744073709551616 by omega),hself]
    have hnew:∀ u ∈ log,u.ID.P = (i:Int) → u.ID.N ≤ m.high:=fun u hu e1 => Nat.le_trans (h.mine u hu e1).N hph
    have hlog:LogOk n (B + 1) ((m.prop1 E st).v::log):=by
      rw [hv]
      refine ⟨fun v hv u hu e1 => ?_,fun v hv => ?_,fun v hv => ?_,fun v hv => ?_⟩
      · rcases List.mem_cons.1 hv with rfl | hv <;> rcases List.mem_cons.1 hu with rfl | hu
        · rfl
        · have h1:=hnew u hu (by rw [← e1]); rw [← e1] at h1; exact absurd h1 (by show ¬ m.high + 1 ≤ m.high; omega)
        · have h1:=hnew v hv (by rw [e1]); rw [e1] at h1; exact absurd h1 (by show ¬ m.high + 1 ≤ m.high; omega)
        · exact hl.uniq v hv u hu e1
      · rcases List.mem_cons.1 hv with rfl | hv
        · exact ⟨Nat.succ_pos _,by show m.high + 1 ≤ B + 1; omega⟩
        · have:=hl.pos v hv; omega
      · rcases List.mem_cons.1 hv with rfl | hv
        · show (0:Int) ≤ (i:Int)∧(i:Int) < n; omega
        · exact hl.p v hv
      · rcases List.mem_cons.1 hv with rfl | hv
        · exact ⟨he1,he2,by show least E = (i:Int); rw [← hself]; exact hc.1⟩
        · exact hl.set v hv
    refine ⟨hlog,?_⟩
    have hmem:(⟨⟨m.high + 1,(i:Int)⟩,E⟩:GView) ∈ (m.prop1 E st).v::log:=by rw [hv]; exact List.mem_cons_self
    have hsub:∀ u ∈ log,u ∈ (m.prop1 E st).v::log:=fun u hu => List.mem_cons_of_mem _ hu
    have hle:VLe m.prom ⟨m.high + 1,(i:Int)⟩:=.inl (by show m.prom.N < m.high + 1; omega)
    have hcne:m.cur.ID ≠ ⟨m.high + 1,(i:Int)⟩:=fun e1 => by rw [e1] at hcp; exact absurd hcp (by show ¬ m.high + 1 ≤ _; omega)
    have hw0:has (wth 0 (i:Int)) (i:Int) = true:=(has_wth (by omega) i).2 (.inr rfl)
    have hwl:wth 0 (i:Int) < 2 ^ n:=wth_pow (Nat.pos_of_ne_zero (by simp)) hi
    have hmine:∀ v ∈ (m.prop1 E st).v::log,v.ID.P = (i:Int) → VLe v.ID ⟨m.high + 1,(i:Int)⟩:=fun v hv' e1 => by
      rcases List.mem_cons.1 hv' with h1 | h1
      · rw [h1,hv]; exact VLe.refl _
      · exact (h.mine v h1 e1).trans hle
    have hmod:(m.high + 1) % 18446744073709551616 = m.high + 1:=Nat.mod_eq_of_lt (by omega)
    have hpr:m.prop1 E st = ⟨⟨⟨m.high + 1,(i:Int)⟩,E⟩,wth 0 (i:Int),[st],false⟩:=by
      unfold MB.prop1; rw [hmod,hself]
    have hoth:∀ j,InLog ((m.prop1 E st).v::log) (m.other j).1∧InLog ((m.prop1 E st).v::log) (m.other j).2∧(m.other j).2.N ≤ m.high + 1:=fun j => ⟨(h.oth j).1.mono hsub,(h.oth j).2.1.mono hsub,by have:=(h.oth j).2.2; omega⟩
    have hjn:(∀ s ∈ m.joined,s.Floor = 0)∧m.joined.length ≤ B + 1:=⟨h.jn.1,Nat.le_trans h.jn.2 hB1⟩
    unfold MB.tick
    rw [hE,if_pos hc]
    unfold MB.ticks MB.agree
    by_cases hw:(m.prop1 E st).who ≠ (m.prop1 E st).v.Set
    · rw [if_pos hw]
      have hno:NodeOk ((m.prop1 E st).v::log) n i (B + 1) { m with high:=(m.high + 1) % 18446744073709551616,prom:=(m.prop1 E st).v.ID,prop:=some (m.prop1 E st) }:=by
        rw [hmod]
        refine ⟨h.n,h.self,h.len,h.cur.imp id (fun k => ⟨hsub _ k.1,k.2⟩),?_,?_,?_,by show m.high + 1 ≤ B + 1; omega,?_,?_,fun q hq hd => ?_,?_,?_,?_,hoth,hjn⟩
        · show VLe m.cur.ID (m.prop1 E st).v.ID; rw [hv]; exact h.cp.trans hle
        · exact .inr ⟨_,List.mem_cons_self,rfl⟩
        · show (m.prop1 E st).v.ID.N ≤ m.high + 1; rw [hv]; exact Nat.le_refl _
        · intro q hq; cases hq; exact ⟨List.mem_cons_self,by rw [hv]⟩
        · intro q hq _; cases hq
          refine ⟨by rw [hv]; exact hcne,hw,by rw [hpr]; exact hwl,by rw [hpr]; exact hw0⟩
        · cases hq; rw [hpr] at hd; cases hd
        · intro q hq; cases hq; rw [hpr]
          exact ⟨fun s hs' => by rw [List.mem_singleton.1 hs']; exact hs,by show 1 ≤ B + 1; omega⟩
        · show ∀ v ∈ (m.prop1 E st).v::log,v.ID.P = (i:Int) → VLe v.ID (m.prop1 E st).v.ID; rw [hv] at hmine ⊢; exact hmine
        · intro e1 _ _
          have e1:m.cur.ID = (m.prop1 E st).v.ID:=e1
          rw [hv] at e1; exact absurd e1 hcne
      refine ⟨hno,VLe.refl _,by show VLe m.prom (m.prop1 E st).v.ID; rw [hv]; exact hle,fun j => .inl rfl,again_ok hno hlog hi hn,again_len hno hlog,fun q hq _ => ?_,?_,fun y hy => (by cases hy),fun _ => rfl⟩
      · cases hq; exact .inr ⟨rfl,by rw [hv]⟩
      intro q hq j hj; cases hq
      refine .inr (.inr ⟨wth_zero i (by omega) j (by rw [hpr] at hj; exact hj),VLe.refl _⟩)
    · rw [if_neg hw]
      have hset:has (m.prop1 E st).v.Set (i:Int) = true:=by rw [hv]; exact he1
      refine ⟨⟨h.n,h.self,h.len,.inr ⟨List.mem_cons_self,hset⟩,VLe.refl _,.inr ⟨_,List.mem_cons_self,rfl⟩,?_,?_,?_,?_,fun q hq _ => ?_,?_,?_,fun _ _ _ => ⟨_,rfl,rfl,rfl⟩,?_,?_⟩,?_,?_,fun j => .inl rfl,fun o ho => absurd ho List.not_mem_nil,Nat.zero_le _,fun q hq hd => ?_,?_,fun y hy => ?_,fun e1 => (by cases e1)⟩
      · show (m.prop1 E st).v.ID.N ≤ (m.high + 1) % 18446744073709551616; rw [hv,hmod]; exact Nat.le_refl _
      · show (m.high + 1) % 18446744073709551616 ≤ B + 1; rw [hmod]; omega
      · intro q hq; cases hq; exact ⟨List.mem_cons_self,by show (m.prop1 E st).v.ID.P = _; rw [hv]⟩
      · intro q hq hd; cases hq; cases hd
      · cases hq; exact Classical.not_not.1 hw
      · intro q hq; cases hq; exact ⟨fun s hs => absurd hs List.not_mem_nil,Nat.zero_le _⟩
      · show ∀ v ∈ (m.prop1 E st).v::log,v.ID.P = (i:Int) → VLe v.ID (m.prop1 E st).v.ID; rw [hv] at hmine ⊢; exact hmine
      · intro j
        have:=hoth j
        exact ⟨this.1,this.2.1,by show (m.other j).2.N ≤ (m.high + 1) % 18446744073709551616; rw [hmod]; exact this.2.2⟩
      · refine ⟨fun s hs' => ?_,Nat.le_trans (joinTo_length _ _) ?_⟩
        · have h1:=joinS_sub hs'
          rw [hpr] at h1
          rw [List.mem_singleton.1 h1]; exact hs
        · rw [hpr]; show 1 ≤ B + 1; omega
      · show VLe m.cur.ID (m.prop1 E st).v.ID; rw [hv]; exact h.cp.trans hle
      · show VLe m.prom (m.prop1 E st).v.ID; rw [hv]; exact hle
      · cases hq; cases hd
      · intro q hq j hj; cases hq
        exact .inr (.inr ⟨wth_zero i (by omega) j (by rw [hpr] at hj; exact hj),VLe.refl _⟩)
      · cases hy
        refine ⟨rfl,?_,List.mem_cons_self,hset,rfl,fun k => absurd ?_ k⟩
        · show (m.prop1 E st).v.ID ≠ m.cur.ID; rw [hv]; exact fun e1 => hcne e1.symm
        · show (m.prop1 E st).v.ID.P = (i:Int); rw [hv]
  · rw [if_neg hc,tick_no hc]
    have h1:=h.mono hB1
    exact ⟨hl.mono hB1,StepOk.of h1 rfl (VLe.refl _) rfl (.inl rfl) (again_ok h1 (hl.mono hB1) hi hn) (again_len h1 (hl.mono hB1))⟩
end
end Go.FM

set_option linter.unusedVariables false
set_option linter.unusedSimpArgs false
namespace Go.FM
open Go
structure ViewsOk (log:List GView) (i:Nat) (cur:GView) (vs:List GView):Prop where
  mem:∀ v ∈ vs,v ∈ log∧has v.Set (i:Int) = true
  le:∀ v ∈ vs,VLe v.ID cur.ID
  last:vs.getLast?.getD ⟨z0,0⟩ = cur
  up:vs.Pairwise (fun a b => VLe a.ID b.ID∧a.ID ≠ b.ID)
structure Inv (B:Nat) (lo:List GView) (g:GG):Prop where
  n1:1 ≤ g.n
  n16:g.n ≤ 16
  len:g.ms.length = g.n
  vlen:g.views.length = g.n
  log:LogOk g.n B lo
  node:∀ i,i < g.n → NodeOk lo g.n i B (g.m i)
  bag:∀ o ∈ g.bag,(0 ≤ o.To∧o.To < (g.n:Int))∧FrOk lo g.n B o.F∧(o.F.Kind = 3 → VLe o.F.ID (g.m o.F.From.toNat).prom)∧(o.F.Kind = 1 → VLe o.F.Cur (g.m o.F.From.toNat).cur.ID∧VLe o.F.Prom (g.m o.F.From.toNat).prom)
  who:∀ i j:Nat,i < g.n → j < g.n → ∀ p,(g.m i).prop = some p → has p.who (j:Int) = true → VLe p.v.ID (g.m j).prom
  oth:∀ i j:Nat,i < g.n → j < g.n → VLe ((g.m i).other j).1 (g.m j).cur.ID∧VLe ((g.m i).other j).2 (g.m j).prom
  views:∀ i,i < g.n → ViewsOk lo i (g.m i).cur (g.views.getD i [])
  und:∀ i j:Nat,i < g.n → j < g.n → ∀ p,(g.m i).prop = some p → p.done = false → (g.m j).cur.ID ≠ p.v.ID
  kind:∀ o ∈ g.bag,o.F.Kind ≠ 0
  undc:∀ i:Nat,i < g.n → ∀ p,(g.m i).prop = some p → p.done = false → ∀ o ∈ g.bag,o.F.Kind = 5 → o.F.ID ≠ p.v.ID
  vl:∀ i,(g.views.getD i []).length ≤ B
section
variable {B n i j:Nat} {log log':List GView} {g g':GG} {m m':MB} {f:GFrame} {outs:List GOut} {x:Option GInstall} {o:GOut}
theorem ViewsOk.mono {cur:GView} {vs:List GView} (h:ViewsOk log i cur vs) (hl:∀ v ∈ log,v ∈ log'):ViewsOk log' i cur vs :=
  ⟨fun v hv => ⟨hl v (h.mem v hv).1,(h.mem v hv).2⟩,h.le,h.last,h.up⟩
theorem ViewsOk.snoc {cur v:GView} {vs:List GView} (h:ViewsOk log i cur vs) (h1:v ∈ log) (h2:has v.Set (i:Int) = true) (h3:VLe cur.ID v.ID) (h4:v.ID ≠ cur.ID):ViewsOk log i v (vs ++ [v]):=by
  refine ⟨fun u hu => ?_,fun u hu => ?_,by simp,?_⟩
  · rcases List.mem_append.1 hu with h5 | h5
    · exact h.mem u h5
    · rw [List.mem_singleton.1 h5]; exact ⟨h1,h2⟩
  · rcases List.mem_append.1 hu with h5 | h5
    · exact (h.le u h5).trans h3
    · rw [List.mem_singleton.1 h5]; exact VLe.refl _
  · refine List.pairwise_append.2 ⟨h.up,List.pairwise_singleton _ _,fun a ha b hb => ?_⟩
    rw [List.mem_singleton.1 hb]
    exact ⟨(h.le a ha).trans h3,fun e => h4 ((h3.antisymm (by rw [← e]; exact h.le a ha)).symm)⟩
theorem getD_set_list {α:Type} {l:List (List α)} {a:List α} (hi:i < l.length) (j:Nat):(l.set i a).getD j [] = if j = i then a else l.getD j []:=by
  rw [List.getD_eq_getElem?_getD,List.getElem?_set,List.getD_eq_getElem?_getD]
  by_cases e:i = j
  · subst e; rw [if_pos rfl,if_pos hi,if_pos rfl]; rfl
  · rw [if_neg e,if_neg (fun h => e h.symm)]
theorem Inv.step (h:Inv B log g) (hi:i < g.n) (hl:LogOk g.n (B + 1) log') (hsub:log' = log ∨ ∃ v:GView,v.ID.P = (i:Int)∧log' = v::log) (hs:StepOk log' g.n i (B + 1) (g.m i) m' f outs x)
    (hf1:f.Kind = 1 → VLe f.Cur (g.m f.From.toNat).cur.ID∧VLe f.Prom (g.m f.From.toNat).prom) (hf3:f.Kind = 3 → VLe f.ID (g.m f.From.toNat).prom)
    (hf5:f.Kind = 5 → ∀ a,a < g.n → ∀ p,(g.m a).prop = some p → p.done = false → f.ID ≠ p.v.ID) (hf0:f.Kind = 0 → ∀ v ∈ log,v.ID.N = (g.m i).high + 1 → v.ID.P ≠ (i:Int)):Inv (B + 1) log' ((g.put i m').post i outs x):=by
  have hB:=Nat.le_succ B
  have hm:∀ j,((g.put i m').post i outs x).m j = if j = i then m' else g.m j:=fun j => put_m (by rw [h.len]; exact hi) j
  have hsu:∀ v ∈ log,v ∈ log':=fun v hv => by
    rcases hsub with rfl | ⟨u,_,rfl⟩
    · exact hv
    · exact List.mem_cons_of_mem _ hv
  have hup:∀ j,VLe (g.m j).cur.ID (((g.put i m').post i outs x).m j).cur.ID∧VLe (g.m j).prom (((g.put i m').post i outs x).m j).prom:=fun j => by
    rw [hm]
    split
    · rename_i e; rw [e]; exact ⟨hs.cur,hs.prom⟩
    · exact ⟨VLe.refl _,VLe.refl _⟩
  have hvl:(vpost g.views i x).length = g.n:=by
    cases x with
    | none => exact h.vlen
    | some y => show (g.views.set i _).length = _; rw [List.length_set]; exact h.vlen
  refine ⟨h.n1,h.n16,by show (g.ms.set i m').length = _; rw [List.length_set]; exact h.len,hvl,hl,fun j hj => ?_,fun o ho => ?_,fun a b ha hb p hp hw => ?_,fun a b ha hb => ?_,fun j hj => ?_,fun a b ha hb p hp hd => ?_,fun o ho => ?_,fun a ha p hp hd o ho hk => ?_,fun a => ?_⟩
  · rw [hm]
    split
    · rename_i e; rw [e]; exact hs.node
    · rename_i e
      have h1:=(h.node j hj).mono hB
      rcases hsub with rfl | ⟨u,hu,rfl⟩
      · exact h1
      · exact h1.more (by rw [hu]; intro e2; exact e (by omega))
  · rcases List.mem_append.1 ho with h1 | h1
    · obtain ⟨h2,h3,h4,h5⟩:=h.bag o h1
      exact ⟨h2,h3.mono hsu hB,fun k => (h4 k).trans (hup _).2,fun k => ⟨(h5 k).1.trans (hup _).1,(h5 k).2.trans (hup _).2⟩⟩
    · obtain ⟨h2,h3,h4,h5',h6,_,_⟩:=hs.outs o h1
      refine ⟨h2,h3,fun k => ?_,fun k => absurd k h5'⟩
      rw [hm,h4,Int.toNat_natCast,if_pos rfl]; exact h6 k
  · rw [hm] at hp
    split at hp
    · rename_i e
      rcases hs.who p hp b hw with ⟨p0,h1,h2,h3⟩ | ⟨h1,h2,h3⟩ | ⟨h1,h2⟩
      · refine VLe.trans ?_ (hup b).2
        rw [← h2]; exact h.who i b hi hb p0 h1 h3
      · refine VLe.trans ?_ (hup b).2
        have:=hf3 h1
        rw [← h3]; rw [h2,Int.toNat_natCast] at this; exact this
      · rw [hm,if_pos h1]; exact h2
    · exact (h.who a b ha hb p hp hw).trans (hup b).2
  · have h0:=hup b
    have key:VLe ((((g.put i m').post i outs x).m a).other b).1 (g.m b).cur.ID∧VLe ((((g.put i m').post i outs x).m a).other b).2 (g.m b).prom:=by
      rw [hm]
      split
      · rename_i e
        rcases hs.oth b with h1 | ⟨h1,h2,h3⟩
        · rw [h1]; exact h.oth i b hi hb
        · rw [h3]
          have:=hf1 h1
          rw [h2,Int.toNat_natCast] at this; exact this
      · exact h.oth a b ha hb
    exact ⟨key.1.trans h0.1,key.2.trans h0.2⟩
  · show ViewsOk log' j (((g.put i m').post i outs x).m j).cur ((vpost g.views i x).getD j [])
    rw [hm]
    cases x with
    | none =>
      show ViewsOk log' j _ (g.views.getD j [])
      split
      · rename_i e; rw [hs.noin rfl,e]; exact (h.views i hi).mono hsu
      · exact (h.views j hj).mono hsu
    | some y =>
      obtain ⟨h1,h2,h3,h4,_⟩:=hs.inst y rfl
      show ViewsOk log' j _ ((g.views.set i (g.views.getD i [] ++ [y.View])).getD j [])
      rw [getD_set_list (by rw [h.vlen]; exact hi)]
      split
      · rename_i e
        rw [e,h1]
        exact ((h.views i hi).mono hsu).snoc h3 h4 hs.cur h2
      · exact (h.views j hj).mono hsu
  · 
    have hfresh:∀ u:GView,u ∈ log → ∀ q,m'.prop = some q → f.Kind = 0 → q.v.ID.N = (g.m i).high + 1 → u.ID ≠ q.v.ID:=fun u hu q hq hk0 hN e => by
      exact hf0 hk0 u hu (by rw [e]; exact hN) (by rw [e]; exact (hs.node.pin q hq).2)
    rw [hm] at hp ⊢
    by_cases ea:a = i
    · rw [if_pos ea] at hp
      have hPi:=(hs.node.pin p hp).2
      by_cases eb:b = i
      · rw [if_pos eb]; exact (hs.node.pno p hp hd).1
      · rw [if_neg eb]
        rcases hs.und p hp hd with ⟨p0,h1,h2,h3⟩ | ⟨h1,h2⟩
        · rw [← h2]; exact h.und i b hi hb p0 h1 h3
        · rcases (h.node b hb).cur with e | e
          · rw [e]; intro e2; rw [← e2] at h2; exact absurd h2 (by show ¬ 0 = _ + 1; omega)
          · exact hfresh _ e.1 p hp h1 h2
    · rw [if_neg ea] at hp
      by_cases eb:b = i
      · rw [if_pos eb]
        cases x with
        | none => rw [hs.noin rfl]; exact h.und a i ha hi p hp hd
        | some y =>
          obtain ⟨_,_,_,_,_,h6⟩:=hs.inst y rfl
          by_cases e:m'.cur.ID.P = (i:Int)
          · intro e2
            rw [e2,((h.node a ha).pin p hp).2] at e
            exact ea (by omega)
          · obtain ⟨_,h7,h8⟩:=h6 e
            rw [← h8]; exact hf5 h7 a ha p hp hd
      · rw [if_neg eb]; exact h.und a b ha hb p hp hd
  · rcases List.mem_append.1 ho with h1 | h1
    · exact h.kind o h1
    · exact (hs.outs o h1).2.2.2.2.2.2
  · rw [hm] at hp
    rcases List.mem_append.1 ho with h1 | h1
    · by_cases ea:a = i
      · rw [if_pos ea] at hp
        rcases hs.und p hp hd with ⟨p0,h2,h3,h4⟩ | ⟨h2,h3⟩
        · rw [← h3]; exact h.undc i hi p0 h2 h4 o h1 hk
        · intro e
          have h5:=((h.bag o h1).2.1.com hk).1
          exact hf0 h2 ⟨o.F.ID,o.F.Set⟩ h5 (by show o.F.ID.N = _; rw [e]; exact h3) (by show o.F.ID.P = _; rw [e]; exact (hs.node.pin p hp).2)
      · rw [if_neg ea] at hp
        exact h.undc a ha p hp hd o h1 hk
    · obtain ⟨_,_,_,_,_,h7,_⟩:=hs.outs o h1
      obtain ⟨q,h8,h9,h10⟩:=h7 hk
      by_cases ea:a = i
      · rw [if_pos ea,h8] at hp
        cases hp
        rw [h9] at hd; cases hd
      · rw [if_neg ea] at hp
        rw [h10]
        intro e
        have e1:=(hs.node.pin q h8).2
        rw [e,((h.node a ha).pin p hp).2] at e1
        exact ea (by omega)
  · show ((vpost g.views i x).getD a []).length ≤ B + 1
    have h1:=h.vl a
    have h2:=h.vl i
    cases x with
    | none => exact Nat.le_succ_of_le h1
    | some y =>
      show ((g.views.set i _).getD a []).length ≤ B + 1
      rw [getD_set_list (by rw [h.vlen]; exact hi)]
      split
      · rw [List.length_append,List.length_singleton]; omega
      · omega
theorem tlog_sub {e:Nat} {st:GState} (h:NodeOk log n i B m) (hB:B < 4611686018427387904):m.tlog e st log = log ∨ ∃ v:GView,v.ID.P = (i:Int)∧m.tlog e st log = v::log:=by
  unfold MB.tlog
  split
  · exact .inr ⟨_,by show ((m.self:Nat):Int) = i; rw [h.self],rfl⟩
  · exact .inl rfl
theorem Inv.tick (h:Inv B log g) (hi:i < g.n) (hB:B < 4611686018427387904) (e:Nat):Inv (B + 1) ((g.m i).tlog e (stOf (g.m i)) log) (g.tickAt i e):=by
  have h1:=tick_step (h.node i hi) h.log hi h.n16 hB e (st:=stOf (g.m i)) rfl
  exact h.step (f:=fr0) hi h1.1 (tlog_sub (h.node i hi) hB) h1.2 (fun k => absurd k (by show (0:Nat) ≠ 1; decide)) (fun k => absurd k (by show (0:Nat) ≠ 3; decide)) (fun k => absurd k (by show (0:Nat) ≠ 5; decide))
    (fun _ v hv hN hP => by have h2:=((h.node i hi).mine v hv hP).N; have h3:=(h.node i hi).high; omega)
theorem Inv.inn (h:Inv B log g) (hB:1 ≤ B) (ho:(0 ≤ o.To∧o.To < (g.n:Int))∧FrOk log g.n B o.F∧(o.F.Kind = 3 → VLe o.F.ID (g.m o.F.From.toNat).prom)∧(o.F.Kind = 1 → VLe o.F.Cur (g.m o.F.From.toNat).cur.ID∧VLe o.F.Prom (g.m o.F.From.toNat).prom)) (h5:o.F.Kind = 5 → ∀ a,a < g.n → ∀ p,(g.m a).prop = some p → p.done = false → o.F.ID ≠ p.v.ID) (h0:o.F.Kind ≠ 0):Inv (B + 1) log (g.inAt o):=by
  obtain ⟨h1,h2,h3,h4⟩:=ho
  have hi:o.To.toNat < g.n:=by omega
  exact h.step hi (h.log.mono (Nat.le_succ B)) (.inl rfl) (inn_step (h.node _ hi) h.log hi h.n16 h2 hB rfl) h4 h3 h5 (fun k => absurd k h0)
theorem Inv.mono {B':Nat} (h:Inv B log g) (hb:B ≤ B'):Inv B' log g :=
  ⟨h.n1,h.n16,h.len,h.vlen,h.log.mono hb,fun i hi => (h.node i hi).mono hb,fun o ho => ⟨(h.bag o ho).1,(h.bag o ho).2.1.mono (fun _ hv => hv) hb,(h.bag o ho).2.2⟩,h.who,h.oth,h.views,h.und,h.kind,h.undc,fun i => Nat.le_trans (h.vl i) hb⟩
theorem Inv.bagSub (h:Inv B log g) {bag:List GOut} (hb:∀ o ∈ bag,o ∈ g.bag):Inv B log ⟨g.n,g.ms,bag,g.views⟩ :=
  ⟨h.n1,h.n16,h.len,h.vlen,h.log,h.node,fun o ho => h.bag o (hb o ho),h.who,h.oth,h.views,h.und,fun o ho => h.kind o (hb o ho),fun i hi p hp hd o ho => h.undc i hi p hp hd o (hb o ho),h.vl⟩
theorem Inv.without (h:Inv B log g) (k:Nat):Inv B log (g.without k):=h.bagSub fun o ho => List.mem_of_mem_eraseIdx ho
theorem beatsTo_mem {k:Nat} (ho:o ∈ g.beatsTo i k):∃ j:Nat,j < k∧j ≠ i∧o = ⟨(j:Int),frBeat i (g.m i)⟩:=by
  obtain ⟨j,hj,rfl⟩:=List.mem_map.1 ho
  obtain ⟨h1,h2⟩:=List.mem_filter.1 hj
  exact ⟨j,List.mem_range.1 h1,of_decide_eq_true h2,rfl⟩
theorem NodeOk.curIn (h:NodeOk log n i B m):InLog log m.cur.ID:=by
  rcases h.cur with e | e
  · exact .inl (by rw [e])
  · exact .inr ⟨_,e.1,rfl⟩
theorem Inv.beat (h:Inv B log g) (hi:i < g.n):Inv B log (g.beatAt i):=by
  refine ⟨h.n1,h.n16,h.len,h.vlen,h.log,h.node,fun o ho => ?_,h.who,h.oth,h.views,h.und,fun o ho => ?_,fun a ha p hp hd o ho hk => ?_,h.vl⟩
  rotate_left
  · rcases List.mem_append.1 ho with h1 | h1
    · exact h.kind o h1
    · obtain ⟨j,_,_,rfl⟩:=beatsTo_mem h1
      show (1:Nat) ≠ 0; decide
  · rcases List.mem_append.1 ho with h1 | h1
    · exact h.undc a ha p hp hd o h1 hk
    · obtain ⟨j,_,_,rfl⟩:=beatsTo_mem h1
      exact absurd hk (by show (1:Nat) ≠ 5; decide)
  rcases List.mem_append.1 ho with h1 | h1
  · exact h.bag o h1
  · obtain ⟨j,hj,hji,rfl⟩:=beatsTo_mem h1
    have hn:=h.node i hi
    refine ⟨by show (0:Int) ≤ (j:Int)∧(j:Int) < g.n; omega,⟨by show (0:Int) ≤ (i:Int)∧(i:Int) < g.n; omega,.inl rfl,hn.curIn,hn.prom,fun k => absurd k (by show (1:Nat) ≠ 2; decide),fun k => absurd k (by show (1:Nat) ≠ 5; decide),fun k => absurd k (by show (1:Nat) ≠ 3; decide),⟨fun s hs => absurd hs List.not_mem_nil,Nat.zero_le _⟩,by show (0:Nat) < 65536; decide⟩,fun k => absurd k (by show (1:Nat) ≠ 3; decide),fun _ => ?_⟩
    show VLe (g.m i).cur.ID (g.m ((i:Nat):Int).toNat).cur.ID∧VLe (g.m i).prom (g.m ((i:Nat):Int).toNat).prom
    rw [Int.toNat_natCast]; exact ⟨VLe.refl _,VLe.refl _⟩
theorem Inv.comes (h:Inv B log g) (hB:1 ≤ B) (k:Nat) (keep hand:Bool):Inv (B + 1) log (g.comes k keep hand):=by
  unfold GG.comes
  split
  · exact h.mono (Nat.le_succ B)
  · rename_i hne
    have hlt:k % g.bag.length < g.bag.length:=Nat.mod_lt _ (List.length_pos_iff.2 hne)
    have hmem:g.bag.getD (k % g.bag.length) o00 ∈ g.bag:=by
      rw [List.getD_eq_getElem?_getD,List.getElem?_eq_getElem hlt]; exact List.getElem_mem hlt
    have ho:=h.bag _ hmem
    have hk0:=h.kind _ hmem
    have h5:(g.bag.getD (k % g.bag.length) o00).F.Kind = 5 → ∀ a,a < g.n → ∀ p,(g.m a).prop = some p → p.done = false → (g.bag.getD (k % g.bag.length) o00).F.ID ≠ p.v.ID:=fun hk a ha p hp hd => h.undc a ha p hp hd _ hmem hk
    cases keep <;> cases hand
    · exact (h.without _).mono (Nat.le_succ B)
    · exact (h.without _).inn hB ho h5 hk0
    · exact h.mono (Nat.le_succ B)
    · exact h.inn hB ho h5 hk0
theorem move_inv (h:Inv B log g) (hB:1 ≤ B) (hB2:B < 4611686018427387904) (a:GMove):∃ log',Inv (B + 1) log' (g.move a):=by
  have hn:=h.n1
  have hi:a.I % g.n < g.n:=Nat.mod_lt _ (by omega)
  unfold GG.move
  split
  · exact ⟨_,h.tick hi hB2 _⟩
  split
  · exact ⟨_,h.comes hB _ _ _⟩
  · exact ⟨_,(h.beat hi).mono (Nat.le_succ B)⟩
theorem begin_inv (h1:1 ≤ n) (h2:n ≤ 16):Inv 1 [] (GG.begin_ n):=by
  have hm:∀ i,i < n → (GG.begin_ n).m i = MB.new n i:=fun i hi => begin_m hi
  refine ⟨h1,h2,by unfold GG.begin_; simp,by unfold GG.begin_; simp,⟨fun v hv => absurd hv List.not_mem_nil,fun v hv => absurd hv List.not_mem_nil,fun v hv => absurd hv List.not_mem_nil,fun v hv => absurd hv List.not_mem_nil⟩,fun i hi => ?_,fun o ho => absurd ho List.not_mem_nil,fun i j hi hj p hp _ => ?_,fun i j hi hj => ?_,fun i hi => ?_,fun i j hi hj p hp => ?_,fun o ho => absurd ho List.not_mem_nil,fun i hi p hp hd o ho => absurd ho List.not_mem_nil,fun i => ?_⟩
  · have hi:i < n:=hi
    rw [hm i hi]
    refine ⟨rfl,rfl,rfl,.inl rfl,VLe.refl _,.inl rfl,Nat.le_refl _,Nat.zero_le _,fun p hp => (by cases hp),fun p hp => (by cases hp),fun p hp => (by cases hp),fun p hp => (by cases hp),fun v hv => absurd hv List.not_mem_nil,fun _ _ e => absurd e (by show ¬ 0 < 0; decide),fun j => ?_,⟨fun s hs => absurd hs List.not_mem_nil,Nat.zero_le _⟩⟩
    have:(MB.new n i).other j = (z0,z0):=by
      unfold MB.other MB.new
      show (List.replicate 16 (z0,z0)).getD j (z0,z0) = _
      rw [List.getD_eq_getElem?_getD,List.getElem?_replicate]; split <;> rfl
    rw [this]
    exact ⟨.inl rfl,.inl rfl,Nat.le_refl _⟩
  · rw [hm i hi] at hp; cases hp
  · have hi:i < n:=hi
    have hj:j < n:=hj
    rw [hm i hi,hm j hj]
    have:(MB.new n i).other j = (z0,z0):=by
      unfold MB.other MB.new
      show (List.replicate 16 (z0,z0)).getD j (z0,z0) = _
      rw [List.getD_eq_getElem?_getD,List.getElem?_replicate]; split <;> rfl
    rw [this]; exact ⟨VLe.refl _,VLe.refl _⟩
  · have hi:i < n:=hi
    rw [hm i hi]
    have:(GG.begin_ n).views.getD i [] = []:=by
      show (List.replicate n []).getD i [] = _
      rw [List.getD_eq_getElem?_getD,List.getElem?_replicate]; split <;> rfl
    rw [this]
    exact ⟨fun v hv => absurd hv List.not_mem_nil,fun v hv => absurd hv List.not_mem_nil,rfl,List.Pairwise.nil⟩
  · rw [hm i hi] at hp; cases hp
  · show ((List.replicate n ([]:List GView)).getD i []).length ≤ 1
    rw [List.getD_eq_getElem?_getD,List.getElem?_replicate]; split <;> exact Nat.zero_le _
def AccAt (g g':GG) (k:Nat):Prop:=VLe (g.m k).prom (g'.m k).prom∧(g'.views.getD k [] = g.views.getD k [] ∨ ∃ v,g'.views.getD k [] = g.views.getD k [] ++ [v]∧v.ID = (g'.m k).prom∧(g'.m k).opn = true∧(v.ID.P ≠ (k:Int) → v.ID = (g.m k).prom))
theorem AccAt.same {k:Nat}:AccAt g g k:=⟨VLe.refl _,.inl rfl⟩
theorem acc_step (h:Inv B log g) (hi:i < g.n) (hl:LogOk g.n (B + 1) log') (hs:StepOk log' g.n i (B + 1) (g.m i) m' f outs x) (k:Nat) (hk:k < g.n):AccAt g ((g.put i m').post i outs x) k:=by
  have hm:∀ j,((g.put i m').post i outs x).m j = if j = i then m' else g.m j:=fun j => put_m (by rw [h.len]; exact hi) j
  unfold AccAt
  rw [hm]
  by_cases e:k = i
  · rw [if_pos e]
    subst e
    refine ⟨hs.prom,?_⟩
    cases x with
    | none => exact .inl rfl
    | some y =>
      obtain ⟨h1,h2,h3,h4,h5,h6⟩:=hs.inst y rfl
      refine .inr ⟨y.View,?_,by rw [h1]; exact h5,?_,by rw [h1]; exact fun k => (h6 k).1⟩
      · show (g.views.set k _).getD k [] = _
        rw [getD_set_list (by rw [h.vlen]; exact hk),if_pos rfl]; rfl
      · unfold MB.opn
        rw [decide_eq_true (hl.pos _ h3).1,decide_eq_true h5]; rfl
  · rw [if_neg e]
    refine ⟨VLe.refl _,.inl ?_⟩
    cases x with
    | none => rfl
    | some y =>
      show (g.views.set i _).getD k [] = _
      rw [getD_set_list (by rw [h.vlen]; exact hi),if_neg e]
theorem move_acc (h:Inv B log g) (hB:1 ≤ B) (hB2:B < 4611686018427387904) (a:GMove) (k:Nat) (hk:k < g.n):AccAt g (g.move a) k:=by
  have hn:=h.n1
  have hi:a.I % g.n < g.n:=Nat.mod_lt _ (by omega)
  have hinn:∀ {g:GG},Inv B log g → k < g.n → ∀ {o:GOut},(0 ≤ o.To∧o.To < (g.n:Int))∧FrOk log g.n B o.F → AccAt g (g.inAt o) k:=fun {g} h hk {o} ho => by
    have hi:o.To.toNat < g.n:=by omega
    exact acc_step h hi (h.log.mono (Nat.le_succ B)) (inn_step (h.node _ hi) h.log hi h.n16 ho.2 hB rfl) k hk
  unfold GG.move
  split
  · have h1:=tick_step (h.node _ hi) h.log hi h.n16 hB2 a.Est (st:=stOf (g.m (a.I % g.n))) rfl
    exact acc_step h hi h1.1 h1.2 k hk
  split
  · unfold GG.comes
    split
    · exact AccAt.same
    · rename_i hne
      have hlt:a.Est % g.bag.length < g.bag.length:=Nat.mod_lt _ (List.length_pos_iff.2 hne)
      have hmem:g.bag.getD (a.Est % g.bag.length) o00 ∈ g.bag:=by
        rw [List.getD_eq_getElem?_getD,List.getElem?_eq_getElem hlt]; exact List.getElem_mem hlt
      have ho:=h.bag _ hmem
      cases a.Keep <;> cases decide (a.Kind % 9 < 7)
      · exact AccAt.same
      · exact hinn (h.without _) hk ⟨ho.1,ho.2.1⟩
      · exact AccAt.same
      · exact hinn h hk ⟨ho.1,ho.2.1⟩
  · exact AccAt.same
end
end Go.FM

set_option linter.unusedVariables false
set_option linter.unusedSimpArgs false
namespace Go.FM
open Go
section
variable {B n i j:Nat} {log log':List GView} {g g':GG} {m m':MB} {f:GFrame} {o:GOut} {p:GProp} {T:GView} {st:GState} {x v:GViewID}
theorem all_has (hi:i < n) (hn:n ≤ 16):has (2 ^ n - 1) (i:Int) = true :=
  decide_eq_true ⟨by omega,by omega,by rw [Int.toNat_natCast,← testBit_iff,Nat.testBit_two_pow_sub_one]; exact decide_eq_true hi⟩
theorem all_least:∀ n,n < 17 → 1 ≤ n → least (2 ^ n - 1) = 0:=by decide
theorem est_all (h:NodeOk log n i B m) (hi:i < n) (hn:n ≤ 16):m.est (2 ^ n - 1) = 2 ^ n - 1:=by
  unfold MB.est; rw [h.n,h.self,Nat.and_self]; exact (wth_has (all_has hi hn)).symm
theorem in_le (hx:InLog log x) (top:∀ u ∈ log,VLe u.ID v) (h0:0 < v.N):VLe x v:=by
  rcases hx with rfl | ⟨u,h1,rfl⟩
  · exact .inl h0
  · exact top u h1
theorem ahead_f (h:m.ahead (2 ^ n - 1) v = false) (hn:n ≤ 16) (hj:j < n) (hs:j ≠ m.self):VLe (m.other j).2 v:=by
  unfold MB.ahead at h
  have h1:=List.any_eq_false.1 h j (has_lst.2 (all_has hj hn))
  rw [Bool.and_eq_true,not_and] at h1
  exact above_f.1 (by simpa using h1 (decide_eq_true hs))
theorem ahead_of (h:∀ j,j < n → j ≠ m.self → VLe (m.other j).2 v):m.ahead (2 ^ n - 1) v = false:=by
  unfold MB.ahead
  refine List.any_eq_false.2 fun j hj => ?_
  have h1:=has_lt (n:=n) (Nat.sub_lt (Nat.pos_of_ne_zero (by simp)) (by decide)) (has_lst.1 hj)
  rw [Bool.and_eq_true,not_and]
  intro h2
  have:=h j h1 (of_decide_eq_true h2)
  rw [above_f.2 this]; decide
def Sj (T:GView) (p:GProp) (g:GG) (j:Nat):Prop :=
  (g.m j).cur.ID = T.ID ∨ ((g.m j).prom = T.ID∧p.done = true∧∃ o ∈ g.bag,o.To = (j:Int)∧o.F.Kind = 5∧o.F.ID = T.ID) ∨
  (p.done = false∧((has p.who (j:Int) = true∧(g.m j).prom = T.ID) ∨ ((g.m j).prom = T.ID∧∃ o ∈ g.bag,o.To = 0∧o.F.Kind = 3∧o.F.ID = T.ID∧o.F.From = (j:Int)) ∨ ∃ o ∈ g.bag,o.To = (j:Int)∧o.F.Kind = 2∧o.F.ID = T.ID))
structure Tgt (log:List GView) (T:GView) (p:GProp) (g:GG):Prop where
  tin:T ∈ log
  set:T.Set = 2 ^ g.n - 1
  tp:T.ID.P = 0
  top:∀ v ∈ log,VLe v.ID T.ID
  prom0:(g.m 0).prom = T.ID
  prop:(g.m 0).prop = some p
  pv:p.v = T
  pd:p.done = true → (g.m 0).cur = T
  sj:∀ j,j ≠ 0 → j < g.n → Sj T p g j
theorem who_T (h:Inv B log g) (top:∀ u ∈ log,VLe u.ID T.ID) (hT:0 < T.ID.N) (h0:0 < g.n) (hp:(g.m 0).prop = some p) (hv:p.v = T) (hj:j < g.n) (hw:has p.who (j:Int) = true):(g.m j).prom = T.ID:=by
  have h1:=h.who 0 j h0 hj p hp hw
  rw [hv] at h1
  exact (in_le (h.node j hj).prom top hT).antisymm h1
theorem tick_m (h:Inv B log g) (hi:i < g.n) (e:Nat) (j:Nat):(g.tickAt i e).m j = if j = i then ((g.m i).tick e (stOf (g.m i))).1 else g.m j:=put_m (by rw [h.len]; exact hi) j
theorem again_p (hp:m.prop = some p) (he:m.prom = p.v.ID) (hj:has p.v.Set (j:Int) = true) (hs:j ≠ m.self) (hd:p.done = false) (hw:has p.who (j:Int) = false):(⟨(j:Int),frPropose m.self p.v⟩:GOut) ∈ m.again:=by
  refine again_in hp he hj hs ?_
  unfold MB.again1
  rw [if_neg hs,if_neg (fun k => by rw [hd] at k; exact absurd k.1 (by decide)),if_pos ⟨hd,hw⟩]
  exact List.mem_singleton.2 rfl
theorem again_c (hp:m.prop = some p) (he:m.prom = p.v.ID) (hj:has p.v.Set (j:Int) = true) (hs:j ≠ m.self) (hd:p.done = true) (hw:(m.other j).1 ≠ p.v.ID):m.commit p j ∈ m.again:=by
  refine again_in hp he hj hs ?_
  unfold MB.again1
  rw [if_neg hs,if_pos ⟨hd,hw⟩]
  exact List.mem_singleton.2 rfl
theorem tgt_tick0 (h:Inv B log g) (hB:B < 4611686018427387904) (hK:∀ v ∈ log,v.ID.P ≠ 0 → VLe v.ID ((g.m 0).other v.ID.P.toNat).2) :
    ∃ T p,Tgt ((g.m 0).tlog (2 ^ g.n - 1) (stOf (g.m 0)) log) T p (g.tickAt 0 (2 ^ g.n - 1)):=by
  have hn0:0 < g.n:=h.n1
  have hn16:=h.n16
  have hno:=h.node 0 hn0
  have hself:=hno.self
  have he:=est_all hno hn0 hn16
  have hle:=all_least g.n (by omega) h.n1
  have htk:=tick_m h hn0 (2 ^ g.n - 1)
  have hhi:=hno.highB
  by_cases hc:least ((g.m 0).est (2 ^ g.n - 1)) = ((g.m 0).self:Int)∧(g.m 0).need ((g.m 0).est (2 ^ g.n - 1)) = true∧(g.m 0).under ((g.m 0).est (2 ^ g.n - 1)) = false
  · have hlog:(g.m 0).tlog (2 ^ g.n - 1) (stOf (g.m 0)) log = ((g.m 0).prop1 (2 ^ g.n - 1) (stOf (g.m 0))).v::log:=by
      unfold MB.tlog; rw [if_pos hc,he]
    have hpr:(g.m 0).prop1 (2 ^ g.n - 1) (stOf (g.m 0)) = ⟨⟨⟨(g.m 0).high + 1,0⟩,2 ^ g.n - 1⟩,wth 0 0,[stOf (g.m 0)],false⟩:=by
      unfold MB.prop1; rw [Nat.mod_eq_of_lt (show (g.m 0).high + 1 < 18446744073709551616 by omega),hself]; rfl
    rw [hlog,hpr]
    have htop:∀ v ∈ (⟨⟨(g.m 0).high + 1,0⟩,2 ^ g.n - 1⟩:GView)::log,VLe v.ID ⟨(g.m 0).high + 1,0⟩:=fun v hv => by
      rcases List.mem_cons.1 hv with rfl | hv
      · exact VLe.refl _
      · refine .inl ?_
        show v.ID.N < (g.m 0).high + 1
        by_cases hP:v.ID.P = 0
        · have h1:=(hno.mine v hv hP).N
          have h2:=hno.high
          omega
        · have h1:=(hK v hv hP).N
          have h2:=(hno.oth v.ID.P.toNat).2.2
          omega
    have htick:(g.m 0).tick (2 ^ g.n - 1) (stOf (g.m 0)) = (match (g.m 0).ticks (2 ^ g.n - 1) (stOf (g.m 0)) with | (m',some i) => (m',[],some i) | (m',none) => (m',m'.again,none)):=by
      unfold MB.tick; rw [he] at hc ⊢; exact if_pos hc
    by_cases hw:wth 0 0 ≠ 2 ^ g.n - 1
    · have hts:(g.m 0).tick (2 ^ g.n - 1) (stOf (g.m 0)) = ({ g.m 0 with high:=(g.m 0).high + 1,prom:=⟨(g.m 0).high + 1,0⟩,prop:=some ⟨⟨⟨(g.m 0).high + 1,0⟩,2 ^ g.n - 1⟩,wth 0 0,[stOf (g.m 0)],false⟩ },MB.again { g.m 0 with high:=(g.m 0).high + 1,prom:=⟨(g.m 0).high + 1,0⟩,prop:=some ⟨⟨⟨(g.m 0).high + 1,0⟩,2 ^ g.n - 1⟩,wth 0 0,[stOf (g.m 0)],false⟩ },none):=by
        rw [htick]
        unfold MB.ticks MB.agree
        rw [hpr,if_pos hw,Nat.mod_eq_of_lt (show (g.m 0).high + 1 < 18446744073709551616 by omega)]
      have hm0:(g.tickAt 0 (2 ^ g.n - 1)).m 0 = { g.m 0 with high:=(g.m 0).high + 1,prom:=⟨(g.m 0).high + 1,0⟩,prop:=some ⟨⟨⟨(g.m 0).high + 1,0⟩,2 ^ g.n - 1⟩,wth 0 0,[stOf (g.m 0)],false⟩ }:=by
        rw [htk,if_pos rfl,hts]
      refine ⟨⟨⟨(g.m 0).high + 1,0⟩,2 ^ g.n - 1⟩,⟨⟨⟨(g.m 0).high + 1,0⟩,2 ^ g.n - 1⟩,wth 0 0,[stOf (g.m 0)],false⟩,List.mem_cons_self,rfl,rfl,htop,by rw [hm0],by rw [hm0],rfl,fun k => (by cases k),fun j hj hjn => .inr (.inr ⟨rfl,.inr (.inr ?_)⟩)⟩
      have hjn:j < g.n:=hjn
      have hnw:has (wth 0 0) (j:Int) = false:=by
        cases e:has (wth 0 0) (j:Int) with
        | false => rfl
        | true => exact absurd (wth_zero 0 (by decide) j e) hj
      refine ⟨_,List.mem_append_right _ (by rw [hts]; exact again_p (m:={ g.m 0 with high:=(g.m 0).high + 1,prom:=⟨(g.m 0).high + 1,0⟩,prop:=some ⟨⟨⟨(g.m 0).high + 1,0⟩,2 ^ g.n - 1⟩,wth 0 0,[stOf (g.m 0)],false⟩ }) (p:=⟨⟨⟨(g.m 0).high + 1,0⟩,2 ^ g.n - 1⟩,wth 0 0,[stOf (g.m 0)],false⟩) rfl rfl (all_has hjn hn16) (by show j ≠ (g.m 0).self; rw [hself]; exact hj) rfl hnw),rfl,rfl,rfl⟩
    · have hw':wth 0 0 = 2 ^ g.n - 1:=Classical.not_not.1 hw
      have hts:((g.m 0).tick (2 ^ g.n - 1) (stOf (g.m 0))).1 = { g.m 0 with high:=(g.m 0).high + 1,prom:=⟨(g.m 0).high + 1,0⟩,prop:=some ⟨⟨⟨(g.m 0).high + 1,0⟩,2 ^ g.n - 1⟩,wth 0 0,[],true⟩,joined:=joinS [stOf (g.m 0)],cur:=⟨⟨(g.m 0).high + 1,0⟩,2 ^ g.n - 1⟩ }:=by
        rw [htick]
        unfold MB.ticks MB.agree
        rw [hpr,if_neg hw,Nat.mod_eq_of_lt (show (g.m 0).high + 1 < 18446744073709551616 by omega)]
      have hm0:=htk 0
      rw [if_pos rfl,hts] at hm0
      refine ⟨⟨⟨(g.m 0).high + 1,0⟩,2 ^ g.n - 1⟩,⟨⟨⟨(g.m 0).high + 1,0⟩,2 ^ g.n - 1⟩,wth 0 0,[],true⟩,List.mem_cons_self,rfl,rfl,htop,by rw [hm0],by rw [hm0],rfl,fun k => by rw [hm0],fun j hj hjn => ?_⟩
      have hjn:j < g.n:=hjn
      have h1:=all_has hjn hn16
      rw [← hw'] at h1
      exact absurd (wth_zero 0 (by decide) j h1) hj
  · have hlog:(g.m 0).tlog (2 ^ g.n - 1) (stOf (g.m 0)) log = log:=by unfold MB.tlog; rw [if_neg hc]
    have hts:=tick_no (st:=stOf (g.m 0)) hc
    rw [hlog]
    have hmj:∀ j,(g.tickAt 0 (2 ^ g.n - 1)).m j = g.m j:=fun j => by
      rw [htk,hts]; split
      · rename_i e; rw [e]
      · rfl
    have hbag:(g.tickAt 0 (2 ^ g.n - 1)).bag = g.bag ++ (g.m 0).again:=by
      show g.bag ++ ((g.m 0).tick (2 ^ g.n - 1) (stOf (g.m 0))).2.1 = _; rw [hts]
    rw [he,hself] at hc
    have hcase:(g.m 0).need (2 ^ g.n - 1) = false ∨ (g.m 0).under (2 ^ g.n - 1) = true:=by
      cases h1:(g.m 0).need (2 ^ g.n - 1) with
      | false => exact .inl rfl
      | true =>
        cases h2:(g.m 0).under (2 ^ g.n - 1) with
        | true => exact .inr rfl
        | false => exact absurd ⟨hle,h1,h2⟩ hc
    have htop:∀ T:GView,(g.m 0).prom = T.ID → (g.m 0).ahead (2 ^ g.n - 1) T.ID = false → ∀ v ∈ log,VLe v.ID T.ID:=fun T h1 h2 v hv => by
      by_cases hP:v.ID.P = 0
      · rw [← h1]; exact hno.mine v hv hP
      · have h3:=h.log.p v hv
        exact (hK v hv hP).trans (ahead_f h2 hn16 (by omega) (by rw [hself]; omega))
    rcases Classical.em ((g.m 0).need (2 ^ g.n - 1) = false) with hnd | hnd
    · unfold MB.need at hnd
      simp only [Bool.or_eq_false_iff,decide_eq_false_iff_not,Classical.not_not] at hnd
      obtain ⟨⟨⟨h1,h2⟩,h3⟩,h4⟩:=hnd
      have hcin:(g.m 0).cur ∈ log:=by
        rcases hno.cur with e | e
        · rw [e] at h2; exact absurd rfl h2
        · exact e.1
      have hP:(g.m 0).cur.ID.P = 0:=by
        have:=(h.log.set _ hcin).2.2
        rw [← h3,hle] at this; exact this.symm
      obtain ⟨p,hp,hpv,hpd⟩:=hno.own h1 hP (by omega)
      have ht:=htop (g.m 0).cur h1.symm h4
      refine ⟨(g.m 0).cur,p,hcin,h3.symm,hP,ht,by rw [hmj]; exact h1.symm,by rw [hmj]; exact hp,hpv,fun _ => by rw [hmj],fun j hj hjn => ?_⟩
      have hjn:j < g.n:=hjn
      have hw:has p.who (j:Int) = true:=by rw [hno.pd p hp hpd,hpv,← h3]; exact all_has hjn hn16
      have hpj:=who_T h ht (by omega) hn0 hp hpv hjn hw
      unfold Sj
      rw [hmj,hbag]
      by_cases hcj:((g.m 0).other j).1 = p.v.ID
      · refine .inl ?_
        have h5:=(h.oth 0 j hn0 hjn).1
        rw [hcj,hpv] at h5
        have h6:=(h.node j hjn).cp
        rw [hpj] at h6
        exact h6.antisymm h5
      · refine .inr (.inl ⟨hpj,hpd,_,List.mem_append_right _ (again_c hp (by rw [hpv]; exact h1.symm) (by rw [hpv,← h3]; exact all_has hjn hn16) (by rw [hself]; exact hj) hpd hcj),rfl,rfl,by show p.v.ID = _; rw [hpv]⟩)
    · rcases hcase with h1 | hun
      · exact absurd h1 hnd
      unfold MB.under at hun
      cases hp:(g.m 0).prop with
      | none => rw [hp] at hun; cases hun
      | some p =>
        rw [hp] at hun
        simp only [Bool.and_eq_true,Bool.not_eq_true',decide_eq_true_iff] at hun
        obtain ⟨⟨⟨h1,h2⟩,h3⟩,h4⟩:=hun
        obtain ⟨hpin,hpP⟩:=hno.pin p hp
        have ht:=htop p.v h2 h4
        refine ⟨p.v,p,hpin,h3,hpP,ht,by rw [hmj]; exact h2,by rw [hmj]; exact hp,rfl,fun k => (by rw [h1] at k; cases k),fun j hj hjn => .inr (.inr ⟨h1,?_⟩)⟩
        have hjn:j < g.n:=hjn
        rw [hmj,hbag]
        cases hw:has p.who (j:Int) with
        | true => exact .inl ⟨rfl,who_T h ht (h.log.pos _ hpin).1 hn0 hp rfl hjn hw⟩
        | false => exact .inr (.inr ⟨_,List.mem_append_right _ (again_p hp h2 (by rw [h3]; exact all_has hjn hn16) (by rw [hself]; exact hj) h1 hw),rfl,rfl,rfl⟩)
theorem tick_other (h:Inv B log g) (hi:i < g.n) (h0:i ≠ 0):(g.m i).tick (2 ^ g.n - 1) (stOf (g.m i)) = (g.m i,(g.m i).again,none)∧(g.m i).tlog (2 ^ g.n - 1) (stOf (g.m i)) log = log:=by
  have hc:¬ (least ((g.m i).est (2 ^ g.n - 1)) = ((g.m i).self:Int)∧(g.m i).need ((g.m i).est (2 ^ g.n - 1)) = true∧(g.m i).under ((g.m i).est (2 ^ g.n - 1)) = false):=fun k => by
    have h1:=k.1
    rw [est_all (h.node i hi) hi h.n16,all_least g.n (by have:=h.n16; omega) h.n1,(h.node i hi).self] at h1
    omega
  exact ⟨tick_no hc,by unfold MB.tlog; rw [if_neg hc]⟩
theorem Sj.more {bag:List GOut} (h:Sj T p g j) (hm:g'.m j = g.m j) (hb:∀ o ∈ g.bag,o ∈ g'.bag):Sj T p g' j:=by
  unfold Sj at h ⊢
  rw [hm]
  rcases h with h | ⟨h1,h2,o,h3,h4⟩ | ⟨h1,h | ⟨h2,o,h3,h4⟩ | ⟨o,h3,h4⟩⟩
  · exact .inl h
  · exact .inr (.inl ⟨h1,h2,o,hb o h3,h4⟩)
  · exact .inr (.inr ⟨h1,.inl h⟩)
  · exact .inr (.inr ⟨h1,.inr (.inl ⟨h2,o,hb o h3,h4⟩)⟩)
  · exact .inr (.inr ⟨h1,.inr (.inr ⟨o,hb o h3,h4⟩)⟩)
theorem tgt_tick (h:Inv B log g) (ht:Tgt log T p g) (hi:i < g.n) (h0:i ≠ 0):Tgt log T p (g.tickAt i (2 ^ g.n - 1)):=by
  have hts:=(tick_other h hi h0).1
  have hmj:∀ j,(g.tickAt i (2 ^ g.n - 1)).m j = g.m j:=fun j => by
    rw [tick_m h hi,hts]; split
    · rename_i e; rw [e]
    · rfl
  have hb:∀ o ∈ g.bag,o ∈ (g.tickAt i (2 ^ g.n - 1)).bag:=fun o ho => List.mem_append_left _ ho
  exact ⟨ht.tin,ht.set,ht.tp,ht.top,by rw [hmj]; exact ht.prom0,by rw [hmj]; exact ht.prop,ht.pv,fun k => by rw [hmj]; exact ht.pd k,fun j hj hjn => (ht.sj j hj hjn).more (bag:=[]) (hmj j) hb⟩
end
end Go.FM

set_option linter.unusedVariables false
set_option linter.unusedSimpArgs false
namespace Go.FM
open Go
section
variable {B n i j:Nat} {log log':List GView} {g g':GG} {m m':MB} {f:GFrame} {o:GOut} {p:GProp} {T:GView} {st:GState} {x v:GViewID} {rest:List GOut}
def GG.pop (g:GG) (rest:List GOut):GG:=⟨g.n,g.ms,rest,g.views⟩
theorem comes_cons (h:g.bag = o::rest):g.comes 0 false true = (g.pop rest).inAt o:=by
  unfold GG.comes
  rw [h]
  rw [if_neg (by simp)]
  simp only [Nat.zero_mod]
  unfold GG.without GG.pop
  rw [h]
  rfl
theorem in_m (h:Inv B log g) (hi:o.To.toNat < g.n) (j:Nat):((g.pop rest).inAt o).m j = if j = o.To.toNat then ((g.m o.To.toNat).inn o.F (stOf (g.m o.To.toNat))).1 else g.m j :=
  put_m (g:=g.pop rest) (by show _ < g.ms.length; rw [h.len]; exact hi) j
theorem inn0 (h:NodeOk log n 0 B m) (hl:LogOk n B log) (hf:FrOk log n B f) (hp:m.prop = some p) (hv:p.v = T) (hprom:m.prom = T.ID) (top:∀ u ∈ log,VLe u.ID T.ID) (tp:T.ID.P = 0) (hT:0 < T.ID.N) :
    ((m.inn f st).1.prop = some p∧(m.inn f st).1.prom = m.prom∧(m.inn f st).1.cur = m.cur∧(p.done = false → f.Kind = 3 → f.ID = T.ID → f.From ≠ 0 → has T.Set f.From = true → has p.who f.From = true)) ∨
    (p.done = false∧f.Kind = 3∧f.ID = T.ID∧f.From ≠ 0∧∃ p',(m.inn f st).1.prop = some p'∧p'.v = T∧p'.who = wth p.who f.From∧(m.inn f st).1.prom = m.prom ∧
      ((p'.done = false∧(m.inn f st).1.cur = m.cur) ∨ (p'.done = true∧(m.inn f st).1.cur = T∧p'.who = T.Set∧∀ j ∈ lst (wto T.Set 0),∃ o ∈ (m.inn f st).2.1,o.To = (j:Int)∧o.F.Kind = 5∧o.F.ID = T.ID))):=by
  have hF:=hf.frm
  have hself:=h.self
  have hn:=h.n
  unfold MB.inn
  by_cases h0:f.From < 0 ∨ (m.n:Int) ≤ f.From ∨ f.From = (m.self:Int)
  · rw [if_pos h0]
    refine .inl ⟨hp,rfl,rfl,fun _ _ _ h4 _ => ?_⟩
    rw [hself] at h0; omega
  rw [if_neg h0]
  by_cases h1:f.Kind = 1
  · rw [if_pos h1]; exact .inl ⟨hp,rfl,rfl,fun _ k => absurd (h1.symm.trans k) (by decide)⟩
  rw [if_neg h1]
  by_cases h2:f.Kind = 2
  · rw [if_pos h2]
    have hab:aboveV f.ID m.prom = false:=above_f.2 (by rw [hprom]; exact in_le hf.id top hT)
    have hk:∀ k:f.Kind = 3,False:=fun k => absurd (h2.symm.trans k) (by decide)
    unfold MB.propose
    split
    · exact .inl ⟨hp,rfl,rfl,fun _ k => (hk k).elim⟩
    rw [if_neg (by rw [hab]; decide)]
    split
    · exact .inl ⟨hp,rfl,rfl,fun _ k => (hk k).elim⟩
    · exact .inl ⟨hp,rfl,rfl,fun _ k => (hk k).elim⟩
  rw [if_neg h2]
  by_cases h3:f.Kind = 3
  · rw [if_pos h3]
    unfold MB.accept
    rw [hp]
    simp only []
    by_cases hok:m.acceptOk p f = true
    · rw [if_pos hok]
      obtain ⟨⟨⟨⟨⟨hd,hid⟩,hpr⟩,hset⟩,hnw⟩,hlen⟩:((((p.done = false∧p.v.ID = f.ID)∧m.prom = f.ID)∧has p.v.Set f.From = true)∧has p.who f.From = false)∧f.States.length = 1:=by
        unfold MB.acceptOk at hok
        simpa [Bool.and_eq_true,and_assoc] using hok
      have hfr:f.From ≠ 0:=fun k => h0 (.inr (.inr (by rw [hself,k]; rfl)))
      refine .inr ⟨hd,h3,by rw [← hid,hv],hfr,?_⟩
      unfold MB.agree
      by_cases hw:wth p.who f.From ≠ p.v.Set
      · rw [if_pos hw]; exact ⟨_,rfl,hv,rfl,rfl,.inl ⟨hd,rfl⟩⟩
      · rw [if_neg hw]
        refine ⟨_,rfl,hv,rfl,rfl,.inr ⟨rfl,hv,(Classical.not_not.1 hw).trans (by rw [hv]),fun j hj => ?_⟩⟩
        refine ⟨_,List.mem_map.2 ⟨j,?_,rfl⟩,rfl,rfl,by show p.v.ID = _; rw [hv]⟩
        rw [hself,hv]; exact hj
    · rw [if_neg hok]
      refine .inl ⟨hp,rfl,rfl,fun hd _ hid hfr hset => ?_⟩
      cases hw:has p.who f.From with
      | true => rfl
      | false =>
        refine absurd ?_ hok
        obtain ⟨s,hs⟩:=hf.acc h3
        unfold MB.acceptOk
        rw [hd,hw,hv,hset,decide_eq_true hid.symm,decide_eq_true (hprom.trans hid.symm),hs]; rfl
  rw [if_neg h3]
  have hk3:∀ k:f.Kind = 3,False:=h3
  by_cases h4:f.Kind = 4
  · rw [if_pos h4,hp]
    simp only []
    rw [if_neg]
    · exact .inl ⟨hp,rfl,rfl,fun _ k => (hk3 k).elim⟩
    · rintro ⟨e1,_,e2⟩
      have:=above_iff.1 e2
      rw [← e1,hv] at this
      exact this (in_le hf.prom top hT)
  rw [if_neg h4]
  by_cases h5:f.Kind = 5
  · rw [if_pos h5]
    split
    · exact .inl ⟨hp,rfl,rfl,fun _ k => (hk3 k).elim⟩
    · rename_i hc
      exfalso
      have e1:f.ID = m.prom:=Classical.not_not.1 fun k => hc (.inl k)
      have e2:f.ID.P = f.From:=Classical.not_not.1 fun k => hc (.inr (.inr (.inr k)))
      rw [e1,hprom,tp] at e2
      exact h0 (.inr (.inr (by rw [hself,← e2]; rfl)))
  rw [if_neg h5]; exact .inl ⟨hp,rfl,rfl,fun _ k => (hk3 k).elim⟩
theorem has_all (hT:T.Set = 2 ^ n - 1) (hj:j < n) (hn:n ≤ 16):has T.Set (j:Int) = true:=by rw [hT]; exact all_has hj hn
theorem commit_now (h:NodeOk log n i B m) (hl:LogOk n B log) (hi:i < n) (hn:n ≤ 16) (h0:i ≠ 0) (hf:FrOk log n B f) (hk:f.Kind = 5) (hid:f.ID = T.ID) (tin:T ∈ log) (hset:T.Set = 2 ^ n - 1) (tp:T.ID.P = 0) (hpr:m.prom = T.ID):(m.inn f st).1.cur.ID = T.ID:=by
  have hF:=hf.frm
  obtain ⟨h1,h2⟩:=hf.com hk
  have hT:(⟨f.ID,f.Set⟩:GView) = T:=hl.uniq _ h1 _ tin hid
  have hfs:f.Set = T.Set:=by rw [← hT]
  rw [hid,tp] at h2
  unfold MB.inn
  rw [if_neg (by rw [h.n,h.self,h2]; omega),if_neg (by rw [hk]; decide),if_neg (by rw [hk]; decide),if_neg (by rw [hk]; decide),if_neg (by rw [hk]; decide),if_pos hk]
  by_cases hc:m.cur.ID = f.ID
  · rw [if_pos (.inr (.inl hc))]; exact hc.trans hid
  · rw [if_neg]
    · exact hid
    · rw [hid,hpr,hfs,h.self,has_all hset hi hn,tp,h2]
      rintro (k | k | k | k)
      · exact k rfl
      · exact hc (by rw [k,hid])
      · cases k
      · exact k rfl
theorem propose_now (h:NodeOk log n i B m) (hl:LogOk n B log) (hi:i < n) (hn:n ≤ 16) (h0:i ≠ 0) (hf:FrOk log n B f) (hk:f.Kind = 2) (hid:f.ID = T.ID) (tin:T ∈ log) (hset:T.Set = 2 ^ n - 1) (tp:T.ID.P = 0) (hle:VLe m.prom T.ID) :
    (m.inn f st).1.prom = T.ID∧((m.inn f st).1.cur.ID = T.ID ∨ ∃ o ∈ (m.inn f st).2.1,o.To = 0∧o.F.Kind = 3∧o.F.ID = T.ID∧o.F.From = (i:Int)):=by
  have hF:=hf.frm
  obtain ⟨h1,h2⟩:=hf.prop hk
  have hT:(⟨f.ID,f.Set⟩:GView) = T:=hl.uniq _ h1 _ tin hid
  have hfs:f.Set = T.Set:=by rw [← hT]
  have h2':=h2
  rw [hid,tp] at h2'
  have hlt:(2:Nat) ^ n - 1 < 2 ^ n:=Nat.sub_lt (Nat.pos_of_ne_zero (by simp)) (by decide)
  unfold MB.inn
  rw [if_neg (by rw [h.n,h.self,h2']; omega),if_neg (by rw [hk]; decide),if_pos hk]
  unfold MB.propose
  rw [if_neg (by
    rw [hid,tp,h2',hfs,h.self,has_all hset hi hn,h.n,show has T.Set 0 = true from has_all (j:=0) hset (by omega) hn,hset,Nat.div_eq_of_lt hlt]
    rintro (k | k | k | k)
    · exact k rfl
    · cases k
    · cases k
    · exact k rfl)]
  by_cases hab:aboveV f.ID m.prom = true
  · rw [if_pos hab]
    exact ⟨hid,.inr ⟨_,List.mem_singleton.2 rfl,h2',rfl,hid,by show (m.self:Int) = i; rw [h.self]⟩⟩
  · rw [if_neg hab]
    have hpr:m.prom = T.ID:=by
      have:=above_f.1 (Bool.eq_false_iff.2 hab)
      rw [hid] at this
      exact hle.antisymm this
    by_cases hc:m.cur.ID = f.ID
    · rw [if_pos (.inr hc)]
      exact ⟨hpr,.inl (hc.trans hid)⟩
    · rw [if_neg (by rintro (k | k); exact k (hid.trans hpr.symm); exact hc k)]
      exact ⟨hpr,.inr ⟨_,List.mem_singleton.2 rfl,h2',rfl,hid,by show (m.self:Int) = i; rw [h.self]⟩⟩
theorem tgt_comes (h:Inv B log g) (hB:1 ≤ B) (ht:Tgt log T p g) (hb:g.bag = o::rest):∃ p',Tgt log T p' ((g.pop rest).inAt o):=by
  have hn0:0 < g.n:=h.n1
  have hn16:=h.n16
  have ho:=h.bag o (by rw [hb]; exact List.mem_cons_self)
  have hto:=ho.1
  have hi:o.To.toNat < g.n:=by omega
  have hm:=fun j => in_m (rest:=rest) h hi j
  have hbag:((g.pop rest).inAt o).bag = rest ++ ((g.m o.To.toNat).inn o.F (stOf (g.m o.To.toNat))).2.1:=rfl
  have hT:=(h.log.pos _ ht.tin).1
  have hrest:∀ q,q ∈ rest → q ∈ ((g.pop rest).inAt o).bag:=fun q hq => List.mem_append_left _ hq
  have hor:∀ q,q ∈ g.bag → q = o ∨ q ∈ rest:=fun q hq => by rw [hb] at hq; exact List.mem_cons.1 hq
  by_cases hz:o.To.toNat = 0
  · 
    have hm0:((g.pop rest).inAt o).m 0 = ((g.m 0).inn o.F (stOf (g.m 0))).1:=by rw [hm,if_pos hz.symm,hz]
    have hmj:∀ j,j ≠ 0 → ((g.pop rest).inAt o).m j = g.m j:=fun j hj => by rw [hm,if_neg (by rw [hz]; exact hj)]
    have hto0:o.To = 0:=by omega
    rcases inn0 (st:=stOf (g.m 0)) (h.node 0 hn0) h.log ho.2.1 ht.prop ht.pv ht.prom0 ht.top ht.tp hT with ⟨h1,h2,h3,h4⟩ | ⟨h1,h2,h3,h4,p',h5,h6,h7,h8,h9⟩
    · refine ⟨p,ht.tin,ht.set,ht.tp,ht.top,by rw [hm0,h2]; exact ht.prom0,by rw [hm0]; exact h1,ht.pv,fun k => by rw [hm0,h3]; exact ht.pd k,fun j hj hjn => ?_⟩
      have hjn:j < g.n:=hjn
      have hs:=ht.sj j hj hjn
      unfold Sj at hs ⊢
      rw [hmj j hj]
      rcases hs with e | ⟨e1,e2,q,e3,e4⟩ | ⟨e1,e | ⟨e2,q,e3,e4,e5,e6,e7⟩ | ⟨q,e3,e4⟩⟩
      · exact .inl e
      · rcases hor q e3 with rfl | e5
        · exact absurd e4.1 (by rw [hto0]; omega)
        · exact .inr (.inl ⟨e1,e2,q,hrest q e5,e4⟩)
      · exact .inr (.inr ⟨e1,.inl e⟩)
      · rcases hor q e3 with rfl | e8
        · exact .inr (.inr ⟨e1,.inl ⟨by rw [← e7]; exact h4 e1 e5 e6 (by rw [e7]; omega) (by rw [e7]; exact has_all ht.set hjn hn16),e2⟩⟩)
        · exact .inr (.inr ⟨e1,.inr (.inl ⟨e2,q,hrest q e8,e4,e5,e6,e7⟩)⟩)
      · rcases hor q e3 with rfl | e5
        · exact absurd e4.1 (by rw [hto0]; omega)
        · exact .inr (.inr ⟨e1,.inr (.inr ⟨q,hrest q e5,e4⟩)⟩)
    · have hfz:∃ z:Nat,o.F.From = (z:Int)∧z < g.n:=⟨o.F.From.toNat,by have:=ho.2.1.frm; omega,by have:=ho.2.1.frm; omega⟩
      obtain ⟨z,hfz,hzn⟩:=hfz
      have hpz:(g.m z).prom = T.ID:=by
        have e1:=ho.2.2.1 h2
        rw [hfz,Int.toNat_natCast,h3] at e1
        exact (in_le (h.node z hzn).prom ht.top hT).antisymm e1
      have hwho:∀ j:Nat,j < g.n → has p'.who (j:Int) = true → (g.m j).prom = T.ID:=fun j hj hw => by
        rw [h7,hfz] at hw
        rcases (has_wth (by omega) j).1 hw with e | e
        · exact who_T h ht.top hT hn0 ht.prop ht.pv hj e
        · rw [e]; exact hpz
      refine ⟨p',ht.tin,ht.set,ht.tp,ht.top,by rw [hm0,h8]; exact ht.prom0,by rw [hm0]; exact h5,h6,fun k => ?_,fun j hj hjn => ?_⟩
      · rcases h9 with ⟨e,_⟩ | ⟨_,e,_⟩
        · rw [e] at k; cases k
        · rw [hm0]; exact e
      · have hjn:j < g.n:=hjn
        have hs:=ht.sj j hj hjn
        unfold Sj at hs ⊢
        rw [hmj j hj]
        rcases h9 with ⟨hd,_⟩ | ⟨hd,_,hws,hco⟩
        · have hadd:has p.who (j:Int) = true → has p'.who (j:Int) = true:=fun k => by rw [h7,hfz]; exact (has_wth (by omega) j).2 (.inl k)
          rcases hs with e | ⟨_,e2,_⟩ | ⟨e1,⟨e2,e3⟩ | ⟨e2,q,e3,e4,e5,e6,e7⟩ | ⟨q,e3,e4⟩⟩
          · exact .inl e
          · rw [h1] at e2; cases e2
          · exact .inr (.inr ⟨hd,.inl ⟨hadd e2,e3⟩⟩)
          · rcases hor q e3 with rfl | e8
            · refine .inr (.inr ⟨hd,.inl ⟨?_,e2⟩⟩)
              rw [h7,e7]; exact (has_wth (by omega) j).2 (.inr rfl)
            · exact .inr (.inr ⟨hd,.inr (.inl ⟨e2,q,hrest q e8,e4,e5,e6,e7⟩)⟩)
          · rcases hor q e3 with rfl | e5
            · exact absurd e4.1 (by rw [hto0]; omega)
            · exact .inr (.inr ⟨hd,.inr (.inr ⟨q,hrest q e5,e4⟩)⟩)
        · have hpj:=hwho j hjn (by rw [hws]; exact has_all ht.set hjn hn16)
          have hjl:j ∈ lst (wto T.Set 0):=has_lst.2 (by
            have e1:=has_all ht.set hjn hn16
            have e2:=of_decide_eq_true e1
            refine decide_eq_true ⟨e2.1,e2.2.1,?_⟩
            rw [Int.toNat_natCast]
            exact (wto_bit (z:=0) (by decide) (by omega) (pow16 hn16 (h.log.set _ ht.tin).2.1)).2 ⟨by have:=e2.2.2; rwa [Int.toNat_natCast] at this,hj⟩)
          obtain ⟨q,e3,e4⟩:=hco j hjl
          exact .inr (.inl ⟨hpj,hd,q,by rw [hbag,hz]; exact List.mem_append_right _ e3,e4⟩)
  · 
    have hm0:((g.pop rest).inAt o).m 0 = g.m 0:=by rw [hm,if_neg (fun e => hz e.symm)]
    refine ⟨p,ht.tin,ht.set,ht.tp,ht.top,by rw [hm0]; exact ht.prom0,by rw [hm0]; exact ht.prop,ht.pv,fun k => by rw [hm0]; exact ht.pd k,fun j hj hjn => ?_⟩
    have hjn:j < g.n:=hjn
    have hs:=ht.sj j hj hjn
    have hnoz:o.To ≠ 0:=by omega
    by_cases hji:j = o.To.toNat
    · have hno:=h.node j hjn
      have hst:=inn_step (st:=stOf (g.m j)) hno h.log hjn hn16 ho.2.1 hB rfl
      have hmj:((g.pop rest).inAt o).m j = ((g.m j).inn o.F (stOf (g.m j))).1:=by rw [hm,if_pos hji,← hji]
      have hbj:((g.pop rest).inAt o).bag = rest ++ ((g.m j).inn o.F (stOf (g.m j))).2.1:=by rw [hbag,← hji]
      have hpT:(g.m j).prom = T.ID → ((g.m j).inn o.F (stOf (g.m j))).1.prom = T.ID:=fun e => by
        have e1:=hst.prom
        rw [e] at e1
        exact (in_le hst.node.prom ht.top hT).antisymm e1
      unfold Sj at hs ⊢
      rw [hmj]
      rcases hs with e | ⟨e1,e2,q,e3,e4,e5,e6⟩ | ⟨e1,⟨e2,e3⟩ | ⟨e2,q,e3,e4,e5⟩ | ⟨q,e3,e4,e5,e6⟩⟩
      · refine .inl ?_
        have e1:=hst.cur
        rw [e] at e1
        exact (hst.node.cp.trans (in_le hst.node.prom ht.top hT)).antisymm e1
      · rcases hor q e3 with rfl | e7
        · exact .inl (commit_now hno h.log hjn hn16 hj ho.2.1 e5 e6 ht.tin ht.set ht.tp e1)
        · exact .inr (.inl ⟨hpT e1,e2,q,by rw [hbj]; exact List.mem_append_left _ e7,e4,e5,e6⟩)
      · exact .inr (.inr ⟨e1,.inl ⟨e2,hpT e3⟩⟩)
      · rcases hor q e3 with rfl | e7
        · exact absurd e4 hnoz
        · exact .inr (.inr ⟨e1,.inr (.inl ⟨hpT e2,q,by rw [hbj]; exact List.mem_append_left _ e7,e4,e5⟩)⟩)
      · rcases hor q e3 with rfl | e7
        · obtain ⟨k1,k2⟩:=propose_now (st:=stOf (g.m j)) hno h.log hjn hn16 hj ho.2.1 e5 e6 ht.tin ht.set ht.tp (in_le hno.prom ht.top hT)
          rcases k2 with k2 | ⟨q2,k3,k4⟩
          · exact .inl k2
          · exact .inr (.inr ⟨e1,.inr (.inl ⟨k1,q2,by rw [hbj]; exact List.mem_append_right _ k3,k4⟩)⟩)
        · exact .inr (.inr ⟨e1,.inr (.inr ⟨q,by rw [hbj]; exact List.mem_append_left _ e7,e4,e5,e6⟩)⟩)
    · have hmj:((g.pop rest).inAt o).m j = g.m j:=by rw [hm,if_neg hji]
      unfold Sj at hs ⊢
      rw [hmj]
      rcases hs with e | ⟨e1,e2,q,e3,e4⟩ | ⟨e1,e | ⟨e2,q,e3,e4,e5⟩ | ⟨q,e3,e4⟩⟩
      · exact .inl e
      · rcases hor q e3 with rfl | e5
        · exact absurd e4.1 (by omega)
        · exact .inr (.inl ⟨e1,e2,q,hrest q e5,e4⟩)
      · exact .inr (.inr ⟨e1,.inl e⟩)
      · rcases hor q e3 with rfl | e8
        · exact absurd e4 hnoz
        · exact .inr (.inr ⟨e1,.inr (.inl ⟨e2,q,hrest q e8,e4,e5⟩)⟩)
      · rcases hor q e3 with rfl | e5
        · exact absurd e4.1 (by omega)
        · exact .inr (.inr ⟨e1,.inr (.inr ⟨q,hrest q e5,e4⟩)⟩)
structure Settled (log:List GView) (T:GView) (g:GG):Prop where
  tin:T ∈ log
  set:T.Set = 2 ^ g.n - 1
  top:∀ v ∈ log,VLe v.ID T.ID
  all:∀ i,i < g.n → (g.m i).cur = T
theorem eq_of_has {a b:Nat} (ha:a < 2 ^ n) (hb:b < 2 ^ n) (hn:n ≤ 16) (h:∀ j:Nat,j < n → (has a (j:Int) = true ↔ has b (j:Int) = true)):a = b:=by
  refine eq_of_bits n a b ha hb fun j hj => ?_
  have:=h j hj
  unfold has at this
  rw [decide_eq_true_iff,decide_eq_true_iff,Int.toNat_natCast] at this
  constructor
  · intro k; exact (this.1 ⟨by omega,by omega,k⟩).2.2
  · intro k; exact (this.2 ⟨by omega,by omega,k⟩).2.2
theorem tgt_end (h:Inv B log g) (ht:Tgt log T p g) (hb:g.bag = []):Settled log T g:=by
  have hn0:0 < g.n:=h.n1
  have hno:∀ q,q ∈ g.bag → False:=fun q hq => by rw [hb] at hq; cases hq
  have hd:p.done = true:=by
    cases hd:p.done with
    | true => rfl
    | false =>
      exfalso
      obtain ⟨_,h2,h3,h4⟩:=(h.node 0 hn0).pno p ht.prop hd
      apply h2
      rw [ht.pv,ht.set]
      refine eq_of_has h3 (Nat.sub_lt (Nat.pos_of_ne_zero (by simp)) (by decide)) h.n16 fun j hj => ⟨fun _ => all_has hj h.n16,fun _ => ?_⟩
      by_cases e:j = 0
      · rw [e]; exact h4
      · rcases ht.sj j e hj with k | ⟨_,k,_⟩ | ⟨_,k | ⟨_,q,k,_⟩ | ⟨q,k,_⟩⟩
        · exact absurd (by rw [ht.pv]; exact k) (h.und 0 j hn0 hj p ht.prop hd)
        · rw [hd] at k; cases k
        · exact k.1
        · exact (hno q k).elim
        · exact (hno q k).elim
  refine ⟨ht.tin,ht.set,ht.top,fun i hi => ?_⟩
  by_cases e:i = 0
  · rw [e]; exact ht.pd hd
  · have hid:(g.m i).cur.ID = T.ID:=by
      rcases ht.sj i e hi with k | ⟨_,_,q,k,_⟩ | ⟨k,_⟩
      · exact k
      · exact (hno q k).elim
      · rw [hd] at k; cases k
    rcases (h.node i hi).cur with k | k
    · rw [k] at hid
      have:=(h.log.pos _ ht.tin).1
      rw [← hid] at this
      exact absurd this (by show ¬ 0 < 0; decide)
    · exact h.log.uniq _ k.1 _ ht.tin hid
theorem settled_prom (h:Inv B log g) (hs:Settled log T g) (hi:i < g.n):(g.m i).prom = T.ID:=by
  have h1:=(h.node i hi).cp
  rw [hs.all i hi] at h1
  exact (in_le (h.node i hi).prom hs.top (h.log.pos _ hs.tin).1).antisymm h1
theorem settled_open (h:Inv B log g) (hs:Settled log T g) (hi:i < g.n):(g.m i).opn = true:=by
  unfold MB.opn
  rw [settled_prom h hs hi,hs.all i hi,decide_eq_true (h.log.pos _ hs.tin).1,decide_eq_true rfl]; rfl
theorem settled_tick (h:Inv B log g) (hs:Settled log T g) (hi:i < g.n):(g.m i).tick (2 ^ g.n - 1) (stOf (g.m i)) = (g.m i,(g.m i).again,none)∧(g.m i).tlog (2 ^ g.n - 1) (stOf (g.m i)) log = log:=by
  by_cases h0:i = 0
  · subst h0
    have hnd:(g.m 0).need (2 ^ g.n - 1) = false:=by
      unfold MB.need
      have hp:=settled_prom h hs hi
      have hc:=hs.all 0 hi
      have hah:(g.m 0).ahead (2 ^ g.n - 1) T.ID = false:=ahead_of fun j hj _ => by
        have:=(h.oth 0 j hi hj).2
        rwa [settled_prom h hs hj] at this
      rw [hc,hp,hah,hs.set,decide_eq_false (by simp),decide_eq_false (by have:=(h.log.pos _ hs.tin).1; omega),decide_eq_false (by simp)]; rfl
    have hc:¬ (least ((g.m 0).est (2 ^ g.n - 1)) = ((g.m 0).self:Int)∧(g.m 0).need ((g.m 0).est (2 ^ g.n - 1)) = true∧(g.m 0).under ((g.m 0).est (2 ^ g.n - 1)) = false):=fun k => by
      have h1:=k.2.1
      rw [est_all (h.node 0 hi) hi h.n16,hnd] at h1; cases h1
    exact ⟨tick_no hc,by unfold MB.tlog; rw [if_neg hc]⟩
  · exact tick_other h hi h0
theorem settled_comes (h:Inv B log g) (hB:1 ≤ B) (hs:Settled log T g) (hb:g.bag = o::rest):Settled log T ((g.pop rest).inAt o):=by
  have ho:=h.bag o (by rw [hb]; exact List.mem_cons_self)
  have hi:o.To.toNat < g.n:=by have:=ho.1; omega
  refine ⟨hs.tin,hs.set,hs.top,fun i hin => ?_⟩
  have hin:i < g.n:=hin
  rw [in_m h hi]
  split
  · rename_i e
    have hst:=inn_step (st:=stOf (g.m o.To.toNat)) (h.node _ hi) h.log hi h.n16 ho.2.1 hB rfl
    have e1:=hst.cur
    rw [hs.all _ hi] at e1
    have hT:=(h.log.pos _ hs.tin).1
    have hid:=(hst.node.cp.trans (in_le hst.node.prom hs.top hT)).antisymm e1
    rcases hst.node.cur with k | k
    · rw [k] at hid
      rw [← hid] at hT
      exact absurd hT (by show ¬ 0 < 0; decide)
    · exact h.log.uniq _ k.1 _ hs.tin hid
  · exact hs.all i hin
end
end Go.FM

set_option linter.unusedVariables false
set_option linter.unusedSimpArgs false
namespace Go.FM
open Go
section
variable {B n i j k c:Nat} {log log':List GView} {g g':GG} {m m':MB} {f:GFrame} {o:GOut} {p:GProp} {T:GView} {st:GState} {x v:GViewID} {rest:List GOut}
def isBeat (j:Nat) (o:GOut):Bool:=decide (o.To = 0∧o.F.Kind = 1∧o.F.From = (j:Int))
def beatsOf (bag:List GOut) (j:Nat):List GViewID:=(bag.filter (isBeat j)).map (fun o => o.F.Prom)
def lastBt (g:GG) (j:Nat):GViewID:=(beatsOf g.bag j).getLast?.getD ((g.m 0).other j).2
def KnB (log:List GView) (g:GG) (j:Nat):Prop:=∀ v ∈ log,v.ID.P = (j:Int) → VLe v.ID (lastBt g j)
theorem beatsOf_app (a b:List GOut) (j:Nat):beatsOf (a ++ b) j = beatsOf a j ++ beatsOf b j:=by
  unfold beatsOf; rw [List.filter_append,List.map_append]
theorem beatsOf_nil {l:List GOut} (h:∀ o ∈ l,isBeat j o = false):beatsOf l j = []:=by
  unfold beatsOf
  rw [List.filter_eq_nil_iff.2 (fun o ho => by rw [h o ho]; decide)]; rfl
theorem lastBt_app {l:List GOut} (h:∀ o ∈ l,isBeat j o = false):(beatsOf (g.bag ++ l) j).getLast?.getD x = (beatsOf g.bag j).getLast?.getD x:=by
  rw [beatsOf_app,beatsOf_nil h,List.append_nil]
theorem know_beat (h:Inv B log g) (hi:i < g.n) (h0:i ≠ 0):KnB log (g.beatAt i) i:=by
  intro v hv hP
  have hle:=(h.node i hi).mine v hv hP
  have hall:∀ y ∈ beatsOf (g.beatsTo i g.n) i,y = (g.m i).prom:=fun y hy => by
    obtain ⟨o,ho,rfl⟩:=List.mem_map.1 hy
    obtain ⟨j,_,_,rfl⟩:=beatsTo_mem (List.mem_filter.1 ho).1
    rfl
  have hne:beatsOf (g.beatsTo i g.n) i ≠ []:=by
    intro e
    have h1:(⟨((0:Nat):Int),frBeat i (g.m i)⟩:GOut) ∈ g.beatsTo i g.n:=List.mem_map.2 ⟨0,List.mem_filter.2 ⟨List.mem_range.2 h.n1,decide_eq_true (fun e => h0 e.symm)⟩,rfl⟩
    have h2:(g.m i).prom ∈ beatsOf (g.beatsTo i g.n) i:=List.mem_map.2 ⟨_,List.mem_filter.2 ⟨h1,decide_eq_true ⟨rfl,rfl,rfl⟩⟩,rfl⟩
    rw [e] at h2; cases h2
  show VLe v.ID ((beatsOf (g.bag ++ g.beatsTo i g.n) i).getLast?.getD _)
  rw [beatsOf_app,List.getLast?_append,List.getLast?_eq_some_getLast hne]
  show VLe v.ID ((beatsOf (g.beatsTo i g.n) i).getLast hne)
  rw [hall _ (List.getLast_mem hne)]
  exact hle
theorem know_beat_other (hk:KnB log g j) (hij:j ≠ i):KnB log (g.beatAt i) j:=by
  intro v hv hP
  show VLe v.ID ((beatsOf (g.bag ++ g.beatsTo i g.n) j).getLast?.getD ((g.m 0).other j).2)
  rw [lastBt_app]
  · exact hk v hv hP
  · intro o ho
    obtain ⟨z,_,_,rfl⟩:=beatsTo_mem ho
    refine decide_eq_false fun e => ?_
    have:((i:Nat):Int) = j:=e.2.2
    omega
theorem know_tick (h:Inv B log g) (hB:B < 4611686018427387904) (hi:i < g.n) (hj:j ≠ 0) (hk:KnB log g j):KnB ((g.m i).tlog (2 ^ g.n - 1) (stOf (g.m i)) log) (g.tickAt i (2 ^ g.n - 1)) j:=by
  have hn0:0 < g.n:=h.n1
  have hst:=(tick_step (h.node i hi) h.log hi h.n16 hB (2 ^ g.n - 1) (st:=stOf (g.m i)) rfl).2
  intro v hv hP
  have hvl:v ∈ log:=by
    by_cases h0:i = 0
    · unfold MB.tlog at hv
      split at hv
      · rcases List.mem_cons.1 hv with e | e
        · exfalso
          have e2:v.ID.P = (((g.m i).self:Nat):Int):=by rw [e]; rfl
          rw [(h.node i hi).self,hP] at e2
          omega
        · exact e
      · exact hv
    · rw [(tick_other h hi h0).2] at hv; exact hv
  show VLe v.ID ((beatsOf (g.bag ++ ((g.m i).tick (2 ^ g.n - 1) (stOf (g.m i))).2.1) j).getLast?.getD (((g.tickAt i (2 ^ g.n - 1)).m 0).other j).2)
  rw [lastBt_app (fun o ho => decide_eq_false fun e => (hst.outs o ho).2.2.2.1 e.2.1),tick_m h hi]
  have:(if 0 = i then ((g.m i).tick (2 ^ g.n - 1) (stOf (g.m i))).1 else g.m 0).other j = (g.m 0).other j:=by
    split
    · rename_i e
      subst e
      rcases hst.oth j with e | ⟨e,_⟩
      · exact e
      · exact absurd e (by show (0:Nat) ≠ 1; decide)
    · rfl
  rw [this]
  exact hk v hvl hP
theorem lastBt_comes (h:Inv B log g) (hB:1 ≤ B) (hb:g.bag = o::rest) (hj:j ≠ 0) (hjn:j < g.n):lastBt ((g.pop rest).inAt o) j = lastBt g j:=by
  have hn0:0 < g.n:=h.n1
  have ho:=h.bag o (by rw [hb]; exact List.mem_cons_self)
  have hto:=ho.1
  have hi:o.To.toNat < g.n:=by omega
  have hst:=inn_step (st:=stOf (g.m o.To.toNat)) (h.node _ hi) h.log hi h.n16 ho.2.1 hB rfl
  have hnb:∀ q ∈ ((g.m o.To.toNat).inn o.F (stOf (g.m o.To.toNat))).2.1,isBeat j q = false:=fun q hq => decide_eq_false fun e => (hst.outs q hq).2.2.2.1 e.2.1
  show (beatsOf (rest ++ ((g.m o.To.toNat).inn o.F (stOf (g.m o.To.toNat))).2.1) j).getLast?.getD ((((g.pop rest).inAt o).m 0).other j).2 = (beatsOf g.bag j).getLast?.getD ((g.m 0).other j).2
  rw [beatsOf_app,beatsOf_nil hnb,List.append_nil,hb,in_m h hi]
  by_cases hc:isBeat j o = true
  · obtain ⟨h1,h2,h3⟩:=of_decide_eq_true hc
    have hz:o.To.toNat = 0:=by omega
    have hoth:((g.m 0).inn o.F (stOf (g.m 0))).1.other j = (o.F.Cur,o.F.Prom):=by
      have hno:=h.node 0 hn0
      have hF:=ho.2.1.frm
      unfold MB.inn
      rw [if_neg (by rw [hno.n,hno.self,h3]; omega),if_pos h2]
      have:=other_set (m:=g.m 0) (k:=o.F.From.toNat) (c:=(o.F.Cur,o.F.Prom)) (by rw [hno.len]; have:=h.n16; omega) j
      rw [if_pos (by rw [h3]; omega)] at this
      exact this
    rw [if_pos hz.symm,hz,hoth]
    have:beatsOf (o::rest) j = o.F.Prom::beatsOf rest j:=by
      unfold beatsOf; rw [List.filter_cons_of_pos hc]; rfl
    rw [this,List.getLast?_cons]; rfl
  · have:beatsOf (o::rest) j = beatsOf rest j:=by
      unfold beatsOf; rw [List.filter_cons_of_neg hc]
    rw [this]
    have h9:(if 0 = o.To.toNat then ((g.m o.To.toNat).inn o.F (stOf (g.m o.To.toNat))).1 else g.m 0).other j = (g.m 0).other j:=by
      split
      · rename_i e
        rw [← e] at hst ⊢
        rcases hst.oth j with e2 | ⟨e2,e3,_⟩
        · exact e2
        · exact absurd (decide_eq_true ⟨by omega,e2,e3⟩) hc
      · rfl
    rw [h9]
def fw (f:GFrame):Nat:=if f.Kind = 2 then 2 else 1
def bw:List GOut → Nat
  | [] => 0
  | o::l => fw o.F + bw l
def uw (n:Nat) (m:MB):Nat:=match m.prop with
  | none => 0
  | some p => if p.done = true then 0 else n
def us (n:Nat):List MB → Nat
  | [] => 0
  | m::l => uw n m + us n l
def GG.pot (g:GG):Nat:=bw g.bag + us g.n g.ms
theorem fw_le (f:GFrame):1 ≤ fw f∧fw f ≤ 2:=by unfold fw; split <;> omega
theorem bw_app:∀ (a b:List GOut),bw (a ++ b) = bw a + bw b
  | [],b => by simp [bw]
  | o::a,b => by simp only [List.cons_append,bw,bw_app a b]; omega
theorem bw_le:∀ (a:List GOut),a.length ≤ bw a∧bw a ≤ 2 * a.length
  | [] => ⟨Nat.le_refl _,Nat.le_refl _⟩
  | o::a => by have:=bw_le a; have:=fw_le o.F; simp only [bw,List.length_cons]; omega
theorem bw_one:∀ (a:List GOut),(∀ o ∈ a,o.F.Kind ≠ 2) → bw a = a.length
  | [],_ => rfl
  | o::a,h => by
    have h1:=bw_one a (fun q hq => h q (List.mem_cons_of_mem _ hq))
    have h2:fw o.F = 1:=if_neg (h o List.mem_cons_self)
    simp only [bw,List.length_cons]; omega
theorem uw_le (n:Nat) (m:MB):uw n m ≤ n:=by
  unfold uw
  cases m.prop with
  | none => exact Nat.zero_le _
  | some p => simp only []; split <;> omega
theorem us_le (n:Nat):∀ (l:List MB),us n l ≤ l.length * n
  | [] => by simp [us]
  | m::l => by have:=us_le n l; have:=uw_le n m; simp only [us,List.length_cons,Nat.succ_mul]; omega
theorem us_set (n:Nat) (m':MB):∀ (l:List MB) (i:Nat),i < l.length → us n (l.set i m') + uw n (l.getD i m00) = us n l + uw n m'
  | m::l,0,_ => by simp only [List.set_cons_zero,us,List.getD_cons_zero]; omega
  | m::l,i + 1,h => by
    have:=us_set n m' l i (by simpa using h)
    simp only [List.set_cons_succ,us,List.getD_cons_succ]; omega
theorem pot_le (h:g.ms.length = g.n):g.bag.length ≤ g.pot∧g.pot ≤ 2 * g.bag.length + g.n * g.n:=by
  have h1:=bw_le g.bag
  have h2:=us_le g.n g.ms
  rw [h] at h2
  unfold GG.pot; omega
theorem inn_pot (h:NodeOk log n i B m) (hl:LogOk n B log) (hi:i < n) (hn:n ≤ 16) (hf:FrOk log n B f):bw (m.inn f st).2.1 + uw n (m.inn f st).1 + 1 ≤ fw f + uw n m:=by
  have hfw:=fw_le f
  unfold MB.inn
  split
  · show 0 + uw n m + 1 ≤ _; omega
  split
  · show 0 + uw n m + 1 ≤ _; omega
  split
  · rename_i hk
    have h2:fw f = 2:=if_pos hk
    unfold MB.propose
    split
    · show 0 + uw n m + 1 ≤ _; omega
    split
    · show (1 + 0) + uw n m + 1 ≤ _; omega
    split
    · show (1 + 0) + uw n m + 1 ≤ _; omega
    · show (1 + 0) + uw n m + 1 ≤ _; omega
  split
  · unfold MB.accept
    cases hp:m.prop with
    | none => show 0 + uw n m + 1 ≤ _; omega
    | some p =>
      simp only []
      split
      · rename_i hok
        have hd:p.done = false:=by
          unfold MB.acceptOk at hok
          simp only [Bool.and_eq_true,Bool.not_eq_true'] at hok
          exact hok.1.1.1.1.1
        have hu:uw n m = n:=by unfold uw; rw [hp]; simp only []; rw [if_neg (by rw [hd]; decide)]
        unfold MB.agree
        by_cases hw:wth p.who f.From ≠ p.v.Set
        · rw [if_pos hw]
          have h9:=uw_le n { m with prop:=some { p with who:=wth p.who f.From,states:=p.states ++ f.States } }
          show 0 + uw n { m with prop:=some { p with who:=wth p.who f.From,states:=p.states ++ f.States } } + 1 ≤ fw f + uw n m
          rw [hu]; omega
        · rw [if_neg hw]
          have hset:=hl.set _ (h.pin p hp).1
          have hlen:=lst_len (wto_pow (z:=(m.self:Int)) (pow16 hn hset.2.1) hset.2.1)
          rw [hu]
          show bw (List.map _ (lst (wto p.v.Set m.self))) + 0 + 1 ≤ _
          rw [bw_one _ (fun o ho => by obtain ⟨z,_,rfl⟩:=List.mem_map.1 ho; show (5:Nat) ≠ 2; decide),List.length_map]
          omega
      · show 0 + uw n m + 1 ≤ _; omega
  split
  · cases hp:m.prop with
    | none => 
      simp only []
      show 0 + uw n m + 1 ≤ fw f + uw n m; omega
    | some p =>
      simp only []
      split
      · show 0 + 0 + 1 ≤ _; omega
      · show 0 + uw n m + 1 ≤ fw f + uw n m; omega
  split
  · split
    · show 0 + uw n m + 1 ≤ _; omega
    · show 0 + uw n m + 1 ≤ _; omega
  · show 0 + uw n m + 1 ≤ _; omega
theorem pot_comes (h:Inv B log g) (hb:g.bag = o::rest):((g.pop rest).inAt o).pot + 1 ≤ g.pot:=by
  have ho:=h.bag o (by rw [hb]; exact List.mem_cons_self)
  have hi:o.To.toNat < g.n:=by have:=ho.1; omega
  have h1:=inn_pot (st:=stOf (g.m o.To.toNat)) (h.node _ hi) h.log hi h.n16 ho.2.1
  have h2:=us_set g.n ((g.m o.To.toNat).inn o.F (stOf (g.m o.To.toNat))).1 g.ms o.To.toNat (by rw [h.len]; exact hi)
  show bw (rest ++ ((g.m o.To.toNat).inn o.F (stOf (g.m o.To.toNat))).2.1) + us g.n (g.ms.set o.To.toNat ((g.m o.To.toNat).inn o.F (stOf (g.m o.To.toNat))).1) + 1 ≤ bw g.bag + us g.n g.ms
  rw [bw_app,hb]
  show _ ≤ fw o.F + bw rest + _
  have h3:uw g.n (g.ms.getD o.To.toNat m00) = uw g.n (g.m o.To.toNat):=rfl
  omega
theorem beatsTo_len (g:GG) (i k:Nat):(g.beatsTo i k).length ≤ k:=by
  unfold GG.beatsTo
  rw [List.length_map]
  exact Nat.le_trans (List.length_filter_le _ _) (by rw [List.length_range]; exact Nat.le_refl _)
theorem tick_len (h:Inv B log g) (hB:B < 4611686018427387904) (hi:i < g.n) (e:Nat):(g.tickAt i e).bag.length ≤ g.bag.length + g.n:=by
  have hst:=(tick_step (h.node i hi) h.log hi h.n16 hB e (st:=stOf (g.m i)) rfl).2.len
  show (g.bag ++ _).length ≤ _
  rw [List.length_append]; omega
theorem in_len (h:Inv B log g) (hB:1 ≤ B) (ho:(0 ≤ o.To∧o.To < (g.n:Int))∧FrOk log g.n B o.F):(g.inAt o).bag.length ≤ g.bag.length + g.n:=by
  have hi:o.To.toNat < g.n:=by omega
  have:=(inn_step (st:=stOf (g.m o.To.toNat)) (h.node _ hi) h.log hi h.n16 ho.2 hB rfl).len
  show (g.bag ++ _).length ≤ _
  rw [List.length_append]; omega
theorem comes_len (h:Inv B log g) (hB:1 ≤ B) (k:Nat) (keep hand:Bool):(g.comes k keep hand).bag.length ≤ g.bag.length + g.n:=by
  unfold GG.comes
  split
  · omega
  · rename_i hne
    have hlt:k % g.bag.length < g.bag.length:=Nat.mod_lt _ (List.length_pos_iff.2 hne)
    have hmem:g.bag.getD (k % g.bag.length) o00 ∈ g.bag:=by
      rw [List.getD_eq_getElem?_getD,List.getElem?_eq_getElem hlt]; exact List.getElem_mem hlt
    have ho:=h.bag _ hmem
    have hw:(g.without (k % g.bag.length)).bag.length ≤ g.bag.length:=List.length_eraseIdx_le ..
    cases keep <;> cases hand
    · show (g.without _).bag.length ≤ _; omega
    · have:=in_len (h.without (k % g.bag.length)) hB ⟨ho.1,ho.2.1⟩
      exact Nat.le_trans this (Nat.add_le_add_right hw _)
    · show g.bag.length ≤ _; omega
    · exact in_len h hB ⟨ho.1,ho.2.1⟩
theorem move_len (h:Inv B log g) (hB:1 ≤ B) (hB2:B < 4611686018427387904) (a:GMove):(g.move a).bag.length ≤ g.bag.length + g.n:=by
  have hn:=h.n1
  have hi:a.I % g.n < g.n:=Nat.mod_lt _ (by omega)
  unfold GG.move
  split
  · exact tick_len h hB2 hi _
  split
  · exact comes_len h hB _ _ _
  · show (g.bag ++ _).length ≤ _
    rw [List.length_append]
    have:=beatsTo_len g (a.I % g.n) g.n; omega
theorem comes_n (g:GG) (k:Nat) (keep hand:Bool):(g.comes k keep hand).n = g.n:=by
  unfold GG.comes
  split
  · rfl
  · cases keep <;> cases hand <;> rfl
theorem move_n (g:GG) (a:GMove):(g.move a).n = g.n:=by
  unfold GG.move
  split
  · rfl
  split
  · exact comes_n ..
  · rfl
end
end Go.FM
