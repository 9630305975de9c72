/- Steps of the proofs over the functions of this seat, printed by a program (gen.py) and checked by Lean. -/
import Derived.Test.YtnikcgcbkdeeeaaDoorW01
import Derived.Test.YtnikcgcbkdeeeaaDoorW00
set_option linter.unusedVariables false
set_option linter.unusedSimpArgs false
namespace Go.FM
open Go
def seeE (e0 e1:List GEvent) (i j:Nat) (v:GView):Bool :=
  let recv:=itemsT e0 i 3 v.ID
  let safe:=(itemsT e0 i 4 v.ID).length
  let other:=itemsT e1 j 3 v.ID
  let mine:=fromT recv j
  match hasT e1 v.ID with
  | none => !(decide (0 < mine.length) || (decide (0 < safe) && has v.Set j))
  | some w => !(decide (w ≠ v) || (!beginsT recv other && !beginsT other recv) || !beginsT mine (itemsT e1 j 2 v.ID)) && !(decide (other.length < safe) && has v.Set j)
      && !(decide (0 < (nextT e0 v.ID).N) && decide (nextT e0 v.ID = nextT e1 v.ID) && decide (recv.length ≠ other.length))
section
variable {tr:List (List GEvent)} {e0 e1:List GEvent} {i j k:Nat} {v w:GView} {x:GItem}
theorem getD_at {α:Type} {l:List α} {d e:α} (h:l[i]? = some e):l.getD i d = e:=by rw [List.getD_eq_getElem?_getD,h]; rfl
theorem seeT_is (h0:tr[i]? = some e0) (h1:tr[j]? = some e1):seeT tr i v j = seeE e0 e1 i j v:=by
  unfold seeT seeE; rw [getD_at h0,getD_at h1] <;> (cases hasT e1 v.ID <;> rfl)
theorem has_some (hs:(hasT e1 v.ID).isSome = true):hasT e1 v.ID = some ((hasT e1 v.ID).getD view0):=by
  cases h:hasT e1 v.ID with
  | none => rw [h] at hs; cases hs
  | some w => rfl
theorem has_none (hs:(hasT e1 v.ID).isSome = false):hasT e1 v.ID = none:=by
  cases h:hasT e1 v.ID with
  | none => rfl
  | some w => rw [h] at hs; cases hs
theorem see_none_ok (hs:(hasT e1 v.ID).isSome = false) (h:¬ (0 < (fromT (itemsT e0 i 3 v.ID) j).length ∨ (0 < (itemsT e0 i 4 v.ID).length∧has v.Set j = true))):seeE e0 e1 i j v = true:=by
  unfold seeE
  rw [has_none hs]
  have h1:¬ 0 < (fromT (itemsT e0 i 3 v.ID) j).length:=fun k => h (.inl k)
  simp only [decide_eq_false h1]
  by_cases h2:0 < (itemsT e0 i 4 v.ID).length
  · have h3:has v.Set j = false:=by
      cases h4:has v.Set j with
      | false => rfl
      | true => exact absurd (.inr ⟨h2,h4⟩) h
    simp [h3]
  · simp [h2]
theorem see_ok (hs:(hasT e1 v.ID).isSome = true) (h1:(hasT e1 v.ID).getD view0 = v) (h2:beginsT (itemsT e0 i 3 v.ID) (itemsT e1 j 3 v.ID) = true ∨ beginsT (itemsT e1 j 3 v.ID) (itemsT e0 i 3 v.ID) = true)
    (h3:beginsT (fromT (itemsT e0 i 3 v.ID) j) (itemsT e1 j 2 v.ID) = true) (h4:¬ ((itemsT e1 j 3 v.ID).length < (itemsT e0 i 4 v.ID).length∧has v.Set j = true))
    (h5:¬ (0 < (nextT e0 v.ID).N∧nextT e0 v.ID = nextT e1 v.ID∧(itemsT e0 i 3 v.ID).length ≠ (itemsT e1 j 3 v.ID).length)):seeE e0 e1 i j v = true:=by
  unfold seeE
  rw [has_some hs,h1]
  have a2:(!beginsT (itemsT e0 i 3 v.ID) (itemsT e1 j 3 v.ID) && !beginsT (itemsT e1 j 3 v.ID) (itemsT e0 i 3 v.ID)) = false:=by
    rcases h2 with h | h <;> rw [h] <;> simp
  have a4:(decide ((itemsT e1 j 3 v.ID).length < (itemsT e0 i 4 v.ID).length) && has v.Set j) = false:=by
    rw [Bool.and_eq_false_iff]
    by_cases k:(itemsT e1 j 3 v.ID).length < (itemsT e0 i 4 v.ID).length
    · right; exact Bool.eq_false_iff.2 fun k2 => h4 ⟨k,k2⟩
    · left; exact decide_eq_false k
  have a5:(decide (0 < (nextT e0 v.ID).N) && decide (nextT e0 v.ID = nextT e1 v.ID) && decide ((itemsT e0 i 3 v.ID).length ≠ (itemsT e1 j 3 v.ID).length)) = false:=by
    cases h:(decide (0 < (nextT e0 v.ID).N) && decide (nextT e0 v.ID = nextT e1 v.ID) && decide ((itemsT e0 i 3 v.ID).length ≠ (itemsT e1 j 3 v.ID).length)) with
    | false => rfl
    | true =>
      simp only [Bool.and_eq_true,decide_eq_true_eq] at h
      exact absurd ⟨h.1.1,h.1.2,h.2⟩ h5
  simp only [h3,a2,a4,a5]
  simp
theorem late_is (h0:tr[i]? = some e0):lateT tr i v j = !(decide (0 < (itemsT e0 i 4 v.ID).length) && has v.Set j):=by
  unfold lateT; rw [getD_at h0]
theorem late_ok (h0:tr[i]? = some e0) (h:¬ (0 < (itemsT e0 i 4 v.ID).length∧has v.Set j = true)):lateT tr i v j = true:=by
  rw [late_is h0]
  cases k:(decide (0 < (itemsT e0 i 4 v.ID).length) && has v.Set j) with
  | false => rfl
  | true => simp only [Bool.and_eq_true,decide_eq_true_eq] at k; exact absurd k h
theorem inview_yes (h0:tr[i]? = some e0) (hfr:∀ k x,k < (itemsT e0 i 3 v.ID).length → (itemsT e0 i 3 v.ID)[k]? = some x → 0 ≤ x.From∧x.From < (tr.length:Int)) (hse:∀ j,j < tr.length → seeT tr i v j = true) (hla:∀ j,tr.length ≤ j → j < 16 → lateT tr i v j = true):inviewT tr i v = true:=by
  unfold inviewT
  rw [getD_at h0,Bool.and_eq_true,Bool.and_eq_true]
  refine ⟨⟨List.all_eq_true.2 fun x hx => ?_,List.all_eq_true.2 fun j hj => hse j (List.mem_range.1 hj)⟩,List.all_eq_true.2 fun j hj => ?_⟩
  · obtain ⟨k,hk,rfl⟩:=List.getElem_of_mem hx
    exact decide_eq_true (hfr k _ hk (List.getElem?_eq_getElem hk))
  · by_cases hjl:j < tr.length
    · rw [decide_eq_true hjl]; rfl
    · rw [hla j (by omega) (List.mem_range.1 hj)]; simp
theorem see_next {p:Nat → Prop} (hb:∀ j,j < k → p j) (h:p k):∀ j,j < k + 1 → p j:=fun j hj => by
  rcases Nat.lt_succ_iff_lt_or_eq.1 hj with h1 | rfl
  · exact hb j h1
  · exact h
theorem tr_next {p:Nat → List GEvent → Prop} (hb:∀ (j:Nat) (e:List GEvent),j < k → tr[j]? = some e → p j e) (h:tr[k]? = some e0) (hp:p k e0):∀ (j:Nat) (e:List GEvent),j < k + 1 → tr[j]? = some e → p j e:=fun j u hj hu => by
  rcases Nat.lt_succ_iff_lt_or_eq.1 hj with h1 | rfl
  · exact hb j u h1 hu
  · rw [h] at hu; cases hu; exact hp
theorem refV_no1 (h:tr[i]? = some e0) (ha:aloneT i e0 = false):refV tr = false:=by
  unfold refV
  rw [Bool.and_eq_false_iff]
  exact .inl (List.all_eq_false.2 ⟨i,List.mem_range.2 (List.getElem?_eq_some_iff.1 h).1,by rw [getD_at h,ha]; decide⟩)
theorem refV_yes (h1:∀ (i:Nat) (e:List GEvent),i < tr.length → tr[i]? = some e → aloneT i e = true) (h2:∀ (i:Nat) (e:List GEvent),i < tr.length → tr[i]? = some e → ∀ (k:Nat) (v:GView),(viewsT e)[k]? = some v → inviewT tr i v = true):refV tr = true:=by
  unfold refV
  rw [Bool.and_eq_true]
  constructor
  · refine List.all_eq_true.2 fun i hi => ?_
    have hi:=List.mem_range.1 hi
    rw [getD_at (List.getElem?_eq_getElem hi)]
    exact h1 i _ hi (List.getElem?_eq_getElem hi)
  · refine List.all_eq_true.2 fun i hi => ?_
    have hi:=List.mem_range.1 hi
    rw [getD_at (List.getElem?_eq_getElem hi)]
    refine List.all_eq_true.2 fun v hv => ?_
    obtain ⟨k,hk,rfl⟩:=List.getElem_of_mem hv
    exact h2 i _ hi (List.getElem?_eq_getElem hi) k _ (List.getElem?_eq_getElem hk)
end
end Go.FM

set_option linter.unusedVariables false
set_option linter.unusedSimpArgs false
namespace Go.FM
open Go
structure GTime where
  P:Nat → Nat → Bool
  S:Nat → Nat
  A:Nat → List (Nat × List Nat)
  h:Nat → Nat → Nat
  sf:Nat → Nat → Nat
def gID (r:Nat):GViewID:=⟨r + 1,0⟩
def GTime.V (g:GTime) (r:Nat):GView:=⟨gID r,g.S r⟩
def evSend (v:GView) (p:Nat × List Nat):GEvent:=⟨2,v,0,p.2⟩
def evRecv (v:GView) (p:Nat × List Nat):GEvent:=⟨3,v,(p.1:Int),p.2⟩
def evSafe (v:GView) (p:Nat × List Nat):GEvent:=⟨4,v,(p.1:Int),p.2⟩
def itP (p:Nat × List Nat):GItem:=⟨(p.1:Int),p.2⟩
def GTime.evs (g:GTime) (i r:Nat):List GEvent :=
  ⟨1,g.V r,0,[]⟩::(((g.A r).filter (fun p => decide (p.1 = i))).map (evSend (g.V r)) ++ (((g.A r).take (g.h r i)).map (evRecv (g.V r)) ++ ((g.A r).take (g.sf r i)).map (evSafe (g.V r))))
def GTime.tr (g:GTime) (i:Nat):Nat → List GEvent
  | 0 => []
  | R + 1 => g.tr i R ++ (if g.P i R = true then g.evs i R else [])
def GTime.all (g:GTime) (n R:Nat):List (List GEvent):=(List.range n).map (fun i => g.tr i R)
section
variable {g:GTime} {i j r q R n k:Nat} {v:GView} {node:Int} {l a b:List GEvent} {ps:List (Nat × List Nat)} {s:AS}
theorem filt_no {α:Type} {f:α → GEvent} {p:GEvent → Bool} (l:List α) (hp:∀ x,p (f x) = false):(l.map f).filter p = []:=by
  rw [List.filter_eq_nil_iff]
  intro a ha
  obtain ⟨x,_,rfl⟩:=List.mem_map.1 ha
  rw [hp x]; decide
theorem filt_yes {α:Type} {f:α → GEvent} {p:GEvent → Bool} (l:List α) (hp:∀ x,p (f x) = true):(l.map f).filter p = l.map f:=by
  rw [List.filter_eq_self]
  intro a ha
  obtain ⟨x,_,rfl⟩:=List.mem_map.1 ha
  exact hp x
theorem g_views_app:viewsT (a ++ b) = viewsT a ++ viewsT b:=by unfold viewsT; rw [List.filter_append,List.map_append]
theorem g_items_app {κ:Nat} {u:GViewID}:itemsT (a ++ b) node κ u = itemsT a node κ u ++ itemsT b node κ u:=by unfold itemsT; rw [List.filter_append,List.map_append]
theorem views_evs:viewsT (g.evs i r) = [g.V r]:=by
  unfold viewsT GTime.evs
  rw [List.filter_cons_of_pos (by simp),List.filter_append,List.filter_append,filt_no _ (fun x => by simp [evSend]),filt_no _ (fun x => by simp [evRecv]),filt_no _ (fun x => by simp [evSafe])]
  rfl
theorem evs_view:∀ e ∈ g.evs i r,e.View = g.V r:=by
  intro e he
  unfold GTime.evs at he
  rcases List.mem_cons.1 he with rfl | he
  · rfl
  rcases List.mem_append.1 he with he | he
  · obtain ⟨x,_,rfl⟩:=List.mem_map.1 he; rfl
  rcases List.mem_append.1 he with he | he
  · obtain ⟨x,_,rfl⟩:=List.mem_map.1 he; rfl
  · obtain ⟨x,_,rfl⟩:=List.mem_map.1 he; rfl
theorem gid_ne (h:r ≠ q):gID r ≠ gID q:=fun e => by
  unfold gID at e
  injection e with e1 e2
  omega
theorem items_other {κ:Nat} (h:r ≠ q):itemsT (g.evs i r) node κ (gID q) = []:=by
  unfold itemsT
  rw [List.filter_eq_nil_iff.2,List.map_nil]
  intro e he
  rw [evs_view e he,decide_eq_false (show ¬ (g.V r).ID = gID q from gid_ne h)]
  simp
theorem items_recv:itemsT (g.evs i r) node 3 (gID r) = ((g.A r).take (g.h r i)).map itP:=by
  unfold itemsT GTime.evs
  rw [List.filter_cons_of_neg (by simp),List.filter_append,List.filter_append,filt_no _ (fun x => by simp [evSend]),filt_yes _ (fun x => by simp [evRecv,GTime.V]),filt_no _ (fun x => by simp [evSafe]),List.nil_append,List.append_nil,List.map_map]
  rfl
theorem items_safe:itemsT (g.evs i r) node 4 (gID r) = ((g.A r).take (g.sf r i)).map itP:=by
  unfold itemsT GTime.evs
  rw [List.filter_cons_of_neg (by simp),List.filter_append,List.filter_append,filt_no _ (fun x => by simp [evSend]),filt_no _ (fun x => by simp [evRecv]),filt_yes _ (fun x => by simp [evSafe,GTime.V]),List.nil_append,List.nil_append,List.map_map]
  rfl
theorem items_sent:itemsT (g.evs i r) (i:Int) 2 (gID r) = ((g.A r).filter (fun p => decide (p.1 = i))).map itP:=by
  unfold itemsT GTime.evs
  rw [List.filter_cons_of_neg (by simp),List.filter_append,List.filter_append,filt_yes _ (fun x => by simp [evSend,GTime.V]),filt_no _ (fun x => by simp [evRecv]),filt_no _ (fun x => by simp [evSafe]),List.append_nil,List.append_nil,List.map_map]
  refine List.map_congr_left fun p hp => ?_
  have:=of_decide_eq_true (List.mem_filter.1 hp).2
  show GItem.mk (i:Int) p.2 = GItem.mk (p.1:Int) p.2
  rw [this]
theorem tr_views:∀ (R:Nat),viewsT (g.tr i R) = ((List.range R).filter (g.P i)).map g.V
  | 0 => rfl
  | R + 1 => by
    unfold GTime.tr
    rw [g_views_app,tr_views R,List.range_succ,List.filter_append,List.map_append]
    congr 1
    split
    · rename_i h; rw [views_evs,List.filter_cons_of_pos h]; rfl
    · rename_i h; rw [List.filter_cons_of_neg h]; rfl
theorem tr_items_no {κ:Nat}:∀ (R:Nat),R ≤ r → itemsT (g.tr i R) node κ (gID r) = []
  | 0,_ => rfl
  | R + 1,h => by
    unfold GTime.tr
    rw [g_items_app,tr_items_no R (by omega)]
    split
    · rw [items_other (by omega)]; rfl
    · rfl
theorem tr_items {κ:Nat}:∀ (R:Nat),r < R → itemsT (g.tr i R) node κ (gID r) = if g.P i r = true then itemsT (g.evs i r) node κ (gID r) else []
  | 0,h => absurd h (Nat.not_lt_zero _)
  | R + 1,h => by
    unfold GTime.tr
    rw [g_items_app]
    by_cases hr:r = R
    · subst hr
      rw [tr_items_no r (Nat.le_refl _),List.nil_append]
      split
      · rename_i h2; rfl
      · rfl
    · rw [tr_items R (by omega)]
      have:itemsT (if g.P i R = true then g.evs i R else []) node κ (gID r) = []:=by
        split
        · exact items_other (fun e => hr e.symm)
        · rfl
      rw [this,List.append_nil]
theorem tr_has:∀ (R:Nat),hasT (g.tr i R) (gID r) = if r < R∧g.P i r = true then some (g.V r) else none
  | 0 => rfl
  | R + 1 => by
    have ih:=tr_has R
    unfold hasT at ih ⊢
    unfold GTime.tr
    rw [g_views_app,List.find?_append,ih]
    by_cases hP:g.P i R = true
    · rw [if_pos hP,views_evs]
      by_cases hr:r = R
      · subst hr
        rw [if_neg (by omega),if_pos ⟨by omega,hP⟩,List.find?_cons_of_pos (by simp [GTime.V])]; rfl
      · rw [List.find?_cons_of_neg (by rw [decide_eq_false (show ¬ (g.V R).ID = gID r from gid_ne fun e => hr e.symm)]; decide),List.find?_nil,Option.or_none]
        by_cases h2:r < R∧g.P i r = true
        · rw [if_pos h2,if_pos ⟨by omega,h2.2⟩]
        · rw [if_neg h2,if_neg fun h3 => h2 ⟨by omega,h3.2⟩]
    · rw [if_neg hP]
      show (if r < R∧g.P i r = true then some (g.V r) else none).or none = _
      rw [Option.or_none]
      by_cases h2:r < R∧g.P i r = true
      · rw [if_pos h2,if_pos ⟨by omega,h2.2⟩]
      · rw [if_neg h2,if_neg fun h3 => h2 ⟨by
          rcases Nat.lt_succ_iff_lt_or_eq.1 h3.1 with h4 | h4
          · exact h4
          · subst h4; exact absurd h3.2 hP,h3.2⟩]
theorem next_of (g:GTime) (r:Nat):∀ (l:List Nat),l.Pairwise (· < ·) → nextOf (l.map g.V) (gID r) = vid0 ∨ ∃ q,q ∈ l∧r < q∧nextOf (l.map g.V) (gID r) = gID q
  | [],_ => .inl rfl
  | [x],_ => .inl rfl
  | x::y::l,hp => by
    show nextOf (g.V x::g.V y::l.map g.V) (gID r) = vid0 ∨ _
    by_cases h:x = r
    · subst h
      refine .inr ⟨y,by simp,(List.pairwise_cons.1 hp).1 y (by simp),?_⟩
      show nextOf (g.V x::g.V y::l.map g.V) (gID x) = _
      unfold nextOf; rw [if_pos (show (g.V x).ID = gID x from rfl)]; rfl
    · have e:nextOf (g.V x::g.V y::l.map g.V) (gID r) = nextOf ((y::l).map g.V) (gID r):=by
        conv => lhs; unfold nextOf
        rw [if_neg (show ¬ (g.V x).ID = gID r from gid_ne h)]; rfl
      rcases next_of g r (y::l) (List.pairwise_cons.1 hp).2 with h1 | ⟨q,h1,h2,h3⟩
      · left; rw [e]; exact h1
      · right; exact ⟨q,List.mem_cons_of_mem _ h1,h2,by show nextOf (g.V x::g.V y::l.map g.V) (gID r) = _; rw [e]; exact h3⟩
theorem tr_next_id (g:GTime) (i r R:Nat):nextT (g.tr i R) (gID r) = vid0 ∨ ∃ q,q < R∧r < q∧g.P i q = true∧nextT (g.tr i R) (gID r) = gID q:=by
  unfold nextT
  rw [tr_views]
  rcases next_of g r ((List.range R).filter (g.P i)) (List.pairwise_lt_range.filter _) with h | ⟨q,h1,h2,h3⟩
  · exact .inl h
  · have:=List.mem_filter.1 h1
    exact .inr ⟨q,List.mem_range.1 this.1,h2,this.2,h3⟩
def aFold (node:Int) (s:AS) (l:List GEvent):Option AS:=l.foldl (fun o e => o.bind (fun s => aStep node s e)) (some s)
theorem aFold_app:aFold node s (a ++ b) = (aFold node s a).bind (fun s => aFold node s b):=by
  unfold aFold
  rw [List.foldl_append]
  cases List.foldl (fun o e => o.bind (fun s => aStep node s e)) (some s) a with
  | none => rw [foldl_none]; rfl
  | some s' => rfl
theorem aFold_cons {e:GEvent}:aFold node s (e::l) = (aStep node s e).bind (fun s => aFold node s l):=by
  have:=aFold_app (node:=node) (s:=s) (a:=[e]) (b:=l)
  rw [List.singleton_append] at this
  rw [this]; rfl
theorem fold_sends:∀ (ps:List (Nat × List Nat)) {x y:Nat},y ≤ x → aFold node ⟨true,v,x,y⟩ (ps.map (evSend v)) = some ⟨true,v,x,y⟩
  | [],_,_,_ => rfl
  | p::ps,x,y,h => by
    rw [List.map_cons,aFold_cons,aS_ok (r:=x) (f:=y) (.inl rfl) (by simp [evSend]) (by simp [evSend]) ⟨⟨rfl,rfl⟩,h⟩]
    exact fold_sends ps h
theorem fold_recvs:∀ (ps:List (Nat × List Nat)) {x y:Nat},y ≤ x → aFold node ⟨true,v,x,y⟩ (ps.map (evRecv v)) = some ⟨true,v,x + ps.length,y⟩
  | [],_,_,_ => rfl
  | p::ps,x,y,h => by
    rw [List.map_cons,aFold_cons,aS_ok (r:=x + 1) (f:=y) (.inr (.inl rfl)) (by simp [evRecv]) (by simp [evRecv]) ⟨⟨rfl,rfl⟩,by omega⟩]
    refine (fold_recvs ps (x:=x + 1) (by omega)).trans ?_
    rw [List.length_cons,Nat.add_right_comm,Nat.add_assoc]
theorem fold_safes:∀ (ps:List (Nat × List Nat)) {x y:Nat},y + ps.length ≤ x → aFold node ⟨true,v,x,y⟩ (ps.map (evSafe v)) = some ⟨true,v,x,y + ps.length⟩
  | [],_,_,_ => rfl
  | p::ps,x,y,h => by
    rw [List.length_cons] at h
    rw [List.map_cons,aFold_cons,aS_ok (r:=x) (f:=y + 1) (.inr (.inr rfl)) (by simp [evSafe]) (by simp [evSafe]) ⟨⟨rfl,rfl⟩,by omega⟩]
    refine (fold_safes ps (y:=y + 1) (by omega)).trans ?_
    rw [List.length_cons,Nat.add_right_comm,Nat.add_assoc]
theorem cmp_gid (h:q < r):0 < cmpV (r + 1) 0 (q + 1) 0:=by
  unfold cmpV cmpI
  rw [if_neg (show ¬ (((r + 1:Nat):Int) < ((q + 1:Nat):Int)) by omega),if_pos (show ((q + 1:Nat):Int) < ((r + 1:Nat):Int) by omega)]
  decide
theorem fold_evs (hh:has (g.S r) node = true) (hs:s.on = true → ∃ q,q < r∧s.cur.ID = gID q) (h1:((g.A r).take (g.sf r i)).length ≤ ((g.A r).take (g.h r i)).length):∃ x y,aFold node s (g.evs i r) = some ⟨true,g.V r,x,y⟩:=by
  unfold GTime.evs
  rw [aFold_cons,aS_1ok rfl ⟨⟨(by show ¬ r + 1 = 0; omega),hh⟩,fun ho => by
    obtain ⟨q,hq,e⟩:=hs ho
    rw [e]; exact cmp_gid hq⟩]
  show ∃ x y,aFold node ⟨true,g.V r,0,0⟩ _ = _
  rw [aFold_app,fold_sends _ (Nat.le_refl _),Option.bind_some,aFold_app,fold_recvs _ (Nat.le_refl _),Option.bind_some,fold_safes _ (by omega)]
  exact ⟨_,_,rfl⟩
structure GTime.Ok (g:GTime) (n R:Nat):Prop where
  n16:n ≤ 16
  inS:∀ i r,r < R → g.P i r = true → has (g.S r) (i:Int) = true
  sfh:∀ i r,r < R → g.P i r = true → ((g.A r).take (g.sf r i)).length ≤ ((g.A r).take (g.h r i)).length
  sfo:∀ i j r,r < R → j < n → g.P i r = true → has (g.S r) (j:Int) = true → 0 < g.sf r i → g.P j r = true∧((g.A r).take (g.sf r i)).length ≤ ((g.A r).take (g.h r j)).length
  out:∀ i j r,r < R → g.P i r = true → g.P j r = false → ∀ p ∈ (g.A r).take (g.h r i),p.1 ≠ j
  nxt:∀ i j r q,r < q → q < R → g.P i r = true → g.P j r = true → g.P i q = true → g.P j q = true → g.h r i = g.h r j
  top:∀ (j r:Nat),r < R → has (g.S r) (j:Int) = true → j < n
  frm:∀ r,r < R → ∀ p ∈ g.A r,p.1 < n
theorem fold_tr (ok:g.Ok n R):∀ (k:Nat),k ≤ R → ∃ s,aRun (i:Int) (g.tr i k) = some s∧(s.on = true → ∃ q,q < k∧s.cur.ID = gID q)
  | 0,_ => ⟨⟨false,view0,0,0⟩,rfl,fun h => by cases h⟩
  | k + 1,hk => by
    obtain ⟨s,h1,h2⟩:=fold_tr ok k (by omega)
    have e:aRun (i:Int) (g.tr i (k + 1)) = (aRun (i:Int) (g.tr i k)).bind (fun s => aFold (i:Int) s (if g.P i k = true then g.evs i k else [])):=by
      show aFold (i:Int) _ (g.tr i k ++ _) = _
      rw [aFold_app]; rfl
    rw [e,h1,Option.bind_some]
    by_cases hP:g.P i k = true
    · rw [if_pos hP]
      obtain ⟨x,y,h3⟩:=fold_evs (s:=s) (ok.inS i k (by omega) hP) h2 (ok.sfh i k (by omega) hP)
      exact ⟨_,h3,fun _ => ⟨k,by omega,rfl⟩⟩
    · rw [if_neg hP]
      exact ⟨s,rfl,fun h => by obtain ⟨q,h3,h4⟩:=h2 h; exact ⟨q,by omega,h4⟩⟩
theorem begins_take {l:List (Nat × List Nat)} {x y:Nat} (h:(l.take x).length ≤ (l.take y).length):beginsT ((l.take x).map itP) ((l.take y).map itP) = true:=by
  unfold beginsT
  rw [Bool.and_eq_true]
  refine ⟨decide_eq_true (by rw [List.length_map,List.length_map]; exact h),decide_eq_true ?_⟩
  rw [List.length_map,← List.map_take,List.take_take]
  congr 1
  rw [List.length_take] at h ⊢
  rw [List.length_take] at h
  rw [List.take_eq_take_iff]
  omega
theorem alone_tr (ok:g.Ok n R):aloneT (i:Int) (g.tr i R) = true:=by
  obtain ⟨s,h1,_⟩:=fold_tr (i:=i) ok R (Nat.le_refl _)
  unfold aloneT
  rw [h1,Option.isSome_some,Bool.true_and]
  refine List.all_eq_true.2 fun w hw => ?_
  rw [tr_views] at hw
  obtain ⟨r,hr,rfl⟩:=List.mem_map.1 hw
  have hr:=List.mem_filter.1 hr
  have hrR:=List.mem_range.1 hr.1
  show beginsT (itemsT _ _ 4 (gID r)) (itemsT _ _ 3 (gID r)) = true
  rw [tr_items R hrR,tr_items R hrR,if_pos hr.2,if_pos hr.2,items_recv,items_safe]
  exact begins_take (ok.sfh i r hrR hr.2)
theorem from_map:fromT (ps.map itP) (j:Int) = (ps.filter (fun p => decide (p.1 = j))).map itP:=by
  unfold fromT
  rw [List.filter_map]
  congr 1
  refine List.filter_congr fun p hp => ?_
  show decide ((p.1:Int) = (j:Int)) = _
  exact decide_eq_decide.2 (by omega)
theorem begins_pre {a b:List GItem} (h:∃ c,b = a ++ c):beginsT a b = true:=by
  obtain ⟨c,rfl⟩:=h
  unfold beginsT
  rw [Bool.and_eq_true]
  exact ⟨decide_eq_true (by rw [List.length_append]; omega),decide_eq_true (by rw [List.take_left'] <;> rfl)⟩
theorem see_tr (ok:g.Ok n R) (hr:r < R) (hj:j < n) (hP:g.P i r = true):seeE (g.tr i R) (g.tr j R) i j (g.V r) = true:=by
  have hrecv:itemsT (g.tr i R) i 3 (g.V r).ID = ((g.A r).take (g.h r i)).map itP:=(tr_items R hr).trans (by rw [if_pos hP,items_recv])
  have hsafe:itemsT (g.tr i R) i 4 (g.V r).ID = ((g.A r).take (g.sf r i)).map itP:=(tr_items R hr).trans (by rw [if_pos hP,items_safe])
  have hhas:hasT (g.tr j R) (g.V r).ID = if r < R∧g.P j r = true then some (g.V r) else none:=tr_has R
  have hsl:(itemsT (g.tr i R) i 4 (g.V r).ID).length = ((g.A r).take (g.sf r i)).length:=by rw [hsafe,List.length_map]
  have hs0:0 < (itemsT (g.tr i R) i 4 (g.V r).ID).length → 0 < g.sf r i:=by
    rw [hsl,List.length_take]; omega
  by_cases hQ:g.P j r = true
  · rw [if_pos ⟨hr,hQ⟩] at hhas
    have hother:itemsT (g.tr j R) j 3 (g.V r).ID = ((g.A r).take (g.h r j)).map itP:=(tr_items R hr).trans (by rw [if_pos hQ,items_recv])
    have hsent:itemsT (g.tr j R) j 2 (g.V r).ID = ((g.A r).filter (fun p => decide (p.1 = j))).map itP:=(tr_items R hr).trans (by rw [if_pos hQ,items_sent])
    refine see_ok (by rw [hhas]; rfl) (by rw [hhas]; rfl) ?_ ?_ ?_ ?_
    · rw [hrecv,hother]
      rcases Nat.le_total ((g.A r).take (g.h r i)).length ((g.A r).take (g.h r j)).length with h | h
      · exact .inl (begins_take h)
      · exact .inr (begins_take h)
    · rw [hrecv,hsent,from_map]
      refine begins_pre ⟨(((g.A r).drop (g.h r i)).filter (fun p => decide (p.1 = j))).map itP,?_⟩
      rw [← List.map_append,← List.filter_append,List.take_append_drop]
    · rintro ⟨h1,h2⟩
      have:=(ok.sfo i j r hr hj hP h2 (hs0 (by omega))).2
      rw [hother,List.length_map,hsl] at h1
      omega
    · rintro ⟨h1,h2,h3⟩
      apply h3
      rw [hrecv,hother,List.length_map,List.length_map]
      rcases tr_next_id g i r R with h4 | ⟨q,hq,hrq,hPq,h4⟩
      · rw [show nextT (g.tr i R) (g.V r).ID = vid0 from h4] at h1; exact absurd h1 (by decide)
      rcases tr_next_id g j r R with h5 | ⟨q',hq',hrq',hPq',h5⟩
      · rw [h2,show nextT (g.tr j R) (g.V r).ID = vid0 from h5] at h1; exact absurd h1 (by decide)
      have:q = q':=by
        have h6:gID q = gID q':=by rw [← h4,← h5]; exact h2
        unfold gID at h6
        injection h6 with h7 h8
        omega
      subst this
      rw [ok.nxt i j r q hrq hq hP hQ hPq hPq']
  · rw [if_neg (fun h => hQ h.2)] at hhas
    refine see_none_ok (by rw [hhas]; rfl) ?_
    rintro (h | ⟨h1,h2⟩)
    · rw [hrecv,from_map,List.length_map] at h
      obtain ⟨p,hp⟩:=List.exists_mem_of_length_pos h
      have:=List.mem_filter.1 hp
      exact ok.out i j r hr hP (by simpa using hQ) p this.1 (of_decide_eq_true this.2)
    · exact hQ (ok.sfo i j r hr hj hP h2 (hs0 h1)).1
theorem all_get (hi:i < n):(g.all n R)[i]? = some (g.tr i R):=by
  unfold GTime.all
  rw [List.getElem?_map,List.getElem?_range hi]; rfl
theorem all_len:(g.all n R).length = n:=by unfold GTime.all; rw [List.length_map,List.length_range]
theorem grp_ref (ok:g.Ok n R):refV (g.all n R) = true:=by
  refine refV_yes (fun i e hi he => ?_) fun i e hi he k v hv => ?_
  · rw [all_len] at hi
    rw [all_get hi] at he; cases he
    exact alone_tr ok
  · rw [all_len] at hi
    rw [all_get hi] at he; cases he
    have hv:=List.mem_of_getElem? hv
    rw [tr_views] at hv
    obtain ⟨r,hr,rfl⟩:=List.mem_map.1 hv
    have hr:=List.mem_filter.1 hr
    have hrR:=List.mem_range.1 hr.1
    have hrecv:itemsT (g.tr i R) i 3 (g.V r).ID = ((g.A r).take (g.h r i)).map itP:=(tr_items R hrR).trans (by rw [if_pos hr.2,items_recv])
    refine inview_yes (all_get hi) (fun k x _ hx => ?_) (fun j hj => ?_) fun j hj hj2 => ?_
    · rw [hrecv] at hx
      obtain ⟨p,hp,rfl⟩:=List.mem_map.1 (List.mem_of_getElem? hx)
      have:=ok.frm r hrR p (List.mem_of_mem_take hp)
      rw [all_len]
      exact ⟨by show (0:Int) ≤ (p.1:Int); omega,by show (p.1:Int) < (n:Int); omega⟩
    · rw [all_len] at hj
      rw [seeT_is (all_get hi) (all_get hj)]
      exact see_tr ok hrR hj hr.2
    · rw [all_len] at hj
      refine late_ok (all_get hi) fun h => ?_
      have:=ok.top j r hrR h.2
      omega
end
end Go.FM

set_option linter.unusedVariables false
set_option linter.unusedSimpArgs false
namespace Go.FM
open Go
def setR (n:Nat) (x:GRun):Nat:=x.Set % (2 ^ n - 1) + 1
def sendOk (n S:Nat) (s:GSend):Bool:=has S ((s.I % n:Nat):Int)
def sendP (n:Nat) (s:GSend):Nat × List Nat:=(s.I % n,s.M)
def sendA (n S:Nat) (ss:List GSend):List (Nat × List Nat):=(ss.filter (sendOk n S)).map (sendP n)
def sameR (had:List Nat) (m:Nat):Nat:=if 0 < had.length then had.getD 0 0 % (m + 1) else m
def hadR (last:Bool) (had:List Nat) (m i:Nat):Nat:=if last = true∧i < had.length then had.getD i 0 % (m + 1) else sameR had m
def leastTo (S:Nat) (hd:Nat → Nat) (m:Nat):Nat → Nat
  | 0 => m
  | i + 1 => if has S (i:Int) = true∧hd i < leastTo S hd m i then hd i else leastTo S hd m i
def safeR (sf:List Nat) (least i:Nat):Nat:=if i < sf.length then sf.getD i 0 % (least + 1) else 0
def runA (n:Nat) (x:GRun):List (Nat × List Nat):=sendA n (setR n x) (x.Sends.take 10)
def lastR (len r:Nat):Bool:=decide (r + 1 = len) || decide (r = 5)
def runH (n len r:Nat) (x:GRun) (i:Nat):Nat:=hadR (lastR len r) x.Had (runA n x).length i
def runL (n len r:Nat) (x:GRun):Nat:=leastTo (setR n x) (runH n len r x) (runA n x).length n
def runS (n len r:Nat) (x:GRun) (i:Nat):Nat:=safeR x.Safe (runL n len r x) i
def run0:GRun:=⟨0,[],[],[]⟩
def timeR (n:Nat) (runs:List GRun):GTime where
  P i r:=has (setR n (runs.getD r run0)) (i:Int)
  S r:=setR n (runs.getD r run0)
  A r:=runA n (runs.getD r run0)
  h r i:=runH n runs.length r (runs.getD r run0) i
  sf r i:=runS n runs.length r (runs.getD r run0) i
def lenR (runs:List GRun):Nat:=min runs.length 6
def tracesP (n:Nat) (runs:List GRun):List (List GEvent):=(timeR n runs).all n (lenR runs)
section
variable {g:GTime} {n r R i j k m len S:Nat} {x:GRun} {runs:List GRun} {s:GSend} {ss:List GSend} {hd:Nat → Nat} {l:List Nat}
theorem pow2_six (h1:1 ≤ n) (h6:n ≤ 6):2 ≤ 2 ^ n∧2 ^ n ≤ 64:=by
  have a:2 ^ 1 ≤ 2 ^ n:=Nat.pow_le_pow_right (by omega) h1
  have b:2 ^ n ≤ 2 ^ 6:=Nat.pow_le_pow_right (by omega) h6
  exact ⟨by simpa using a,by simpa using b⟩
theorem setR_lt (h1:1 ≤ n) (h6:n ≤ 6):1 ≤ setR n x∧setR n x < 2 ^ n:=by
  have:=pow2_six h1 h6
  unfold setR
  have:=Nat.mod_lt x.Set (show 0 < 2 ^ n - 1 by omega)
  omega
theorem sendA_mem {p:Nat × List Nat} (h0:0 < n) (h:p ∈ sendA n S ss):p.1 < n∧has S (p.1:Int) = true:=by
  unfold sendA at h
  obtain ⟨s,hs,rfl⟩:=List.mem_map.1 h
  exact ⟨Nat.mod_lt _ h0,(List.mem_filter.1 hs).2⟩
theorem runA_len:(runA n x).length ≤ 10:=by
  unfold runA sendA
  rw [List.length_map]
  refine Nat.le_trans (List.length_filter_le _ _) ?_
  rw [List.length_take]; omega
theorem sameR_le:sameR l m ≤ m:=by
  unfold sameR
  split
  · have:=Nat.mod_lt (l.getD 0 0) (show 0 < m + 1 by omega); omega
  · exact Nat.le_refl _
theorem hadR_le {last:Bool}:hadR last l m i ≤ m:=by
  unfold hadR
  split
  · have:=Nat.mod_lt (l.getD i 0) (show 0 < m + 1 by omega); omega
  · exact sameR_le
theorem leastTo_le:∀ (k:Nat),leastTo S hd m k ≤ m∧∀ i,i < k → has S (i:Int) = true → leastTo S hd m k ≤ hd i
  | 0 => ⟨Nat.le_refl _,fun i h => absurd h (Nat.not_lt_zero _)⟩
  | k + 1 => by
    obtain ⟨h1,h2⟩:=leastTo_le k
    unfold leastTo
    split
    · rename_i h
      refine ⟨by omega,fun i hi hh => ?_⟩
      rcases Nat.lt_succ_iff_lt_or_eq.1 hi with h3 | rfl
      · have:=h2 i h3 hh; omega
      · exact Nat.le_refl _
    · rename_i h
      refine ⟨h1,fun i hi hh => ?_⟩
      rcases Nat.lt_succ_iff_lt_or_eq.1 hi with h3 | rfl
      · exact h2 i h3 hh
      · by_cases h4:hd i < leastTo S hd m i
        · exact absurd ⟨hh,h4⟩ h
        · omega
theorem safeR_le:safeR l m i ≤ m:=by
  unfold safeR
  split
  · have:=Nat.mod_lt (l.getD i 0) (show 0 < m + 1 by omega); omega
  · exact Nat.zero_le _
theorem take_le_of {α:Type} {l:List α} {a b:Nat} (h:a ≤ b):(l.take a).length ≤ (l.take b).length:=by
  rw [List.length_take,List.length_take]; omega
theorem time_ok (h1:1 ≤ n) (h6:n ≤ 6):(timeR n runs).Ok n (lenR runs) where
  n16:=by omega
  inS i r hr hP:=hP
  sfh i r hr hP:=by
    refine take_le_of ?_
    have hi:i < n:=by
      have:=setR_lt (x:=runs.getD r run0) h1 h6
      have hq:has (setR n (runs.getD r run0)) (i:Int) = true:=hP
      rcases Nat.lt_or_ge i n with h | h
      · exact h
      · have h3:=has_le hq
        have h4:2 ^ n ≤ 2 ^ i:=Nat.pow_le_pow_right (by omega) h
        rw [show ((i:Nat):Int).toNat = i from rfl] at h3
        omega
    exact Nat.le_trans safeR_le ((leastTo_le n).2 i hi hP)
  sfo i j r hr hj hP hS hs:=⟨hS,take_le_of (Nat.le_trans safeR_le ((leastTo_le n).2 j hj hS))⟩
  out i j r hr hP hQ p hp:=by
    have:=(sendA_mem (by omega) (List.mem_of_mem_take hp)).2
    intro e
    rw [e] at this
    rw [show (timeR n runs).P j r = has (setR n (runs.getD r run0)) (j:Int) from rfl,this] at hQ
    cases hQ
  nxt i j r q hrq hq _ _ _ _:=by
    have hl:lastR runs.length r = false:=by
      unfold lenR at hq
      unfold lastR
      rw [decide_eq_false (by omega),decide_eq_false (by omega)]; rfl
    show hadR (lastR runs.length r) _ _ _ = hadR (lastR runs.length r) _ _ _
    rw [hl]
    unfold hadR
    rw [if_neg (by simp),if_neg (by simp)]
  top j r hr hh:=by
    have:=setR_lt (x:=runs.getD r run0) h1 h6
    have hq:has (setR n (runs.getD r run0)) (j:Int) = true:=hh
    rcases Nat.lt_or_ge j n with h | h
    · exact h
    · have h3:=has_le hq
      have h4:2 ^ n ≤ 2 ^ j:=Nat.pow_le_pow_right (by omega) h
      rw [show ((j:Nat):Int).toNat = j from rfl] at h3
      omega
  frm r hr p hp:=(sendA_mem (by omega) hp).1
theorem traces_len:(tracesP n runs).length = n:=all_len
theorem evs_len:((timeR n runs).evs i r).length ≤ 31:=by
  have h:=runA_len (n:=n) (x:=runs.getD r run0)
  unfold GTime.evs
  simp only [List.length_cons,List.length_append,List.length_map]
  have a:(((timeR n runs).A r).filter (fun p => decide (p.1 = i))).length ≤ 10:=Nat.le_trans (List.length_filter_le _ _) h
  have b:(((timeR n runs).A r).take ((timeR n runs).h r i)).length ≤ 10:=Nat.le_trans (by rw [List.length_take]; exact Nat.min_le_right _ _) h
  have c:(((timeR n runs).A r).take ((timeR n runs).sf r i)).length ≤ 10:=Nat.le_trans (by rw [List.length_take]; exact Nat.min_le_right _ _) h
  omega
theorem tr_len:∀ (R:Nat),((timeR n runs).tr i R).length ≤ 31 * R
  | 0 => Nat.le_refl _
  | R + 1 => by
    have:=tr_len R
    have h:=evs_len (n:=n) (runs:=runs) (i:=i) (r:=R)
    unfold GTime.tr
    rw [List.length_append]
    split
    · omega
    · simp; omega
theorem traces_small:∀ e ∈ tracesP n runs,e.length ≤ 186:=fun e he => by
  unfold tracesP GTime.all at he
  obtain ⟨i,_,rfl⟩:=List.mem_map.1 he
  have:=tr_len (n:=n) (runs:=runs) (i:=i) (lenR runs)
  have h6:lenR runs ≤ 6:=Nat.min_le_right _ _
  omega
end
end Go.FM

set_option linter.unusedVariables false
set_option linter.unusedSimpArgs false
namespace Go.FM
open Go
structure ER where
  v:Value
  c:List Value
  xs:List GEvent
def er0:ER:=⟨.slice none 0 0,[],[]⟩
def ER.res (TE:Nat) (x:ER):Res:=row TE 6 x.v x.xs.length x.c
def kER:Kd ER where
  sz:=1
  pos:=by decide
  rep H x cs:=cs = [x.v]∧RowOk 6 x.v x.xs.length x.c∧kEvent.toKn.rows H x.xs x.c
  len h:=by rw [h.1]; rfl
  one h:=by
    obtain ⟨rfl,hok,_⟩:=h
    obtain ⟨A,c,hv,_⟩:=hok.slice
    simp [Value.oneCell',hv]
  mono hl h:=⟨h.1,h.2.1,Kn.rows_mono h.2.2 hl⟩
  bts:=24
  bts0:=by decide
def exs (l:List ER):List (List GEvent):=l.map (·.xs)
def ersR (TE:Nat) (l:List ER):List Res:=l.map (ER.res TE)
theorem perm_pickE {α:Type}:∀ (L:List α) (i:Nat) (h:i < L.length),L.Perm (L[i]::L.eraseIdx i)
  | [],i,h => absurd h (by simp)
  | x::L,0,_ => by simp
  | x::L,i + 1,h => by
    have:=perm_pickE L i (by simpa using h)
    simp only [List.getElem_cons_succ,List.eraseIdx_cons_succ]
    exact (this.cons x).trans (List.Perm.swap _ _ _)
section
variable {TE:Nat} {H:Hp} {w:World} {L A:List Res} {es:List ER} {i n:Nat} {r q:ER}
theorem ers_perm (h:es[i]? = some r):(ersR TE es).Perm (r.res TE::ersR TE (es.eraseIdx i)):=by
  obtain ⟨hi,rfl⟩:=List.getElem?_eq_some_iff.1 h
  exact (perm_pickE es i hi).map (ER.res TE)
theorem St.erOut (rs:List Res) (h:St H w (rs ++ (ersR TE es ++ L))) (hr:es[i]? = some r):St H w (r.res TE::(rs ++ (ersR TE (es.eraseIdx i) ++ L))):=by
  refine h.perm ?_
  have h1:(ersR TE es ++ L).Perm (r.res TE::(ersR TE (es.eraseIdx i) ++ L)):=(ers_perm hr).append_right L
  exact (h1.append_left rs).trans List.perm_middle
theorem St.erIn (rs:List Res) (h:St H w (q.res TE::(rs ++ (ersR TE (es.eraseIdx i) ++ L)))) (hr:es[i]? = some r):St H w (rs ++ (ersR TE (es.set i q) ++ L)):=by
  obtain ⟨hi,_⟩:=List.getElem?_eq_some_iff.1 hr
  have h1:(es.set i q)[i]? = some q:=by rw [List.getElem?_set,if_pos rfl,if_pos hi]
  have e2:(es.set i q).eraseIdx i = es.eraseIdx i:=by
    apply List.ext_getElem?
    intro j
    rw [List.getElem?_eraseIdx,List.getElem?_eraseIdx]
    split
    · rw [List.getElem?_set,if_neg (by omega)]
    · rw [List.getElem?_set,if_neg (by omega)]
  refine h.perm ?_
  have h2:=(ers_perm (TE:=TE) h1).append_right L
  rw [e2] at h2
  exact ((h2.append_left rs).trans List.perm_middle).symm
theorem St.erInit (h:St H w L):∀ (n:Nat),St H w (ersR TE (List.replicate n er0) ++ L)
  | 0 => h
  | n + 1 => (St.erInit h n).rowNil TE 6
theorem St.erInit' (rs:List Res) (h:St H w (rs ++ L)) (n:Nat):St H w (rs ++ (ersR TE (List.replicate n er0) ++ L)):=by
  refine (St.erInit (TE:=TE) h n).perm ?_
  rw [← List.append_assoc,← List.append_assoc]
  exact List.Perm.append_right L List.perm_append_comm
theorem St.erUp (rs:List Res) (h:St H w (rs ++ (A ++ L))):St H w (A ++ (rs ++ L)):=by
  refine h.perm ?_
  rw [← List.append_assoc,← List.append_assoc]
  exact List.Perm.append_right L List.perm_append_comm
theorem St.erDrop (rs:List Res) (h:St H w (rs ++ (A ++ L))):St H w (rs ++ L):=St.tail (L':=A) (h.erUp rs)
theorem St.erFreeze:∀ (es:List ER) {H:Hp},St H w (ersR TE es ++ L) → (∀ e ∈ es,RowOk 6 e.v e.xs.length e.c∧kEvent.toKn.rows H e.xs e.c∧e.xs.length ≤ 1000000) →
    ∃ H',H.le H'∧St H' w L∧∀ e ∈ es,∃ A n c,e.v = .slice A n c∧Sl kEvent H' A n c e.xs
  | [],H,h,_ => ⟨H,Hp.le.refl H,h,fun e he => absurd he (by simp)⟩
  | e::es,H,h,hk => by
    obtain ⟨h1,h2,h3⟩:=hk e (by simp)
    obtain ⟨H1,A,c,hl,hs,hv,sp⟩:=St.freezeSl (d:=kEvent) h h1 h2 (by show e.xs.length * 64 ≤ _; omega)
    obtain ⟨H2,hl2,hs2,h4⟩:=St.erFreeze es hs fun x hx => by
      obtain ⟨a,b,c⟩:=hk x (List.mem_cons_of_mem _ hx)
      exact ⟨a,Kn.rows_mono b hl,c⟩
    refine ⟨H2,hl.trans hl2,hs2,fun x hx => ?_⟩
    rcases List.mem_cons.1 hx with rfl | hx
    · exact ⟨_,_,_,hv,sp.mono hl2⟩
    · exact h4 x hx
theorem er_all {vc:List Value} (hk:kER.toKn.rows H es vc):∀ e ∈ es,RowOk 6 e.v e.xs.length e.c∧kEvent.toKn.rows H e.xs e.c:=fun e he => by
  obtain ⟨i,hi,rfl⟩:=List.getElem_of_mem he
  obtain ⟨c,h1,_⟩:=hk.2 i _ (List.getElem?_eq_getElem hi)
  exact ⟨h1.2.1,h1.2.2⟩
theorem St.erDone {E:Nat} {vv:Value} {vc:List Value} (rs:List Res) (h:St H w (row E 1 vv es.length vc::(rs ++ (ersR TE es ++ L)))) (ok:RowOk 1 vv es.length vc) (hk:kER.toKn.rows H es vc) (hs:∀ e ∈ exs es,e.length ≤ 1000000) :
    ∃ H',H.le H'∧St H' w (row E (kSl kEvent).sz vv (exs es).length vc::(rs ++ L))∧RowOk (kSl kEvent).sz vv (exs es).length vc∧(kSl kEvent).toKn.rows H' (exs es) vc:=by
  have e1:(exs es).length = es.length:=by unfold exs; rw [List.length_map]
  have h1:St H w (ersR TE es ++ (row E 1 vv es.length vc::(rs ++ L))):=St.erUp (row E 1 vv es.length vc::rs) h
  obtain ⟨H',hl,h2,h3⟩:=St.erFreeze es h1 fun e he => ⟨(er_all hk e he).1,(er_all hk e he).2,hs e.xs (List.mem_map.2 ⟨e,he,rfl⟩)⟩
  refine ⟨H',hl,by rw [e1]; exact h2,by rw [e1]; exact ok,by rw [hk.1,e1]; rfl,fun i x hx => ?_⟩
  unfold exs at hx
  rw [List.getElem?_map] at hx
  cases he:es[i]? with
  | none => rw [he] at hx; cases hx
  | some e =>
    rw [he] at hx; cases hx
    obtain ⟨c,h4,h5⟩:=hk.2 i e he
    obtain ⟨A,n,cp,hv,sp⟩:=h3 e (List.mem_of_getElem? he)
    exact ⟨c,⟨A,n,cp,by rw [h4.1,hv],sp⟩,h5⟩
end
def upto (n:Nat) (f g:Nat → List GEvent) (i:Nat):List (List GEvent):=(List.range n).map (fun j => if j < i then g j else f j)
section
variable {es:List ER} {f g:Nat → List GEvent} {n i k:Nat} {e q:ER} {T:List (List GEvent)} {ys:List GEvent}
theorem upto_len:(upto n f g i).length = n:=by unfold upto; rw [List.length_map,List.length_range]
theorem upto_get {j:Nat} (hj:j < n):(upto n f g i)[j]? = some (if j < i then g j else f j):=by
  unfold upto
  rw [List.getElem?_map,List.getElem?_range hj]; rfl
theorem exs_get (h:es[i]? = some e):(exs es)[i]? = some e.xs:=by unfold exs; rw [List.getElem?_map,h]; rfl
theorem exs_set:exs (es.set i q) = (exs es).set i q.xs:=by unfold exs; rw [List.map_set]
theorem exs_at (hT:exs es = upto n f g i) (he:es[i]? = some e):i < n∧e.xs = f i:=by
  have h:=exs_get he
  rw [hT] at h
  have hi:i < n:=by
    have:=(List.getElem?_eq_some_iff.1 h).1
    rwa [upto_len] at this
  rw [upto_get hi,if_neg (Nat.lt_irrefl _)] at h
  exact ⟨hi,(Option.some.inj h).symm⟩
theorem upto_set (hi:i < n):(upto n f g i).set i (g i) = upto n f g (i + 1):=by
  apply List.ext_getElem?
  intro j
  rw [List.getElem?_set]
  by_cases hj:j < n
  · rw [upto_get hj,upto_get hj,upto_len]
    by_cases h:i = j
    · subst h; rw [if_pos rfl,if_pos hi,if_pos (by omega)]
    · rw [if_neg h]
      by_cases h2:j < i
      · rw [if_pos h2,if_pos (by omega)]
      · rw [if_neg h2,if_neg (by omega)]
  · rw [if_neg (by omega),List.getElem?_eq_none (by rw [upto_len]; omega),List.getElem?_eq_none (by rw [upto_len]; omega)]
theorem upto_skip (h:f i = g i):upto n f g i = upto n f g (i + 1):=by
  apply List.ext_getElem?
  intro j
  by_cases hj:j < n
  · rw [upto_get hj,upto_get hj]
    by_cases h2:j < i
    · rw [if_pos h2,if_pos (by omega)]
    · rw [if_neg h2]
      by_cases h3:j = i
      · subst h3; rw [if_pos (by omega),h]
      · rw [if_neg (by omega)]
  · rw [List.getElem?_eq_none (by rw [upto_len]; omega),List.getElem?_eq_none (by rw [upto_len]; omega)]
theorem upto_zero:upto n f g 0 = (List.range n).map f:=by
  unfold upto
  exact List.map_congr_left fun j _ => by rw [if_neg (Nat.not_lt_zero _)]
theorem upto_full (h:n ≤ i):upto n f g i = (List.range n).map g:=by
  unfold upto
  exact List.map_congr_left fun j hj => by
    have:=List.mem_range.1 hj
    rw [if_pos (by omega)]
theorem er_app {v:Value} {c:List Value} (hT:exs es = upto n f g i) (he:es[i]? = some e) (hg:g i = f i ++ ys):exs (es.set i ⟨v,c,e.xs ++ ys⟩) = upto n f g (i + 1):=by
  obtain ⟨hi,hx⟩:=exs_at hT he
  rw [exs_set,hT,← upto_set hi,hg,← hx]
theorem er_same (hT:exs es = upto n f g i) (hg:f i = g i):exs es = upto n f g (i + 1):=by rw [hT,upto_skip hg]
theorem map_range_congr {f g:Nat → List GEvent} (h:∀ j,j < n → f j = g j):(List.range n).map f = (List.range n).map g:=List.map_congr_left fun j hj => h j (List.mem_range.1 hj)
theorem er_next {h:Nat → List GEvent} (hT:exs es = upto n f g i) (hi:n ≤ i) (hg:∀ j,j < n → g j = h j):exs es = (List.range n).map h:=by rw [hT,upto_full hi,map_range_congr hg]
theorem er_begin {h:Nat → List GEvent} (hT:exs es = (List.range n).map f):exs es = upto n f h 0:=by rw [hT,upto_zero]
theorem exs_at' (hT:exs es = (List.range n).map f) (he:es[i]? = some e):i < n∧e.xs = f i:=exs_at (g:=f) (hT.trans (by unfold upto; exact List.map_congr_left fun j _ => by simp)) he
theorem map_set_one (h:Nat → List GEvent) (hi:i < n) (hh:∀ j,j < n → j ≠ i → f j = h j):((List.range n).map f).set i (h i) = (List.range n).map h:=by
  apply List.ext_getElem?
  intro j
  rw [List.getElem?_set,List.length_map,List.length_range]
  by_cases hj:j < n
  · rw [List.getElem?_map,List.getElem?_map,List.getElem?_range hj]
    by_cases h2:i = j
    · subst h2; rw [if_pos rfl,if_pos hi]; rfl
    · rw [if_neg h2]
      show some (f j) = some (h j)
      rw [hh j hj (fun e => h2 e.symm)]
  · rw [if_neg (by omega),List.getElem?_eq_none (by simp; omega),List.getElem?_eq_none (by simp; omega)]
end
end Go.FM

set_option linter.unusedVariables false
set_option linter.unusedSimpArgs false
namespace Go.FM
open Go
def viewR (n r:Nat) (x:GRun):GView:=⟨⟨r + 1,0⟩,setR n x⟩
def ph0 (n:Nat) (runs:List GRun) (r j:Nat):List GEvent:=(timeR n runs).tr j r
def ph1 (n:Nat) (runs:List GRun) (r:Nat) (x:GRun) (j:Nat):List GEvent:=ph0 n runs r j ++ (if has (setR n x) (j:Int) = true then [⟨1,viewR n r x,0,[]⟩] else [])
def ph2 (n:Nat) (runs:List GRun) (r:Nat) (x:GRun) (ss:List GSend) (j:Nat):List GEvent:=ph1 n runs r x j ++ ((sendA n (setR n x) ss).filter (fun p => decide (p.1 = j))).map (evSend (viewR n r x))
def ph3 (n:Nat) (runs:List GRun) (r:Nat) (x:GRun) (j:Nat):List GEvent:=ph2 n runs r x (x.Sends.take 10) j ++ (if has (setR n x) (j:Int) = true then ((runA n x).take (runH n runs.length r x j)).map (evRecv (viewR n r x)) else [])
def ph4 (n:Nat) (runs:List GRun) (r:Nat) (x:GRun) (j:Nat):List GEvent:=ph3 n runs r x j ++ (if has (setR n x) (j:Int) = true then ((runA n x).take (runS n runs.length r x j)).map (evSafe (viewR n r x)) else [])
section
variable {n r i j k m ls:Nat} {x:GRun} {runs:List GRun} {s:GSend} {ss:List GSend} {es:List ER} {e:ER} {ev:GEvent} {v:GView} {A:List (Nat × List Nat)} {f g:Nat → List GEvent}
theorem run_at (h:runs[r]? = some x):runs.getD r run0 = x:=by rw [List.getD_eq_getElem?_getD,h]; rfl
theorem ph0_len (hr:r < 6):(ph0 n runs r j).length ≤ 155:=by
  have:=tr_len (n:=n) (runs:=runs) (i:=j) r
  unfold ph0; omega
theorem sendA_len:(sendA n i ss).length ≤ ss.length:=by unfold sendA; rw [List.length_map]; exact List.length_filter_le _ _
theorem ph1_len (hr:r < 6):(ph1 n runs r x j).length ≤ 156:=by
  have:=ph0_len (n:=n) (runs:=runs) (j:=j) hr
  unfold ph1; rw [List.length_append]
  split <;> simp <;> omega
theorem ph2_len (hr:r < 6):(ph2 n runs r x ss j).length ≤ 156 + ss.length:=by
  have:=ph1_len (n:=n) (runs:=runs) (x:=x) (j:=j) hr
  unfold ph2; rw [List.length_append,List.length_map]
  have a:((sendA n (setR n x) ss).filter (fun p => decide (p.1 = j))).length ≤ ss.length:=Nat.le_trans (List.length_filter_le _ _) sendA_len
  omega
theorem ph3_len (hr:r < 6):(ph3 n runs r x j).length ≤ 176:=by
  have:=ph2_len (n:=n) (runs:=runs) (x:=x) (ss:=x.Sends.take 10) (j:=j) hr
  have h:=runA_len (n:=n) (x:=x)
  unfold ph3; rw [List.length_append]
  have b:(x.Sends.take 10).length ≤ 10:=by rw [List.length_take]; omega
  split
  · rw [List.length_map]
    have c:((runA n x).take (runH n runs.length r x j)).length ≤ 10:=Nat.le_trans (by rw [List.length_take]; exact Nat.min_le_right _ _) h
    omega
  · simp; omega
theorem ph4_is (h:runs[r]? = some x):ph4 n runs r x j = ph0 n runs (r + 1) j:=by
  unfold ph0 GTime.tr
  rw [show (timeR n runs).P j r = has (setR n x) (j:Int) from by show has (setR n (runs.getD r run0)) _ = _; rw [run_at h]]
  have hv:(timeR n runs).V r = viewR n r x:=by show GView.mk (gID r) (setR n (runs.getD r run0)) = _; rw [run_at h]; rfl
  have hA:(timeR n runs).A r = runA n x:=by show runA n (runs.getD r run0) = _; rw [run_at h]
  have hh:(timeR n runs).h r j = runH n runs.length r x j:=by show runH n runs.length r (runs.getD r run0) j = _; rw [run_at h]
  have hs:(timeR n runs).sf r j = runS n runs.length r x j:=by show runS n runs.length r (runs.getD r run0) j = _; rw [run_at h]
  unfold ph4 ph3 ph2 ph1 ph0
  by_cases hP:has (setR n x) (j:Int) = true
  · rw [if_pos hP,if_pos hP,if_pos hP,if_pos hP]
    unfold GTime.evs
    rw [hv,hA,hh,hs]
    simp only [List.append_assoc,List.singleton_append,List.cons_append]
    rfl
  · rw [if_neg hP,if_neg hP,if_neg hP,if_neg hP]
    have:(sendA n (setR n x) (x.Sends.take 10)).filter (fun p => decide (p.1 = j)) = []:=by
      rw [List.filter_eq_nil_iff]
      intro p hp h2
      unfold sendA at hp
      obtain ⟨s,hs,rfl⟩:=List.mem_map.1 hp
      have h3:=(List.mem_filter.1 hs).2
      have h4:=of_decide_eq_true h2
      unfold sendOk at h3
      rw [show s.I % n = j from h4] at h3
      exact hP h3
    rw [this]
    simp
theorem setR_is (h1:1 ≤ n) (h6:n ≤ 6):x.Set % (1 * 2 ^ n % 65536 - 1) + 1 = setR n x:=by
  have:=pow2_six h1 h6
  unfold setR
  rw [Nat.one_mul,Nat.mod_eq_of_lt (show 2 ^ n < 65536 by omega)]
theorem has_nat {S:Nat} (hi:i < 16):decide ((((S / 2 ^ i) &&& 1:Nat):Int) = 1) = has S (i:Int):=has_yes (i:=(i:Int)) (by omega) (by omega)
theorem ph1_yes (h:has (setR n x) (j:Int) = true):ph1 n runs r x j = ph0 n runs r j ++ [⟨1,viewR n r x,0,[]⟩]:=by unfold ph1; rw [if_pos h]
theorem ph1_no (h:has (setR n x) (j:Int) = false):ph0 n runs r j = ph1 n runs r x j:=by unfold ph1; rw [h,if_neg (by decide),List.append_nil]
theorem ph2_zero:ph1 n runs r x j = ph2 n runs r x (ss.take 0) j:=by unfold ph2; simp [sendA]
theorem sendA_yes (hx:ss[i]? = some s) (hh:has k ((s.I % n:Nat):Int) = true):sendA n k (ss.take (i + 1)) = sendA n k (ss.take i) ++ [(s.I % n,s.M)]:=by
  unfold sendA
  rw [take_next hx,List.filter_append,List.map_append,List.filter_cons_of_pos (by exact hh)]; rfl
theorem sendA_no (hx:ss[i]? = some s) (hh:has k ((s.I % n:Nat):Int) = false):sendA n k (ss.take (i + 1)) = sendA n k (ss.take i):=by
  unfold sendA
  rw [take_next hx,List.filter_append,List.map_append,List.filter_cons_of_neg (by unfold sendOk; rw [hh]; decide),List.filter_nil,List.map_nil,List.append_nil]
theorem ph2_yes {q:ER} (hT:exs es = (List.range n).map (ph2 n runs r x (ss.take i))) (hx:ss[i]? = some s) (hh:has (setR n x) ((s.I % n:Nat):Int) = true) (he:es[s.I % n]? = some e) (hq:q.xs = e.xs ++ [⟨2,viewR n r x,0,s.M⟩]) :
    exs (es.set (s.I % n) q) = (List.range n).map (ph2 n runs r x (ss.take (i + 1))):=by
  obtain ⟨hk,hex⟩:=exs_at' hT he
  rw [exs_set,hT,hq,hex,← map_set_one (f:=ph2 n runs r x (ss.take i)) (ph2 n runs r x (ss.take (i + 1))) hk]
  · congr 1
    unfold ph2
    rw [sendA_yes hx hh,List.filter_append,List.map_append,List.filter_cons_of_pos (by simp),List.append_assoc]; rfl
  · intro j _ hj
    unfold ph2
    rw [sendA_yes hx hh,List.filter_append,List.filter_cons_of_neg (by simpa using fun e => hj e.symm),List.filter_nil,List.append_nil]
theorem ph2_no (hT:exs es = (List.range n).map (ph2 n runs r x (ss.take i))) (hx:ss[i]? = some s) (hh:has (setR n x) ((s.I % n:Nat):Int) = false):exs es = (List.range n).map (ph2 n runs r x (ss.take (i + 1))):=by
  rw [hT]
  refine List.map_congr_left fun j _ => ?_
  unfold ph2; rw [sendA_no hx hh]
theorem all_yes {al:List GEvent} (hal:al = (sendA n (setR n x) (ss.take i)).map (evRecv (viewR n r x))) (hx:ss[i]? = some s) (hh:has (setR n x) ((s.I % n:Nat):Int) = true):al ++ [⟨3,viewR n r x,((s.I % n:Nat):Int),s.M⟩] = (sendA n (setR n x) (ss.take (i + 1))).map (evRecv (viewR n r x)):=by
  rw [sendA_yes hx hh,List.map_append,hal]; rfl
theorem all_no {al:List GEvent} (hal:al = (sendA n (setR n x) (ss.take i)).map (evRecv (viewR n r x))) (hx:ss[i]? = some s) (hh:has (setR n x) ((s.I % n:Nat):Int) = false):al = (sendA n (setR n x) (ss.take (i + 1))).map (evRecv (viewR n r x)):=by
  rw [sendA_no hx hh,hal]
theorem g_take_min {α:Type} {l:List α} (h1:l.length ≤ i ∨ 10 ≤ i) (h2:i ≤ 10):l.take i = l.take 10:=by
  rcases h1 with h | h
  · rw [List.take_of_length_le h,List.take_of_length_le (by omega)]
  · rw [show i = 10 by omega]
theorem tal_len {al:List GEvent} (hal:al = (runA n x).map (evRecv (viewR n r x))):al.length = (runA n x).length:=by rw [hal,List.length_map]
theorem g_same_yes {l:List Nat} {a:Nat} (h:0 < l.length) (hm:m = a):l.getD 0 0 % (a + 1) = sameR l m:=by unfold sameR; rw [if_pos h,hm]
theorem g_same_no {l:List Nat} (h:¬ 0 < l.length):m = sameR l m:=by unfold sameR; rw [if_neg h]
theorem ph3_yes {hd:Nat} {al:List GEvent} (hal:al = (runA n x).map (evRecv (viewR n r x))) (hhd:hd = runH n runs.length r x j) (h:has (setR n x) (j:Int) = true):ph3 n runs r x j = ph2 n runs r x (x.Sends.take 10) j ++ al.take hd:=by
  unfold ph3; rw [if_pos h,hal,hhd,List.map_take]
theorem ph3_no (h:has (setR n x) (j:Int) = false):ph2 n runs r x (x.Sends.take 10) j = ph3 n runs r x j:=by unfold ph3; rw [h,if_neg (by decide),List.append_nil]
theorem ph4_no (h:has (setR n x) (j:Int) = false):ph3 n runs r x j = ph4 n runs r x j:=by unfold ph4; rw [h,if_neg (by decide),List.append_nil]
theorem ph4_out (h:x.Safe.length ≤ j):ph3 n runs r x j = ph4 n runs r x j:=by
  unfold ph4 runS safeR
  rw [if_neg (show ¬ j < x.Safe.length by omega),List.take_zero,List.map_nil]
  split <;> simp
theorem ph4_yes {u:Nat} (h:has (setR n x) (j:Int) = true) (hj:j < x.Safe.length) (hls:ls = runL n runs.length r x) (hu:u = x.Safe.getD j 0 % (ls + 1)):ph4 n runs r x j = ph3 n runs r x j ++ ((runA n x).take u).map (evSafe (viewR n r x)):=by
  unfold ph4 runS safeR
  rw [if_pos h,if_pos hj,hu,hls]
theorem least_yes {S:Nat} {hd:Nat → Nat} {u:Nat} (hls:ls = leastTo S hd m i) (h:has S (i:Int) = true) (hu:u = hd i) (h2:u < ls):u = leastTo S hd m (i + 1):=by
  show _ = if _ then _ else _
  rw [← hls,← hu,if_pos ⟨h,h2⟩]
theorem least_no1 {S:Nat} {hd:Nat → Nat} {u:Nat} (hls:ls = leastTo S hd m i) (hu:u = hd i) (h2:¬ u < ls):ls = leastTo S hd m (i + 1):=by
  show _ = if _ then _ else _
  rw [← hls,← hu,if_neg fun h => h2 h.2]
theorem least_no2 {S:Nat} {hd:Nat → Nat} (hls:ls = leastTo S hd m i) (h:has S (i:Int) = false):ls = leastTo S hd m (i + 1):=by
  show _ = if _ then _ else _
  rw [← hls,if_neg fun h2 => by rw [h] at h2; exact absurd h2.1 (by decide)]
theorem had_yes {l:List Nat} {b:Bool} {a:Nat} (h:b = true∧i < l.length) (hm:m = a):l.getD i 0 % (a + 1) = hadR b l m i:=by unfold hadR; rw [if_pos h,hm]
theorem had_no {l:List Nat} {b:Bool} {sm:Nat} (h:¬ (b = true∧i < l.length)) (hs:sm = sameR l m):sm = hadR b l m i:=by unfold hadR; rw [if_neg h,hs]
theorem upto_rest (h:∀ j,i ≤ j → j < n → f j = g j):upto n f g i = (List.range n).map g:=by
  unfold upto
  refine List.map_congr_left fun j hj => ?_
  have:=List.mem_range.1 hj
  by_cases hji:j < i
  · rw [if_pos hji]
  · rw [if_neg hji,h j (by omega) this]
theorem one_begin (hT:exs es = upto n f g i) (hi:i < n) {ys:List GEvent} (h:ys = []):exs es = (upto n f g i).set i (f i ++ ys):=by
  rw [hT,h,List.append_nil]
  apply List.ext_getElem?
  intro j
  rw [List.getElem?_set]
  by_cases hj:i = j
  · subst hj
    rw [if_pos rfl,upto_len,if_pos hi,upto_get hi,if_neg (Nat.lt_irrefl _)]
  · rw [if_neg hj]
theorem one_at {y:List GEvent} (hT:exs es = (upto n f g i).set i y) (hi:i < n) (he:es[i]? = some e):e.xs = y:=by
  have h:=exs_get he
  rw [hT,List.getElem?_set,if_pos rfl,upto_len,if_pos hi] at h
  exact (Option.some.inj h).symm
theorem one_next {y:List GEvent} {q:ER} (hT:exs es = (upto n f g i).set i y) (hi:i < n) (he:es[i]? = some e) {z:List GEvent} (hq:q.xs = e.xs ++ z) {y2:List GEvent} (hy:y2 = y ++ z):exs (es.set i q) = (upto n f g i).set i y2:=by
  rw [exs_set,hT,List.set_set,hq,one_at hT hi he,hy]
theorem one_end {y:List GEvent} (hT:exs es = (upto n f g i).set i y) (hi:i < n) (hy:g i = y):exs es = upto n f g (i + 1):=by rw [hT,← hy,upto_set hi]
theorem safe_next {al:List GEvent} (hal:al = A.map (evRecv v)) (h:al[k]? = some ev):(A.take (k + 1)).map (evSafe v) = (A.take k).map (evSafe v) ++ [⟨4,ev.View,ev.From,ev.M⟩]:=by
  rw [hal,List.getElem?_map] at h
  cases hp:A[k]? with
  | none => rw [hp] at h; cases h
  | some p =>
    rw [hp] at h
    cases h
    rw [take_next hp,List.map_append]; rfl
theorem had_yes2 {l:List Nat} {a:Nat} (h1:r + 1 = k ∨ r = 5) (h2:i < l.length) (hm:m = a):l.getD i 0 % (a + 1) = hadR (lastR k r) l m i:=by
  refine had_yes ⟨?_,h2⟩ hm
  unfold lastR
  rw [Bool.or_eq_true]
  rcases h1 with h | h
  · exact .inl (decide_eq_true h)
  · exact .inr (decide_eq_true h)
theorem had_no2 {l:List Nat} {sm:Nat} (h:¬ ((r + 1 = k ∨ r = 5)∧i < l.length)) (hs:sm = sameR l m):sm = hadR (lastR k r) l m i:=by
  refine had_no (fun h2 => h ⟨?_,h2.2⟩) hs
  have h3:=h2.1
  unfold lastR at h3
  rw [Bool.or_eq_true] at h3
  rcases h3 with h3 | h3
  · exact .inl (of_decide_eq_true h3)
  · exact .inr (of_decide_eq_true h3)
theorem exs_zero:exs (List.replicate n er0) = (List.range n).map (ph0 n runs 0):=by
  unfold exs
  apply List.ext_getElem?
  intro j
  rw [List.getElem?_map,List.getElem?_map,List.getElem?_replicate]
  by_cases hj:j < n
  · rw [if_pos hj,List.getElem?_range hj]; rfl
  · rw [if_neg hj,List.getElem?_eq_none (by simp; omega)]; rfl
theorem g_set_len {α:Type} {l:List α} {a:α} (h:l.length = n):(l.set i a).length = n:=by rw [List.length_set,h]
end
end Go.FM

set_option linter.unusedVariables false
set_option linter.unusedSimpArgs false
namespace Go.FM
open Go
def safelessT (l:List GEvent):List GEvent:=l.filter (fun e => !decide (e.Kind = 4))
def partT:List GEvent → List GEvent
  | [] => []
  | a::l => a::l.takeWhile (fun e => !decide (e.Kind = 1))
def GTime.less (g:GTime):GTime:=⟨g.P,g.S,g.A,g.h,fun _ _ => 0⟩
def firstR (g:GTime) (k r:Nat):Bool:=(List.range r).all (fun q => !g.P k q)
def GTime.cut (g:GTime) (k:Nat):GTime:=⟨fun i r => g.P i r && (!decide (i = k) || firstR g k r),g.S,g.A,g.h,fun _ _ => 0⟩
section
variable {g:GTime} {i j k r n R:Nat} {l a b:List GEvent} {e x:GEvent} {runs:List GRun} {T:List (List GEvent)}
theorem evs_ev (hx:x ∈ g.evs i r) (hA:∀ p ∈ g.A r,p.1 < n):0 ≤ x.From∧x.From ≤ (n:Int)∧x.View.ID.N = r + 1:=by
  refine ⟨?_,?_,by rw [evs_view x hx]; rfl⟩ <;> unfold GTime.evs at hx <;> rcases List.mem_cons.1 hx with rfl | hx
  · exact Int.le_refl _
  · rcases List.mem_append.1 hx with hx | hx
    · obtain ⟨p,_,rfl⟩:=List.mem_map.1 hx; exact Int.le_refl _
    rcases List.mem_append.1 hx with hx | hx
    · obtain ⟨p,_,rfl⟩:=List.mem_map.1 hx; show (0:Int) ≤ (p.1:Int); omega
    · obtain ⟨p,_,rfl⟩:=List.mem_map.1 hx; show (0:Int) ≤ (p.1:Int); omega
  · show (0:Int) ≤ (n:Int); omega
  · rcases List.mem_append.1 hx with hx | hx
    · obtain ⟨p,_,rfl⟩:=List.mem_map.1 hx; show (0:Int) ≤ (n:Int); omega
    rcases List.mem_append.1 hx with hx | hx
    · obtain ⟨p,hp,rfl⟩:=List.mem_map.1 hx; have:=hA p (List.mem_of_mem_take hp); show (p.1:Int) ≤ (n:Int); omega
    · obtain ⟨p,hp,rfl⟩:=List.mem_map.1 hx; have:=hA p (List.mem_of_mem_take hp); show (p.1:Int) ≤ (n:Int); omega
theorem tr_ev:∀ (R:Nat),x ∈ g.tr i R → ∃ r,r < R∧g.P i r = true∧x ∈ g.evs i r
  | 0,h => by cases h
  | R + 1,h => by
    unfold GTime.tr at h
    rcases List.mem_append.1 h with h | h
    · obtain ⟨r,h1,h2⟩:=tr_ev R h; exact ⟨r,by omega,h2⟩
    · split at h
      · rename_i hP; exact ⟨R,by omega,hP,h⟩
      · cases h
theorem traces_ev (h0:0 < n):∀ e ∈ tracesP n runs,∀ x ∈ e,0 ≤ x.From∧x.From ≤ (n:Int)∧x.View.ID.N ≤ 6:=fun e he x hx => by
  unfold tracesP GTime.all at he
  obtain ⟨i,_,rfl⟩:=List.mem_map.1 he
  obtain ⟨r,hr,_,hx⟩:=tr_ev (lenR runs) hx
  have h:=evs_ev (n:=n) hx (fun p hp => (sendA_mem h0 hp).1)
  have h6:lenR runs ≤ 6:=Nat.min_le_right _ _
  exact ⟨h.1,h.2.1,by omega⟩
theorem set_small (hT:∀ e ∈ T,e.length ≤ 186) (hl:l.length ≤ 1000):∀ e ∈ T.set k l,e.length ≤ 1000:=fun e he => by
  rcases List.mem_or_eq_of_mem_set he with h | rfl
  · have:=hT e h; omega
  · exact hl
theorem less_app:safelessT (a ++ b) = safelessT a ++ safelessT b:=List.filter_append ..
theorem less_next (h:l[i]? = some e) (hk:¬ e.Kind = 4):safelessT (l.take i) ++ [e] = safelessT (l.take (i + 1)):=by
  rw [take_next h,less_app]; unfold safelessT
  rw [List.filter_cons_of_pos (by rw [decide_eq_false hk]; rfl)]; rfl
theorem less_skip (h:l[i]? = some e) (hk:e.Kind = 4):safelessT (l.take i) = safelessT (l.take (i + 1)):=by
  rw [take_next h,less_app]; unfold safelessT
  rw [List.filter_cons_of_neg (by rw [decide_eq_true hk]; decide),List.filter_nil,List.append_nil]
theorem less_len:(safelessT l).length ≤ l.length:=List.length_filter_le _ _
theorem less_evs:safelessT (g.evs i r) = g.less.evs i r:=by
  unfold safelessT GTime.evs
  rw [List.filter_cons_of_pos (by simp),List.filter_append,List.filter_append,filt_yes _ (fun x => by simp [evSend]),filt_yes _ (fun x => by simp [evRecv]),filt_no _ (fun x => by simp [evSafe])]
  rfl
theorem less_tr:∀ (R:Nat),safelessT (g.tr i R) = g.less.tr i R
  | 0 => rfl
  | R + 1 => by
    unfold GTime.tr
    rw [less_app,less_tr R]
    congr 1
    show safelessT (if g.P i R = true then g.evs i R else []) = if g.P i R = true then g.less.evs i R else []
    split
    · exact less_evs
    · rfl
theorem take_app_view (he:e.Kind = 1):∀ (a:List GEvent),(a ++ e::b).takeWhile (fun e => !decide (e.Kind = 1)) = a.takeWhile (fun e => !decide (e.Kind = 1))
  | [] => by rw [List.nil_append,List.takeWhile_cons_of_neg (by rw [decide_eq_true he]; decide)]; rfl
  | y::a => by
    rw [List.cons_append]
    by_cases hy:y.Kind = 1
    · rw [List.takeWhile_cons_of_neg (by rw [decide_eq_true hy]; decide),List.takeWhile_cons_of_neg (by rw [decide_eq_true hy]; decide)]
    · rw [List.takeWhile_cons_of_pos (by rw [decide_eq_false hy]; rfl),List.takeWhile_cons_of_pos (by rw [decide_eq_false hy]; rfl),take_app_view he a]
theorem take_all_no:∀ (a:List GEvent),(∀ y ∈ a,¬ y.Kind = 1) → a.takeWhile (fun e => !decide (e.Kind = 1)) = a
  | [],_ => rfl
  | y::a,h => by rw [List.takeWhile_cons_of_pos (by rw [decide_eq_false (h y (by simp))]; rfl),take_all_no a fun z hz => h z (List.mem_cons_of_mem _ hz)]
theorem part_cons:partT (e::l) = e::l.takeWhile (fun e => !decide (e.Kind = 1)):=rfl
theorem part_evs:partT (g.evs i r) = g.evs i r:=by
  unfold GTime.evs
  rw [part_cons,take_all_no]
  intro y hy
  rcases List.mem_append.1 hy with hy | hy
  · obtain ⟨p,_,rfl⟩:=List.mem_map.1 hy; show ¬ 2 = 1; decide
  rcases List.mem_append.1 hy with hy | hy
  · obtain ⟨p,_,rfl⟩:=List.mem_map.1 hy; show ¬ 3 = 1; decide
  · obtain ⟨p,_,rfl⟩:=List.mem_map.1 hy; show ¬ 4 = 1; decide
theorem part_app (hl:l ≠ []):partT (l ++ g.evs i r) = partT l:=by
  cases l with
  | nil => exact absurd rfl hl
  | cons a l =>
    unfold GTime.evs
    rw [List.cons_append,part_cons,part_cons,take_app_view (by rfl)]
theorem tr_nil:∀ (R:Nat),g.tr i R = [] ↔ firstR g i R = true
  | 0 => ⟨fun _ => rfl,fun _ => rfl⟩
  | R + 1 => by
    unfold GTime.tr firstR
    rw [List.append_eq_nil_iff,tr_nil R,List.range_succ,List.all_append,Bool.and_eq_true]
    unfold firstR
    refine and_congr_right fun _ => ?_
    rw [List.all_cons,List.all_nil,Bool.and_true]
    cases hP:g.P i R with
    | false => simp
    | true => simp [GTime.evs]
theorem cut_tr (hi:i ≠ k):∀ (R:Nat),g.less.tr i R = (g.cut k).tr i R
  | 0 => rfl
  | R + 1 => by
    unfold GTime.tr
    rw [cut_tr hi R]
    congr 1
    have:(g.cut k).P i R = g.less.P i R:=by show (g.P i R && (!decide (i = k) || firstR g k R)) = g.P i R; rw [decide_eq_false hi]; simp
    rw [this]; rfl
theorem part_tr:∀ (R:Nat),partT (g.less.tr k R) = (g.cut k).tr k R
  | 0 => rfl
  | R + 1 => by
    have ih:=part_tr R
    have hc:(g.cut k).P k R = (g.P k R && firstR g k R):=by show (g.P k R && (!decide (k = k) || firstR g k R)) = _; simp
    have hl:g.less.P k R = g.P k R:=rfl
    have hf:firstR g.less k R = firstR g k R:=rfl
    show partT (g.less.tr k R ++ if g.less.P k R = true then g.less.evs k R else []) = (g.cut k).tr k R ++ if (g.cut k).P k R = true then (g.cut k).evs k R else []
    rw [hc,hl,← ih]
    cases hP:g.P k R with
    | false => simp
    | true =>
      rw [if_pos rfl,Bool.true_and]
      by_cases hn:g.less.tr k R = []
      · rw [(tr_nil R).1 hn |> fun h => (hf.symm.trans h:firstR g k R = true),hn]
        exact part_evs
      · have:firstR g k R = false:=by
          cases hq:firstR g k R with
          | false => rfl
          | true => exact absurd ((tr_nil R).2 (hf.trans hq)) hn
        rw [this,part_app hn]; simp
theorem first_one {q:Nat} (hr:g.P k r = true) (h:firstR g k q = true):¬ r < q:=fun hq => by
  unfold firstR at h
  have:=List.all_eq_true.1 h r (List.mem_range.2 hq)
  rw [hr] at this; cases this
theorem cut_P (h:(g.cut k).P i r = true):g.P i r = true∧(i = k → firstR g k r = true):=by
  have h:(g.P i r && (!decide (i = k) || firstR g k r)) = true:=h
  rw [Bool.and_eq_true] at h
  refine ⟨h.1,fun e => ?_⟩
  have:=h.2
  rw [decide_eq_true e] at this
  simpa using this
theorem cut_ok (ok:g.Ok n R) (hk:k < n) (hL:∀ i r,i ≠ k → i < n → r < R → g.P i r = true → g.P k r = true → firstR g k r = false → ∀ p ∈ (g.A r).take (g.h r i),p.1 ≠ k) (hin:∀ i r,r < R → g.P i r = true → i < n):(g.cut k).Ok n R where
  n16:=ok.n16
  inS i r hr hP:=ok.inS i r hr (cut_P hP).1
  sfh i r hr hP:=by
    show ((g.A r).take 0).length ≤ _
    simp
  sfo i j r hr hj hP hS hs:=absurd hs (Nat.lt_irrefl 0)
  out i j r hr hP hQ p hp:=by
    have hPi:=cut_P hP
    have hQ:(g.P j r && (!decide (j = k) || firstR g k r)) = false:=hQ
    cases hPj:g.P j r with
    | false => exact ok.out i j r hr hPi.1 hPj p hp
    | true =>
      rw [hPj,Bool.true_and,Bool.or_eq_false_iff] at hQ
      have hjk:j = k:=by
        by_cases h:j = k
        · exact h
        · rw [decide_eq_false h] at hQ; exact absurd hQ.1 (by decide)
      subst hjk
      by_cases hij:i = j
      · have:=hPi.2 hij
        rw [hQ.2] at this; cases this
      · exact hL i r hij (hin i r hr hPi.1) hr hPi.1 hPj hQ.2 p hp
  nxt i j r q hrq hq h1 h2 h3 h4:=ok.nxt i j r q hrq hq (cut_P h1).1 (cut_P h2).1 (cut_P h3).1 (cut_P h4).1
  top j r hr hh:=ok.top j r hr hh
  frm r hr p hp:=ok.frm r hr p hp
theorem cut_all (hk:k < n):((g.all n R).map safelessT).set k (partT (safelessT (g.tr k R))) = (g.cut k).all n R:=by
  have h1:(g.all n R).map safelessT = (List.range n).map (fun i => g.less.tr i R):=by
    unfold GTime.all
    rw [List.map_map]
    exact List.map_congr_left fun i _ => less_tr R
  rw [h1,less_tr R,part_tr R]
  exact map_set_one (f:=fun i => g.less.tr i R) (fun i => (g.cut k).tr i R) hk (fun j _ hj => cut_tr hj R)
theorem time_in (h1:1 ≤ n) (h6:n ≤ 6) {r i:Nat} (hr:r < lenR runs) (hP:(timeR n runs).P i r = true):i < n:=(time_ok (runs:=runs) h1 h6).top i r hr hP
theorem part_head {a:GEvent} (h:partT l = a::b):∃ m,l = a::m:=by
  cases l with
  | nil => cases h
  | cons y l => unfold partT at h; injection h with h1 h2; subst h1; exact ⟨l,rfl⟩
theorem tr_head:∀ (R:Nat) {a:GEvent} {m:List GEvent},g.tr k R = a::m → ∃ q,q < R∧g.P k q = true∧firstR g k q = true∧a.View.ID.N = q + 1
  | 0,a,m,h => by cases h
  | R + 1,a,m,h => by
    unfold GTime.tr at h
    by_cases hn:g.tr k R = []
    · rw [hn,List.nil_append] at h
      split at h
      · rename_i hP
        refine ⟨R,by omega,hP,(tr_nil R).1 hn,?_⟩
        unfold GTime.evs at h
        injection h with h1 h2
        subst h1; rfl
      · cases h
    · cases hq:g.tr k R with
      | nil => exact absurd hq hn
      | cons y l =>
        rw [hq,List.cons_append] at h
        injection h with h1 h2
        subst h1
        obtain ⟨q,h3,h4⟩:=tr_head R hq
        exact ⟨q,by omega,h4⟩
theorem parts_ref (h1:1 ≤ n) (h6:n ≤ 6) (hk:k < n) {T:List (List GEvent)} (hT:T = (tracesP n runs).map safelessT) {c m:List GEvent} (hc:T[k]? = some c) (hm:m = partT c) {last:Int}
    (hl:∀ (i:Nat) (e:List GEvent),i ≠ k → T[i]? = some e → ∀ (j:Nat) (x:GEvent),e[j]? = some x → x.Kind = 3 → x.From = (k:Int) → (x.View.ID.N:Int) ≤ last)
    (hz:m = [] → last < 0) (hy:∀ a,m[0]? = some a → last ≤ (a.View.ID.N:Int)):refV (T.set k m) = true:=by
  have hc2:c = safelessT ((timeR n runs).tr k (lenR runs)):=by
    rw [hT,List.getElem?_map,show (tracesP n runs)[k]? = _ from all_get hk] at hc
    exact (Option.some.inj hc).symm
  have e:T.set k m = ((timeR n runs).cut k).all n (lenR runs):=by rw [hT,hm,hc2]; exact cut_all hk
  rw [e]
  refine grp_ref (cut_ok (time_ok h1 h6) hk ?_ fun i r hr hP => time_in h1 h6 hr hP)
  intro i r hik hi hr hP hPk hf p hp hpk
  have hTi:T[i]? = some ((timeR n runs).less.tr i (lenR runs)):=by
    rw [hT,List.getElem?_map,show (tracesP n runs)[i]? = _ from all_get hi,Option.map_some,less_tr]
  have hmem:evRecv ((timeR n runs).V r) p ∈ (timeR n runs).less.tr i (lenR runs):=by
    have h2:evRecv ((timeR n runs).V r) p ∈ (timeR n runs).less.evs i r:=by
      unfold GTime.evs
      exact List.mem_cons_of_mem _ (List.mem_append_right _ (List.mem_append_left _ (List.mem_map.2 ⟨p,hp,rfl⟩)))
    clear hTi hl hz hy hc hc2 e hm
    generalize lenR runs = R at hr
    induction R with
    | zero => exact absurd hr (Nat.not_lt_zero _)
    | succ R ih =>
      unfold GTime.tr
      rcases Nat.lt_succ_iff_lt_or_eq.1 hr with h3 | h3
      · exact List.mem_append_left _ (ih h3)
      · subst h3
        rw [if_pos (show (timeR n runs).less.P i r = true from hP)]
        exact List.mem_append_right _ h2
  obtain ⟨j,hj,hx⟩:=List.getElem_of_mem hmem
  have h3:=hl i _ hik hTi j _ (by rw [List.getElem?_eq_getElem hj,hx]) rfl (by show (p.1:Int) = (k:Int); rw [hpk])
  have h3:((r + 1:Nat):Int) ≤ last:=h3
  cases hm0:m with
  | nil => have:=hz hm0; omega
  | cons a b =>
    have h4:=hy a (by rw [hm0]; rfl)
    obtain ⟨l',hl'⟩:=part_head (hm.symm.trans hm0)
    obtain ⟨q,hq,hPq,hfq,hN⟩:=tr_head (g:=(timeR n runs).less) (k:=k) (lenR runs) (by rw [← less_tr,← hc2]; exact hl')
    have h5:¬ r < q:=first_one (g:=timeR n runs) hPk hfq
    have h6:r ≠ q:=fun e => by
      subst e
      have h7:firstR (timeR n runs) k r = true:=hfq
      rw [h7] at hf; cases hf
    rw [hN] at h4
    omega
theorem less_set (h:T[i]? = some l):((T.take i).map safelessT ++ T.drop i).set i (safelessT l) = (T.take (i + 1)).map safelessT ++ T.drop (i + 1):=by
  obtain ⟨hi,hl⟩:=List.getElem?_eq_some_iff.1 h
  have e:T.drop i = l::T.drop (i + 1):=by rw [List.drop_eq_getElem_cons hi,hl]
  rw [e,List.set_append_right _ _ (by rw [List.length_map,List.length_take]; omega),List.length_map,List.length_take,show i - min i T.length = 0 by omega,List.set_cons_zero,take_next h,List.map_append,List.append_assoc]; rfl
theorem less_get (hi:i < T.length) (h:((T.take i).map safelessT ++ T.drop i)[i]? = some l):T[i]? = some l:=by
  rw [List.getElem?_append_right (by rw [List.length_map,List.length_take]; omega),List.length_map,List.length_take,show i - min i T.length = 0 by omega,List.getElem?_drop] at h
  exact h
theorem less_full (hi:T.length ≤ i):(T.take i).map safelessT ++ T.drop i = T.map safelessT:=by
  rw [List.take_of_length_le hi,List.drop_eq_nil_iff.2 hi,List.append_nil]
theorem less_small (hT:∀ e ∈ T,e.length ≤ 186):∀ e ∈ T.map safelessT,e.length ≤ 186:=fun e he => by
  obtain ⟨x,hx,rfl⟩:=List.mem_map.1 he
  exact Nat.le_trans less_len (hT x hx)
theorem part_end (h:∀ (q:Nat) (y:GEvent),1 ≤ q → q < j → l[q]? = some y → ¬ y.Kind = 1) (hj:l.length ≤ j ∨ (0 < j∧∃ e,l[j]? = some e∧e.Kind = 1)):l.take j = partT l:=by
  cases l with
  | nil => simp [partT]
  | cons a l =>
    cases j with
    | zero =>
      rcases hj with hj | hj
      · simp at hj
      · exact absurd hj.1 (Nat.lt_irrefl 0)
    | succ j =>
      unfold partT
      rw [List.take_succ_cons]
      congr 1
      have e:l = l.take j ++ l.drop j:=(List.take_append_drop _ _).symm
      have hno:∀ y ∈ l.take j,¬ y.Kind = 1:=fun y hy => by
        obtain ⟨q,hq,rfl⟩:=List.getElem_of_mem hy
        rw [List.length_take] at hq
        refine h (q + 1) _ (by omega) (by omega) ?_
        rw [List.getElem?_cons_succ,List.getElem_take,List.getElem?_eq_getElem (by omega)]
      rcases hj with hj | ⟨_,e1,h1,h2⟩
      · rw [List.take_of_length_le (by simpa using hj)] at hno ⊢
        rw [take_all_no l hno]
      · rw [List.getElem?_cons_succ] at h1
        obtain ⟨hjl,he⟩:=List.getElem?_eq_some_iff.1 h1
        conv => rhs; rw [e,List.drop_eq_getElem_cons hjl,he]
        rw [take_app_view h2,take_all_no _ hno]
theorem part_next (h:∀ (q:Nat) (y:GEvent),1 ≤ q → q < j → l[q]? = some y → ¬ y.Kind = 1) (hx:l[j]? = some x) (hk:¬ (x.Kind = 1∧0 < j)):∀ (q:Nat) (y:GEvent),1 ≤ q → q < j + 1 → l[q]? = some y → ¬ y.Kind = 1:=fun q y h1 h2 hy => by
  rcases Nat.lt_succ_iff_lt_or_eq.1 h2 with h3 | rfl
  · exact h q y h1 h3 hy
  · rw [hx] at hy; cases hy
    exact fun h4 => hk ⟨h4,h1⟩
theorem part_mem:∀ {l:List GEvent},x ∈ partT l → x ∈ l
  | [],h => h
  | a::l,h => by
    rcases List.mem_cons.1 h with rfl | h
    · exact List.mem_cons_self ..
    · exact List.mem_cons_of_mem _ ((List.takeWhile_sublist _).subset h)
theorem part_len:∀ {l:List GEvent},(partT l).length ≤ l.length
  | [] => Nat.le_refl _
  | a::l => Nat.succ_le_succ (List.takeWhile_sublist _).length_le
theorem less_ev (h0:0 < n) (hT:T = (tracesP n runs).map safelessT) {c:List GEvent} (hc:T[i]? = some c) (hx:x ∈ c):x.View.ID.N ≤ 6:=by
  rw [hT,List.getElem?_map] at hc
  cases hq:(tracesP n runs)[i]? with
  | none => rw [hq] at hc; cases hc
  | some d =>
    rw [hq] at hc
    cases hc
    exact (traces_ev h0 d (List.mem_of_getElem? hq) x (List.mem_filter.1 hx).1).2.2
def LQ (k:Nat) (e:List GEvent) (last:Int):Prop:=∀ (j:Nat) (x:GEvent),e[j]? = some x → x.Kind = 3 → x.From = (k:Int) → (x.View.ID.N:Int) ≤ last
def LQj (k:Nat) (e:List GEvent) (j:Nat) (last:Int):Prop:=∀ (q:Nat) (x:GEvent),q < j → e[q]? = some x → x.Kind = 3 → x.From = (k:Int) → (x.View.ID.N:Int) ≤ last
def LA (k:Nat) (T:List (List GEvent)) (i:Nat) (last:Int):Prop:=∀ (q:Nat) (e:List GEvent),q < i → q ≠ k → T[q]? = some e → LQ k e last
theorem LQj.zero {last:Int}:LQj k l 0 last:=fun q x h => absurd h (Nat.not_lt_zero _)
theorem LQj.mono {last last':Int} (h:LQj k l j last) (hl:last ≤ last'):LQj k l j last':=fun q x h1 h2 h3 h4 => Int.le_trans (h q x h1 h2 h3 h4) hl
theorem LQj.next {last:Int} (h:LQj k l j last) (hx:l[j]? = some x) (hb:x.Kind = 3 → x.From = (k:Int) → (x.View.ID.N:Int) ≤ last):LQj k l (j + 1) last:=fun q y h1 h2 h3 h4 => by
  rcases Nat.lt_succ_iff_lt_or_eq.1 h1 with h5 | rfl
  · exact h q y h5 h2 h3 h4
  · rw [hx] at h2; cases h2; exact hb h3 h4
theorem LQj.done {last:Int} (h:LQj k l j last) (hj:l.length ≤ j):LQ k l last:=fun q y h2 h3 h4 => h q y (by have:=(List.getElem?_eq_some_iff.1 h2).1; omega) h2 h3 h4
theorem LA.zero {last:Int}:LA k T 0 last:=fun q x h => absurd h (Nat.not_lt_zero _)
theorem LA.mono {last last':Int} (h:LA k T i last) (hl:last ≤ last'):LA k T i last':=fun q e h1 h2 h3 j x h4 h5 h6 => Int.le_trans (h q e h1 h2 h3 j x h4 h5 h6) hl
theorem LA.next {last:Int} (h:LA k T i last) (he:T[i]? = some l) (hq:i ≠ k → LQ k l last):LA k T (i + 1) last:=fun q e h1 h2 h3 => by
  rcases Nat.lt_succ_iff_lt_or_eq.1 h1 with h5 | rfl
  · exact h q e h5 h2 h3
  · rw [he] at h3; cases h3; exact hq h2
theorem LA.done {last:Int} (h:LA k T i last) (hi:T.length ≤ i):∀ (q:Nat) (e:List GEvent),q ≠ k → T[q]? = some e → ∀ (j:Nat) (x:GEvent),e[j]? = some x → x.Kind = 3 → x.From = (k:Int) → (x.View.ID.N:Int) ≤ last:=fun q e h2 h3 => h q e (by have:=(List.getElem?_eq_some_iff.1 h3).1; omega) h2 h3
end
end Go.FM

set_option linter.unusedVariables false
set_option linter.unusedSimpArgs false
namespace Go.FM
open Go
structure GLife where
  node:Int
  view:GView
  sent:(List GItem)
  recv:(List GItem)
  safe:Int
  next:GViewID
def kLife:Kd GLife where
  sz:=9
  pos:=by decide
  rep H x cs:=∃ (A1:Option Addr) (n2 c3:Nat),∃ (A4:Option Addr) (n5 c6:Nat),cs = [.int .i64 x.node,.int .u64 (x.view.ID.N:Int),.int .i64 x.view.ID.P,.int .u16 (x.view.Set:Int),.slice A1 n2 c3,.slice A4 n5 c6,.int .i64 x.safe,.int .u64 (x.next.N:Int),.int .i64 x.next.P]∧IB (x.node)∧x.view.ID.N < 18446744073709551616∧IB (x.view.ID.P)∧x.view.Set < 65536∧Sl kItem H A1 n2 c3 x.sent∧Sl kItem H A4 n5 c6 x.recv∧IB (x.safe)∧x.next.N < 18446744073709551616∧IB (x.next.P)
  len h:=by obtain ⟨A1,n2,c3,A4,n5,c6,rfl,_⟩:=h; rfl
  one h:=by obtain ⟨A1,n2,c3,A4,n5,c6,rfl,_⟩:=h; simp [Value.oneCell']
  mono hl h:=by obtain ⟨A1,n2,c3,A4,n5,c6,rfl,h0,h1,h2,h3,h4,h5,h6,h7,h8⟩:=h; exact ⟨A1,n2,c3,A4,n5,c6,rfl,h0,h1,h2,h3,h4.mono hl,h5.mono hl,h6,h7,h8⟩
  bts:=104
  bts0:=by decide
instance:DecidableEq GLife:=fun a b => decidable_of_iff (a.node = b.node∧a.view = b.view∧a.sent = b.sent∧a.recv = b.recv∧a.safe = b.safe∧a.next = b.next) ⟨fun h => by cases a; cases b; simp_all,fun h => by rw [h]; simp⟩
instance:Inhabited GLife:=⟨(GLife.mk 0 (GView.mk (GViewID.mk 0 0) 0) [] [] 0 (GViewID.mk 0 0))⟩
end Go.FM

set_option linter.unusedVariables false
set_option linter.unusedSimpArgs false
namespace Go.FM
open Go
def pairL (a b:GLife):Bool :=
  decide (a.view.Set = b.view.Set) && decide (a.recv.take (min a.recv.length b.recv.length) = b.recv.take (min a.recv.length b.recv.length))
    && (decide (a.next.N = 0) || decide (a.next ≠ b.next) || decide (a.recv.length = b.recv.length))
section
variable {a b:GLife} {n:Nat}
theorem pair_set (h:¬ a.view.Set = b.view.Set):pairL a b = false:=by unfold pairL; rw [decide_eq_false h]; rfl
theorem pair_recv (hn:n = min a.recv.length b.recv.length) (h:¬ a.recv.take n = b.recv.take n):pairL a b = false:=by
  subst hn; unfold pairL; rw [decide_eq_false h,Bool.and_false]; rfl
theorem pair_no (hn:n = min a.recv.length b.recv.length) (h:¬ ((a.view.Set:Nat):Int) = ((b.view.Set:Nat):Int) ∨ ¬ a.recv.take n = b.recv.take n):pairL a b = false:=by
  rcases h with h | h
  · exact pair_set (by omega)
  · exact pair_recv hn h
theorem pair_end {c:Bool} (h:a.view.Set = b.view.Set) (hn:n = min a.recv.length b.recv.length) (h2:a.recv.take n = b.recv.take n) (h3:(decide (a.next.N = 0) || decide (a.next ≠ b.next) || decide (a.recv.length = b.recv.length)) = c):pairL a b = c:=by
  subst hn; unfold pairL; rw [decide_eq_true h,decide_eq_true h2,h3]; rfl
end
end Go.FM

set_option linter.unusedVariables false
set_option linter.unusedSimpArgs false
namespace Go.FM
section
variable {α β:Type} {f:α → β → Int} {x:List α} {t:β}
end
end Go.FM
namespace Go.FM
end Go.FM

set_option linter.unusedVariables false
set_option linter.unusedSimpArgs false
namespace Go.FM
def SortedV (a:List GState):Prop:=a.Pairwise (fun x y => vcmp x.V y.V < 0)
theorem vcmp_irr (a:GViewID):¬ vcmp a a < 0:=by
  have:=(vcmp_zero a a).2 rfl; omega
theorem SortedV.same {a:List GState} (h:SortedV a):∀ {x y:GState},x ∈ a → y ∈ a → x.V = y.V → x = y:=by
  induction a with
  | nil => intro x y hx; cases hx
  | cons z a ih =>
    intro x y hx hy e
    have hp:=List.pairwise_cons.1 h
    rcases List.mem_cons.1 hx with h1 | h1 <;> rcases List.mem_cons.1 hy with h2 | h2
    · rw [h1,h2]
    · have:=hp.1 y h2; rw [← h1,e] at this; exact absurd this (vcmp_irr _)
    · have:=hp.1 x h1; rw [← h2,e] at this; exact absurd this (vcmp_irr _)
    · exact ih hp.2 h1 h2 e
end Go.FM
namespace Go.FM
theorem joinS_sub {l:List GState} {x:GState} (h:x ∈ joinS l):x ∈ l:=(joinTo_mem l _ x h).1
theorem idxP_any {α:Type} (p:α → Bool) (l:List α):decide (0 ≤ idxP p l) = l.any p:=by
  rcases idxP_find p l with ⟨h1,h2⟩ | ⟨i,x,h1,h2,h3⟩
  · have:l.any p = false:=by
      rw [List.any_eq_false]
      rw [List.find?_eq_none] at h2
      exact h2
    rw [this,h1]; rfl
  · have:l.any p = true:=List.any_eq_true.2 ⟨x,List.mem_of_getElem? h2,by have:=List.find?_some h3; exact this⟩
    rw [this,h1]; simp
end Go.FM

set_option linter.unusedVariables false
set_option linter.unusedSimpArgs false
namespace Go.FM
open Go
def aCells (l:List Int):List Value:=l.map (fun x => Value.int .i64 x)
def cnts (s:List GItem):List Int:=(List.range 16).map (fun (k:Nat) => ((cntI s (k:Int):Nat):Int))
def findL (all:List GLife) (k:Int) (v:GViewID):Option GLife:=all.find? (fun b => decide (b.node = k) && decide (b.view.ID = v))
def gotAt (all:List GLife) (a:GLife) (j:Nat):Bool:=match a.recv[j]? with
  | none => true
  | some x => match findL all x.From a.view.ID with
    | none => false
    | some b => decide (b.sent[cntI (a.recv.take j) x.From]? = some x)
def safeAt (all:List GLife) (a:GLife) (k:Int):Bool:=all.any (fun b => decide (b.node = k) && decide (b.view.ID = a.view.ID) && decide (a.safe ≤ (b.recv.length:Int)))
def wholeL (a:GLife) (all:List GLife):Bool:=(List.range a.recv.length).all (gotAt all a) && (lst a.view.Set).all (fun k => !(decide (0 < a.safe) && !safeAt all a (k:Int)))
section
variable {all:List GLife} {a b:GLife} {s:List GItem} {x:GItem} {i j k:Nat} {ats:List Int} {v:GViewID}
theorem cnts_get (h:ats = cnts s) (hk:k < 16):(aCells ats)[k]? = some (.int .i64 ((cntI s (k:Int):Nat):Int)):=by
  subst h
  unfold aCells cnts
  rw [List.getElem?_map,List.getElem?_map,List.getElem?_range hk]; rfl
theorem cnts_len (h:ats = cnts s):ats.length = 16:=by subst h; unfold cnts; simp
theorem cnts_zero:List.replicate 16 (0:Int) = cnts []:=by decide
theorem acells_len:(aCells ats).length = ats.length:=by unfold aCells; rw [List.length_map]
theorem acells_set {z:Int} (hk:k < ats.length):splice (aCells ats) k [.int .i64 z] = aCells (ats.set k z):=by
  unfold splice aCells
  apply List.ext_getElem?
  intro j
  rw [List.getElem?_map,List.getElem?_set]
  rcases Nat.lt_trichotomy j k with h | h | h
  · rw [if_neg (by omega),List.append_assoc,List.getElem?_append_left (by simp; omega),List.getElem?_take,if_pos h,List.getElem?_map]
  · subst h
    rw [if_pos rfl,if_pos hk,List.append_assoc,List.getElem?_append_right (by simp; omega)]
    simp [Nat.min_eq_left (Nat.le_of_lt hk)]
  · rw [if_neg (by omega),List.append_assoc,List.getElem?_append_right (by simp; omega)]
    simp only [List.length_take,List.length_map,Nat.min_eq_left (Nat.le_of_lt hk)]
    rw [List.getElem?_append_right (by simp; omega),List.getElem?_drop,List.getElem?_map]
    simp only [List.length_singleton]
    rw [show k + 1 + (j - k - 1) = j by omega]
theorem cnts_next (h:ats = cnts (s.take j)) (hx:s[j]? = some x) (hf:x.From = ((k:Nat):Int)) (hk:k < 16):ats.set k (((cntI (s.take j) (k:Int) + 1:Nat):Nat):Int) = cnts (s.take (j + 1)):=by
  subst h
  have hc:∀ m:Nat,cntI (s.take (j + 1)) (m:Int) = cntI (s.take j) (m:Int) + (if m = k then 1 else 0):=fun m => by
    unfold cntI
    rw [take_next hx,List.countP_append]
    congr 1
    by_cases h:m = k
    · subst h; simp [hf]
    · rw [if_neg h]; simp [hf]; omega
  unfold cnts
  apply List.ext_getElem?
  intro m
  rw [List.getElem?_set,List.getElem?_map,List.getElem?_map]
  by_cases hm:m < 16
  · rw [List.getElem?_range hm]
    by_cases h:k = m
    · subst h; rw [if_pos rfl,if_pos (by simpa using hk)]
      simp [hc]
    · rw [if_neg h]
      simp [hc,show ¬ m = k from fun e => h e.symm]
  · rw [List.getElem?_eq_none (by simpa using hm),if_neg (by omega)]; rfl
theorem idx_none {α:Type} {p:α → Bool} {l:List α} (h:idxP p l < 0):l.find? p = none:=by
  rw [List.find?_eq_none]
  intro y hy hp
  have h1:=idxP_any p l
  rw [decide_eq_false (by omega)] at h1
  have h2:l.any p = true:=List.any_eq_true.2 ⟨y,hy,hp⟩
  rw [← h1] at h2; cases h2
theorem idx_find {α:Type} {p:α → Bool} {l:List α} {s:α} (hi:¬ idxP p l < 0) (hx:l[(idxP p l).toNat]? = some s):l.find? p = some s∧p s = true:=by
  rcases idxP_find p l with ⟨h1,_⟩ | ⟨i,x,h1,h2,h3⟩
  · omega
  · rw [h1] at hx
    have e:x = s:=by rw [show ((i:Nat):Int).toNat = i from rfl,h2] at hx; exact Option.some.inj hx
    subst e
    exact ⟨h3,List.find?_some h3⟩
theorem nth_next {α:Type} {l:List α} {p:α → Prop} {q:Nat} {z:α} (hb:∀ (j:Nat) (y:α),j < q → l[j]? = some y → p y) (h:l[q]? = some z) (hp:p z):∀ (j:Nat) (y:α),j < q + 1 → l[j]? = some y → p y:=fun j u hj hu => by
  rcases Nat.lt_succ_iff_lt_or_eq.1 hj with h1 | rfl
  · exact hb j u h1 hu
  · rw [h] at hu; cases hu; exact hp
theorem cnt_le {z:Int}:cntI (s.take j) z ≤ j:=Nat.le_trans List.countP_le_length (by rw [List.length_take]; omega)
theorem got_bad1 (hx:a.recv[j]? = some x) (h:findL all x.From a.view.ID = none):gotAt all a j = false:=by unfold gotAt; rw [hx]; simp only [h]
theorem got_bad2 (hx:a.recv[j]? = some x) (h:findL all x.From a.view.ID = some b) (hb:¬ b.sent[cntI (a.recv.take j) x.From]? = some x):gotAt all a j = false:=by unfold gotAt; rw [hx]; simp only [h]; exact decide_eq_false hb
theorem got_ok (hx:a.recv[j]? = some x) (h:findL all x.From a.view.ID = some b) (hb:b.sent[cntI (a.recv.take j) x.From]? = some x):gotAt all a j = true:=by unfold gotAt; rw [hx]; simp only [h]; exact decide_eq_true hb
theorem whole_no1 (hj:j < a.recv.length) (h:gotAt all a j = false):wholeL a all = false:=by
  unfold wholeL
  rw [Bool.and_eq_false_iff]
  exact .inl (List.all_eq_false.2 ⟨j,List.mem_range.2 hj,by rw [h]; decide⟩)
theorem whole_no2 {q:Nat} (hk:(lst a.view.Set)[q]? = some k) (h1:0 < a.safe) (h2:safeAt all a (k:Int) = false):wholeL a all = false:=by
  unfold wholeL
  rw [Bool.and_eq_false_iff]
  exact .inr (List.all_eq_false.2 ⟨k,List.mem_of_getElem? hk,by rw [decide_eq_true h1,h2]; decide⟩)
theorem whole_yes (h1:∀ j,j < a.recv.length → gotAt all a j = true) (h2:∀ (q k:Nat),q < (lst a.view.Set).length → (lst a.view.Set)[q]? = some k → (decide (0 < a.safe) && !safeAt all a (k:Int)) = false):wholeL a all = true:=by
  unfold wholeL
  rw [Bool.and_eq_true]
  refine ⟨List.all_eq_true.2 fun j hj => h1 j (List.mem_range.1 hj),List.all_eq_true.2 fun k hk => ?_⟩
  obtain ⟨q,hq,rfl⟩:=List.getElem_of_mem hk
  rw [h2 q _ hq (List.getElem?_eq_getElem hq)]; rfl
end
end Go.FM

set_option linter.unusedVariables false
set_option linter.unusedSimpArgs false
namespace Go.FM
open Go
structure LR where
  node:Int
  view:GView
  vs:Value
  vr:Value
  safe:Int
  next:GViewID
def kLR:Kd LR where
  sz:=9
  pos:=by decide
  rep H x cs:=cs = [.int .i64 x.node,.int .u64 ((x.view.ID.N:Nat):Int),.int .i64 x.view.ID.P,.int .u16 ((x.view.Set:Nat):Int),x.vs,x.vr,.int .i64 x.safe,.int .u64 ((x.next.N:Nat):Int),.int .i64 x.next.P]
   ∧IB x.node∧x.view.ID.N < 18446744073709551616∧IB x.view.ID.P∧x.view.Set < 65536∧x.vs.oneCell' = true∧x.vr.oneCell' = true∧IB x.safe∧x.next.N < 18446744073709551616∧IB x.next.P
  len h:=by obtain ⟨rfl,_⟩:=h; rfl
  one h:=by obtain ⟨rfl,_,_,_,_,h1,h2,_⟩:=h; simp [h1,h2]; simp [Value.oneCell']
  mono hl h:=h
  bts:=104
  bts0:=by decide
structure LV where
  ini:List GLife
  opn:Option GLife
def lvNew (node:Int) (v:GView):GLife:=⟨node,v,[],[],0,vid0⟩
def lvStep (node:Int) (s:LV) (e:GEvent):Option LV :=
  if e.Kind = 1 then
    (if has e.View.Set node = false ∨ e.View.ID.N = 0 then none else match s.opn with
      | none => some ⟨s.ini,some (lvNew node e.View)⟩
      | some f => if 0 < cmpV e.View.ID.N e.View.ID.P f.view.ID.N f.view.ID.P then some ⟨s.ini ++ [⟨f.node,f.view,f.sent,f.recv,f.safe,e.View.ID⟩],some (lvNew node e.View)⟩ else none)
  else match s.opn with
    | none => none
    | some f => if e.View ≠ f.view then none
      else if e.Kind = 2 then some ⟨s.ini,some ⟨f.node,f.view,f.sent ++ [⟨node,e.M⟩],f.recv,f.safe,f.next⟩⟩
      else if e.Kind = 3 then some ⟨s.ini,some ⟨f.node,f.view,f.sent,f.recv ++ [⟨e.From,e.M⟩],f.safe,f.next⟩⟩
      else if e.Kind = 4 then (if f.recv[f.safe.toNat]? = some ⟨e.From,e.M⟩ then some ⟨s.ini,some ⟨f.node,f.view,f.sent,f.recv,f.safe + 1,f.next⟩⟩ else none)
      else none
def lvRun (node:Int) (l:List GEvent):Option LV:=l.foldl (fun o e => o.bind (fun s => lvStep node s e)) (some ⟨[],none⟩)
def LV.out (s:LV):List GLife:=s.ini ++ s.opn.toList
def livesT (node:Int) (l:List GEvent):List GLife × Bool:=match lvRun node l with
  | none => ([],false)
  | some s => (s.out,true)
def LOk (H:Hp) (r:LR) (f:GLife):Prop:=∃ A n c A' n' c',r.vs = .slice A n c∧r.vr = .slice A' n' c'∧Sl kItem H A n c f.sent∧Sl kItem H A' n' c' f.recv∧r.node = f.node∧r.view = f.view∧r.safe = f.safe∧r.next = f.next
def LsOk (H:Hp) (rs:List LR) (fs:List GLife):Prop:=rs.length = fs.length∧∀ (i:Nat) (r:LR) (f:GLife),rs[i]? = some r → fs[i]? = some f → LOk H r f
def LRel (H:Hp) (out:List LR) (ini:List GLife) (opn:Option GLife) (vS vR:Value):Prop:=match opn with
  | none => out = []∧ini = []∧vS = .slice none 0 0∧vR = .slice none 0 0
  | some f => ∃ rs r,out = rs ++ [r]∧LsOk H rs ini∧r.vs = vS∧r.vr = vR∧r.node = f.node∧r.view = f.view∧r.safe = f.safe∧r.next = f.next∧0 ≤ f.safe∧f.safe ≤ f.recv.length
def sentO (o:Option GLife):List GItem:=match o with | none => [] | some f => f.sent
def recvO (o:Option GLife):List GItem:=match o with | none => [] | some f => f.recv
section
variable {H H':Hp} {out:List LR} {ini:List GLife} {opn:Option GLife} {vS vR v':Value} {e:LR} {f:GLife} {k i n:Nat} {node:Int} {ev:GEvent} {l:List GEvent} {s:LV} {A A':Option Addr} {c n' c':Nat} {S R:List GItem} {w:GViewID}
theorem LOk.mono {r:LR} (h:LOk H r f) (hl:H.le H'):LOk H' r f:=by
  obtain ⟨A,n,c,A',n',c',h1,h2,h3,h4,h5⟩:=h
  exact ⟨A,n,c,A',n',c',h1,h2,h3.mono hl,h4.mono hl,h5⟩
theorem LsOk.mono {rs:List LR} {fs:List GLife} (h:LsOk H rs fs) (hl:H.le H'):LsOk H' rs fs:=⟨h.1,fun i r f h1 h2 => (h.2 i r f h1 h2).mono hl⟩
theorem LRel.mono (h:LRel H out ini opn vS vR) (hl:H.le H'):LRel H' out ini opn vS vR:=by
  cases opn with
  | none => exact h
  | some f => obtain ⟨rs,r,h1,h2,h3⟩:=h; exact ⟨rs,r,h1,h2.mono hl,h3⟩
theorem LsOk.nil:LsOk H [] []:=⟨rfl,fun i r f h => by simp at h⟩
theorem LsOk.snoc {rs:List LR} {fs:List GLife} {r:LR} (h:LsOk H rs fs) (h1:LOk H r f):LsOk H (rs ++ [r]) (fs ++ [f]):=by
  refine ⟨by rw [List.length_append,List.length_append,h.1]; rfl,fun i x y hx hy => ?_⟩
  rcases Nat.lt_trichotomy i rs.length with h2 | h2 | h2
  · rw [List.getElem?_append_left h2] at hx
    rw [List.getElem?_append_left (by rw [← h.1]; exact h2)] at hy
    exact h.2 i x y hx hy
  · subst h2
    rw [List.getElem?_append_right (Nat.le_refl _),Nat.sub_self] at hx
    rw [h.1,List.getElem?_append_right (Nat.le_refl _),Nat.sub_self] at hy
    cases hx; cases hy; exact h1
  · rw [List.getElem?_eq_none (by simp; omega)] at hx; cases hx
theorem LRel.start:LRel H [] [] none (.slice none 0 0) (.slice none 0 0):=⟨rfl,rfl,rfl,rfl⟩
theorem rel_empty (h:LRel H out ini opn vS vR) (he:out.length = 0):opn = none:=by
  cases opn with
  | none => rfl
  | some f => obtain ⟨rs,r,h1,_⟩:=h; rw [h1] at he; simp at he
theorem rel_last (h:LRel H out ini opn vS vR) (hx:out[k]? = some e) (hk:k + 1 = out.length):∃ f,opn = some f∧e.vs = vS∧e.vr = vR∧e.node = f.node∧e.view = f.view∧e.safe = f.safe∧e.next = f.next∧0 ≤ f.safe∧f.safe ≤ f.recv.length:=by
  cases opn with
  | none => rw [h.1] at hx; simp at hx
  | some f =>
    obtain ⟨rs,r,h1,h2,h3⟩:=h
    have h5:k = rs.length:=by rw [h1] at hk; simp at hk; omega
    subst h5
    rw [h1,List.getElem?_append_right (Nat.le_refl _),Nat.sub_self] at hx
    cases hx
    exact ⟨f,rfl,h3⟩
theorem set_lastLR {rs:List LR} {r r':LR} (hk:k + 1 = (rs ++ [r]).length):(rs ++ [r]).set k r' = rs ++ [r']:=by
  have:k = rs.length:=by simp at hk; omega
  subst this
  rw [List.set_append_right _ _ (Nat.le_refl _),Nat.sub_self]; rfl
theorem rel_view0 (h:LRel H out ini opn vS vR) (he:out.length = 0) {v:GView}:LRel H (out ++ [⟨node,v,.slice none 0 0,.slice none 0 0,0,⟨0,0⟩⟩]) ini (some (lvNew node v)) vS vR:=by
  have ho:=rel_empty h he
  subst ho
  obtain ⟨h1,h2,h3,h4⟩:=h
  subst h1; subst h2
  exact ⟨[],_,rfl,LsOk.nil,h3.symm,h4.symm,rfl,rfl,rfl,rfl,Int.le_refl 0,by show (0:Int) ≤ ((([]:List GItem).length:Nat):Int); simp⟩
theorem rel_view1 (h:LRel H out ini opn vS vR) (ho:opn = some f) (hx:out[k]? = some e) (hk:k + 1 = out.length) (hl:H.le H') (h1:Sl kItem H' A n c f.sent) (h2:Sl kItem H' A' n' c' f.recv) (h3:vS = .slice A n c) (h4:vR = .slice A' n' c') {v:GView} :
    LRel H' (out.set k ⟨e.node,e.view,e.vs,e.vr,e.safe,w⟩ ++ [⟨node,v,.slice none 0 0,.slice none 0 0,0,⟨0,0⟩⟩]) (ini ++ [⟨f.node,f.view,f.sent,f.recv,f.safe,w⟩]) (some (lvNew node v)) (.slice none 0 0) (.slice none 0 0):=by
  subst ho
  obtain ⟨f',hf',q1,q2,q3,q4,q5,q6,_⟩:=rel_last h hx hk
  cases hf'
  obtain ⟨rs,r,e1,e2,_⟩:=h
  rw [e1] at hk ⊢
  rw [set_lastLR hk]
  refine ⟨_,_,rfl,(e2.mono hl).snoc ⟨A,n,c,A',n',c',q1.trans h3,q2.trans h4,h1,h2,q3,q4,q5,rfl⟩,rfl,rfl,rfl,rfl,rfl,rfl,Int.le_refl 0,by show (0:Int) ≤ ((([]:List GItem).length:Nat):Int); simp⟩
theorem rel_put {g:GLife} {r':LR} (h:LRel H out ini opn vS vR) (ho:opn = some f) (hx:out[k]? = some e) (hk:k + 1 = out.length) {uS uR:Value} (h1:r'.vs = uS) (h2:r'.vr = uR) (h3:r'.node = g.node) (h4:r'.view = g.view) (h5:r'.safe = g.safe) (h6:r'.next = g.next) (h7:0 ≤ g.safe∧g.safe ≤ g.recv.length):LRel H (out.set k r') ini (some g) uS uR:=by
  subst ho
  obtain ⟨rs,r,e1,e2,_⟩:=h
  rw [e1] at hk ⊢
  rw [set_lastLR hk]
  exact ⟨rs,r',rfl,e2,h1,h2,h3,h4,h5,h6,h7.1,h7.2⟩
theorem rel_done (h:LRel H out ini opn vS vR) (hl:H.le H') (h1:Sl kItem H' A n c (sentO opn)) (h2:Sl kItem H' A' n' c' (recvO opn)) (h3:vS = .slice A n c) (h4:vR = .slice A' n' c'):LsOk H' out (ini ++ opn.toList):=by
  cases opn with
  | none => obtain ⟨e1,e2,_⟩:=h; subst e1; subst e2; exact LsOk.nil
  | some f =>
    obtain ⟨rs,r,e1,e2,q1,q2,q3,q4,q5,q6,_⟩:=h
    subst e1
    exact (e2.mono hl).snoc ⟨A,n,c,A',n',c',q1.trans h3,q2.trans h4,h1,h2,q3,q4,q5,q6⟩
theorem lvRun_next {o:Option LV} (h:l[i]? = some ev) (hs:lvRun node (l.take i) = some s) (hst:lvStep node s ev = o):lvRun node (l.take (i + 1)) = o:=by
  unfold lvRun at hs ⊢
  rw [take_next h,List.foldl_append,hs]; exact hst
theorem lvRun_none (h:lvRun node (l.take k) = none):lvRun node l = none:=by
  unfold lvRun at h ⊢
  have e:l = l.take k ++ l.drop k:=(List.take_append_drop _ _).symm
  rw [e,List.foldl_append,h]
  generalize l.drop k = r
  induction r with
  | nil => rfl
  | cons a r ih => exact ih
theorem lives_no (h:lvRun node (l.take k) = none):livesT node l = ([],false):=by unfold livesT; rw [lvRun_none h]
theorem lives_yes (h:lvRun node (l.take k) = some ⟨ini,opn⟩) (hk:l.length ≤ k):livesT node l = (ini ++ opn.toList,true):=by
  rw [List.take_of_length_le hk] at h
  unfold livesT; rw [h]; rfl
theorem lv_vbad (hk:ev.Kind = 1) (h:has ev.View.Set node = false ∨ ev.View.ID.N = 0):lvStep node s ev = none:=by unfold lvStep; rw [if_pos hk,if_pos h]
theorem lv_vlow (hk:ev.Kind = 1) (ho:s.opn = some f) (h:¬ 0 < cmpV ev.View.ID.N ev.View.ID.P f.view.ID.N f.view.ID.P):lvStep node s ev = none:=by
  unfold lvStep; rw [if_pos hk,ho]
  split
  · rfl
  · exact if_neg h
theorem lv_view0 (hk:ev.Kind = 1) (ho:s.opn = none) (h1:has ev.View.Set node = true) (h2:¬ ev.View.ID.N = 0):lvStep node s ev = some ⟨s.ini,some (lvNew node ev.View)⟩:=by
  unfold lvStep; rw [if_pos hk,if_neg (by rw [h1]; simp [h2]),ho]
theorem lv_view1 (hk:ev.Kind = 1) (ho:s.opn = some f) (h1:has ev.View.Set node = true) (h2:¬ ev.View.ID.N = 0) (h:0 < cmpV ev.View.ID.N ev.View.ID.P f.view.ID.N f.view.ID.P):lvStep node s ev = some ⟨s.ini ++ [⟨f.node,f.view,f.sent,f.recv,f.safe,ev.View.ID⟩],some (lvNew node ev.View)⟩:=by
  unfold lvStep; rw [if_pos hk,if_neg (by rw [h1]; simp [h2]),ho]
  exact if_pos h
theorem lv_none (hk:¬ ev.Kind = 1) (ho:s.opn = none):lvStep node s ev = none:=by unfold lvStep; rw [if_neg hk,ho]
theorem lv_ne (hk:¬ ev.Kind = 1) (ho:s.opn = some f) (h:¬ ev.View = f.view):lvStep node s ev = none:=by
  unfold lvStep; rw [if_neg hk,ho]; exact if_pos h
theorem lv_send (hk:ev.Kind = 2) (ho:s.opn = some f) (h:ev.View = f.view):lvStep node s ev = some ⟨s.ini,some ⟨f.node,f.view,f.sent ++ [⟨node,ev.M⟩],f.recv,f.safe,f.next⟩⟩:=by
  unfold lvStep; rw [if_neg (by omega),ho]; exact (if_neg (fun k => k h)).trans (if_pos hk)
theorem lv_recv (hk:ev.Kind = 3) (ho:s.opn = some f) (h:ev.View = f.view):lvStep node s ev = some ⟨s.ini,some ⟨f.node,f.view,f.sent,f.recv ++ [⟨ev.From,ev.M⟩],f.safe,f.next⟩⟩:=by
  unfold lvStep; rw [if_neg (by omega),ho]; exact (if_neg (fun k => k h)).trans ((if_neg (by omega)).trans (if_pos hk))
theorem lv_safe (hk:ev.Kind = 4) (ho:s.opn = some f) (h:ev.View = f.view) (h2:f.recv[f.safe.toNat]? = some ⟨ev.From,ev.M⟩):lvStep node s ev = some ⟨s.ini,some ⟨f.node,f.view,f.sent,f.recv,f.safe + 1,f.next⟩⟩:=by
  unfold lvStep; rw [if_neg (by omega),ho]; exact (if_neg (fun k => k h)).trans ((if_neg (by omega)).trans ((if_neg (by omega)).trans ((if_pos hk).trans (if_pos h2))))
theorem lv_unsafe (hk:ev.Kind = 4) (ho:s.opn = some f) (h2:¬ f.recv[f.safe.toNat]? = some ⟨ev.From,ev.M⟩):lvStep node s ev = none:=by
  unfold lvStep; rw [if_neg (by omega),ho]
  by_cases h:ev.View = f.view
  · exact (if_neg (fun k => k h)).trans ((if_neg (by omega)).trans ((if_neg (by omega)).trans ((if_pos hk).trans (if_neg h2))))
  · exact if_pos h
theorem lv_kind (h1:¬ ev.Kind = 1) (h2:¬ ev.Kind = 2) (h3:¬ ev.Kind = 3) (h4:¬ ev.Kind = 4):lvStep node s ev = none:=by
  unfold lvStep; rw [if_neg h1]
  cases s.opn with
  | none => rfl
  | some f =>
    by_cases h:ev.View = f.view
    · exact (if_neg (fun k => k h)).trans ((if_neg h2).trans ((if_neg h3).trans (if_neg h4)))
    · exact if_pos h
theorem lr_lives {xs:List LR} {fs:List GLife} (h:Sl kLR H A n c xs) (hok:LsOk H xs fs):Sl kLife H A n c fs:=by
  obtain ⟨⟨cells,hr,hlen,hrep⟩,h2,h3,h4,h5⟩:=h
  refine ⟨⟨cells,hr,?_,?_⟩,by rw [← hok.1]; exact h2,h3,h4,h5⟩
  · rw [hlen,hok.1]; rfl
  · intro i f hf
    have hi:i < xs.length:=by rw [hok.1]; exact (List.getElem?_eq_some_iff.1 hf).1
    obtain ⟨d,hc,hd⟩:=hrep i xs[i] (List.getElem?_eq_getElem hi)
    refine ⟨d,?_,hd⟩
    obtain ⟨A1,n1,c1,A2,n2,c2,e1,e2,s1,s2,q1,q2,q3,q4⟩:=hok.2 i _ f (List.getElem?_eq_getElem hi) hf
    obtain ⟨rfl,b1,b2,b3,b4,_,_,b5,b6,b7⟩:=hc
    rw [e1,e2,q1,q2,q3,q4]
    rw [q1] at b1; rw [q2] at b2 b3 b4; rw [q3] at b5; rw [q4] at b6 b7
    exact ⟨A1,n1,c1,A2,n2,c2,rfl,b1,b2,b3,b4,s1,s2,b5,b6,b7⟩
end
end Go.FM

set_option linter.unusedVariables false
set_option linter.unusedSimpArgs false
namespace Go.FM
open Go
def allTo (tr:List (List GEvent)) (k:Nat):List GLife:=(List.range k).flatMap (fun (i:Nat) => (livesT (i:Int) (tr.getD i [])).1)
def lifeOk (all:List GLife) (i:Nat):Bool:=match all[i]? with
  | none => true
  | some a => (all.take i).all (fun b => !(decide (a.view.ID = b.view.ID) && !pairL a b)) && wholeL a all
def judgeV (tr:List (List GEvent)):Bool:=(List.range tr.length).all (fun (i:Nat) => (livesT (i:Int) (tr.getD i [])).2) && (List.range (allTo tr tr.length).length).all (lifeOk (allTo tr tr.length))
section
variable {tr:List (List GEvent)} {e0:List GEvent} {i j k:Nat} {a b f:GLife} {all:List GLife} {node:Int} {s s':LV} {ev:GEvent} {l:List GEvent}
theorem lvStep_ok (h:lvStep node s ev = some s') (hi:∀ f ∈ s.out,f.node = node∧has f.view.Set node = true):(∀ f ∈ s'.out,f.node = node∧has f.view.Set node = true)∧s'.out.length ≤ s.out.length + 1:=by
  unfold lvStep at h
  split at h
  · split at h
    · cases h
    · rename_i hc
      have hh:has ev.View.Set node = true:=by
        cases hq:has ev.View.Set node with
        | true => rfl
        | false => exact absurd (.inl hq) hc
      split at h
      · rename_i ho
        cases h
        refine ⟨fun f hf => ?_,by simp [LV.out,ho]⟩
        rcases List.mem_append.1 hf with h1 | h1
        · exact hi f (by unfold LV.out; rw [ho]; simpa using h1)
        · simp at h1; subst h1; exact ⟨rfl,hh⟩
      · rename_i f0 ho
        split at h
        · cases h
          have h0:=hi f0 (by unfold LV.out; rw [ho]; simp)
          refine ⟨fun f hf => ?_,by simp [LV.out,ho]⟩
          rcases List.mem_append.1 hf with h1 | h1
          · rcases List.mem_append.1 h1 with h2 | h2
            · exact hi f (by unfold LV.out; rw [ho]; simp [h2])
            · rw [List.mem_singleton.1 h2]; exact h0
          · simp at h1; subst h1; exact ⟨rfl,hh⟩
        · cases h
  · split at h
    · cases h
    · rename_i f0 ho
      have h0:=hi f0 (by unfold LV.out; rw [ho]; simp)
      have key:∀ g:GLife,g.node = f0.node → g.view = f0.view → (∀ f ∈ (LV.mk s.ini (some g)).out,f.node = node∧has f.view.Set node = true)∧(LV.mk s.ini (some g)).out.length ≤ s.out.length + 1:=by
        intro g h1 h2
        refine ⟨fun f hf => ?_,by simp [LV.out,ho]⟩
        rcases List.mem_append.1 hf with h3 | h3
        · exact hi f (by unfold LV.out; rw [ho]; simp [h3])
        · simp at h3; subst h3; rw [h1,h2]; exact h0
      split at h
      · cases h
      split at h
      · cases h; exact key _ rfl rfl
      split at h
      · cases h; exact key _ rfl rfl
      split at h
      · split at h
        · cases h; exact key _ rfl rfl
        · cases h
      · cases h
theorem lvRun_ok:∀ (k:Nat) (s:LV),lvRun node (l.take k) = some s → (∀ f ∈ s.out,f.node = node∧has f.view.Set node = true)∧s.out.length ≤ k
  | 0,s,h => by
    have:s = ⟨[],none⟩:=by rw [List.take_zero] at h; exact (Option.some.inj h).symm
    subst this; exact ⟨fun f hf => by simp [LV.out] at hf,by simp [LV.out]⟩
  | k + 1,s,h => by
    cases hk:l[k]? with
    | none =>
      have h1:l.take (k + 1) = l.take k:=by rw [List.take_of_length_le (by have:=List.getElem?_eq_none_iff.1 hk; omega),List.take_of_length_le (List.getElem?_eq_none_iff.1 hk)]
      rw [h1] at h
      have:=lvRun_ok k s h; exact ⟨this.1,by omega⟩
    | some e =>
      cases hr:lvRun node (l.take k) with
      | none =>
        unfold lvRun at hr h
        rw [take_next hk,List.foldl_append,hr] at h; cases h
      | some s0 =>
        have h0:=lvRun_ok k s0 hr
        have h2:lvStep node s0 e = some s:=by rw [← h]; exact (lvRun_next hk hr rfl).symm
        have:=lvStep_ok h2 h0.1; exact ⟨this.1,by omega⟩
theorem lives_ok:(∀ f ∈ (livesT node l).1,0 ≤ f.node∧f.node < 16)∧(livesT node l).1.length ≤ l.length:=by
  unfold livesT
  cases h:lvRun node l with
  | none => exact ⟨fun f hf => by simp at hf,Nat.zero_le _⟩
  | some s =>
    have:=lvRun_ok (l:=l) l.length s (by rw [List.take_length]; exact h)
    refine ⟨fun f hf => ?_,this.2⟩
    have h1:=this.1 f hf
    have h2:=of_decide_eq_true h1.2
    rw [h1.1]; exact ⟨h2.1,h2.2.1⟩
theorem all_next19 (h:tr[k]? = some e0) (ha:all = allTo tr k):all ++ (livesT (k:Int) e0).1 = allTo tr (k + 1):=by
  subst ha; unfold allTo
  rw [List.range_succ,List.flatMap_append]
  simp only [List.flatMap_cons,List.flatMap_nil,List.append_nil]
  rw [getD_at h]
theorem judge_no1 (h:tr[k]? = some e0) (hb:(livesT (k:Int) e0).2 = false):judgeV tr = false:=by
  unfold judgeV
  rw [Bool.and_eq_false_iff]
  exact .inl (List.all_eq_false.2 ⟨k,List.mem_range.2 (List.getElem?_eq_some_iff.1 h).1,by rw [getD_at h,hb]; decide⟩)
theorem judge_no2 (ha:all = allTo tr k) (hk:k = tr.length) (h:lifeOk all i = false) (hi:i < all.length):judgeV tr = false:=by
  subst hk; subst ha
  unfold judgeV
  rw [Bool.and_eq_false_iff]
  exact .inr (List.all_eq_false.2 ⟨i,List.mem_range.2 hi,by rw [h]; decide⟩)
theorem judge_yes (ha:all = allTo tr k) (hk:k = tr.length) (h1:∀ (j:Nat) (e:List GEvent),j < k → tr[j]? = some e → (livesT (j:Int) e).2 = true) (h2:∀ i,i < all.length → lifeOk all i = true):judgeV tr = true:=by
  subst hk; subst ha
  unfold judgeV
  rw [Bool.and_eq_true]
  refine ⟨List.all_eq_true.2 fun i hi => ?_,List.all_eq_true.2 fun i hi => h2 i (List.mem_range.1 hi)⟩
  have hi:=List.mem_range.1 hi
  rw [getD_at (List.getElem?_eq_getElem hi)]
  exact h1 i _ hi (List.getElem?_eq_getElem hi)
theorem life_bad1 (ha:all[i]? = some a) (hb:(all.take i)[j]? = some b) (h:a.view.ID = b.view.ID) (hp:pairL a b = false):lifeOk all i = false:=by
  unfold lifeOk; rw [ha]
  simp only [Bool.and_eq_false_iff]
  exact .inl (List.all_eq_false.2 ⟨b,List.mem_of_getElem? hb,by rw [decide_eq_true h,hp]; decide⟩)
theorem life_bad2 (ha:all[i]? = some a) (h:wholeL a all = false):lifeOk all i = false:=by
  unfold lifeOk; rw [ha]; simp only [h,Bool.and_false]
theorem life_ok (ha:all[i]? = some a) (hb:∀ (j:Nat) (b:GLife),j < i → (all.take i)[j]? = some b → (decide (a.view.ID = b.view.ID) && !pairL a b) = false) (h:wholeL a all = true):lifeOk all i = true:=by
  unfold lifeOk; rw [ha]
  simp only [h,Bool.and_true]
  refine List.all_eq_true.2 fun b hm => ?_
  obtain ⟨j,hj,rfl⟩:=List.getElem_of_mem hm
  rw [hb j _ (by simp at hj; omega) (List.getElem?_eq_getElem hj)]; rfl
end
end Go.FM

set_option linter.unusedVariables false
set_option linter.unusedSimpArgs false
namespace Go.FM
open Go
def VLt (a b:GViewID):Prop:=a.N < b.N ∨ a.N = b.N∧a.P < b.P
def lifeOf (node:Int) (l:List GEvent) (v:GView):GLife:=⟨node,v,itemsT l node 2 v.ID,itemsT l node 3 v.ID,((itemsT l node 4 v.ID).length:Int),nextT l v.ID⟩
section
variable {l r:List GEvent} {e:GEvent} {node:Int} {kind k:Nat} {v u w:GView} {x:GViewID} {vs:List GView} {s:LV} {a b:List GItem} {y:GItem}
theorem vlt_iff {a b:GViewID}:0 < cmpV b.N b.P a.N a.P ↔ VLt a b:=cmpV_pos _ _ _ _
theorem VLt.ne {a b:GViewID} (h:VLt a b):a ≠ b:=fun e => by subst e; unfold VLt at h; omega
theorem VLt.trans {a b c:GViewID} (h:VLt a b) (h2:VLt b c):VLt a c:=by unfold VLt at *; omega
theorem views_snoc:viewsT (l ++ [e]) = viewsT l ++ (if e.Kind = 1 then [e.View] else []):=by
  unfold viewsT; rw [List.filter_append,List.map_append]
  by_cases h:e.Kind = 1 <;> simp [h]
theorem items_snoc:itemsT (l ++ [e]) node kind x = itemsT l node kind x ++ (if e.Kind = kind∧e.View.ID = x then [itemT node kind e] else []):=by
  unfold itemsT; rw [List.filter_append,List.map_append]
  by_cases h:e.Kind = kind∧e.View.ID = x
  · rw [if_pos h]; simp [h.1,h.2]
  · rw [if_neg h]
    have:(decide (e.Kind = kind) && decide (e.View.ID = x)) = false:=by
      rw [Bool.and_eq_false_iff]
      by_cases h1:e.Kind = kind
      · right; exact decide_eq_false fun h2 => h ⟨h1,h2⟩
      · left; exact decide_eq_false h1
    simp [List.filter_cons,this]
theorem items_app:itemsT (l ++ r) node kind x = itemsT l node kind x ++ itemsT r node kind x:=by
  unfold itemsT; rw [List.filter_append,List.map_append]
theorem views_app:viewsT (l ++ r) = viewsT l ++ viewsT r:=by unfold viewsT; rw [List.filter_append,List.map_append]
theorem next_last:∀ (vs:List GView),(∀ w ∈ vs,w.ID ≠ u.ID) → nextOf (vs ++ [u]) u.ID = vid0
  | [],_ => rfl
  | [a],h => by
    show nextOf (a::u::[]) u.ID = _
    unfold nextOf
    rw [if_neg (h a (by simp))]; rfl
  | a::b::r,h => by
    show nextOf (a::(b::(r ++ [u]))) u.ID = _
    unfold nextOf
    rw [if_neg (h a (by simp))]
    exact next_last (b::r) fun w hw => h w (by simp at hw ⊢; exact .inr hw)
theorem next_new:∀ (vs:List GView),(∀ w ∈ vs,w.ID ≠ u.ID) → nextOf (vs ++ [u] ++ [v]) u.ID = v.ID
  | [],_ => by show nextOf (u::v::[]) u.ID = _; unfold nextOf; rw [if_pos rfl]
  | [a],h => by
    show nextOf (a::u::[v]) u.ID = _
    unfold nextOf
    rw [if_neg (h a (by simp))]
    unfold nextOf; rw [if_pos rfl]
  | a::b::r,h => by
    show nextOf (a::(b::(r ++ [u] ++ [v]))) u.ID = _
    unfold nextOf
    rw [if_neg (h a (by simp))]
    exact next_new (b::r) fun w hw => h w (by simp at hw ⊢; exact .inr hw)
theorem next_old:∀ (vs:List GView),x ≠ u.ID → nextOf (vs ++ [u] ++ [v]) x = nextOf (vs ++ [u]) x
  | [],h => by
    show nextOf (u::v::[]) x = nextOf [u] x
    unfold nextOf; rw [if_neg (fun e => h e.symm)]; rfl
  | [a],h => by
    show nextOf (a::u::[v]) x = nextOf (a::[u]) x
    unfold nextOf
    split
    · rfl
    · show nextOf (u::v::[]) x = nextOf [u] x
      unfold nextOf; rw [if_neg (fun e => h e.symm)]; rfl
  | a::b::r,h => by
    show nextOf (a::(b::(r ++ [u] ++ [v]))) x = nextOf (a::(b::(r ++ [u]))) x
    unfold nextOf
    split
    · rfl
    · exact next_old (b::r) h
theorem begins_iff:beginsT a b = true ↔ ∃ c,b = a ++ c:=by
  unfold beginsT
  rw [Bool.and_eq_true,decide_eq_true_eq,decide_eq_true_eq]
  constructor
  · rintro ⟨h1,h2⟩
    exact ⟨b.drop a.length,by have h3:=List.take_append_drop a.length b; rw [← h2] at h3; exact h3.symm⟩
  · rintro ⟨c,rfl⟩
    exact ⟨by simp,by simp⟩
theorem begins_push (h:beginsT a b = true) (hy:b[a.length]? = some y):beginsT (a ++ [y]) b = true:=by
  obtain ⟨c,rfl⟩:=begins_iff.1 h
  rw [List.getElem?_append_right (Nat.le_refl _),Nat.sub_self] at hy
  cases c with
  | nil => simp at hy
  | cons z c => simp at hy; subst hy; exact begins_iff.2 ⟨c,by simp⟩
theorem begins_grow {c:List GItem} (h:beginsT a b = true):beginsT a (b ++ c) = true:=by
  obtain ⟨d,rfl⟩:=begins_iff.1 h
  exact begins_iff.2 ⟨d ++ c,by simp⟩
theorem begins_at (h:beginsT a b = true) (hk:k < a.length):b[k]? = a[k]?:=by
  obtain ⟨d,rfl⟩:=begins_iff.1 h
  rw [List.getElem?_append_left hk]
structure TI (node:Int) (l:List GEvent) (s:LV):Prop where
  out:s.out = (viewsT l).map (lifeOf node l)
  ar:aRun node l = some ⟨s.opn.isSome,(s.opn.map (·.view)).getD view0,(s.opn.map (·.recv.length)).getD 0,(s.opn.map (·.safe.toNat)).getD 0⟩
  up:(viewsT l).Pairwise (fun a b => VLt a.ID b.ID)
  inn:∀ e ∈ l,e.Kind ≠ 1 → e.View ∈ viewsT l
  beg:∀ v ∈ viewsT l,beginsT (itemsT l node 4 v.ID) (itemsT l node 3 v.ID) = true
  emp:s.opn = none → s.ini = []
theorem TI.nil:TI node [] ⟨[],none⟩:=⟨rfl,rfl,List.Pairwise.nil,fun e h => by simp at h,fun v h => by simp [viewsT] at h,fun _ => rfl⟩
theorem aRun_snoc:aRun node (l ++ [e]) = (aRun node l).bind (fun s => aStep node s e):=by unfold aRun; rw [List.foldl_append]; rfl
theorem lvRun_snoc:lvRun node (l ++ [e]) = (lvRun node l).bind (fun s => lvStep node s e):=by unfold lvRun; rw [List.foldl_append]; rfl
variable {s':LV} {f:GLife}
theorem TI.none (h:TI node l s) (ho:s.opn = none):viewsT l = []:=by
  have h1:=h.out
  unfold LV.out at h1
  rw [ho,h.emp ho] at h1
  exact List.map_eq_nil_iff.1 h1.symm
theorem TI.last (h:TI node l s) (ho:s.opn = some f):∃ vs,viewsT l = vs ++ [f.view]∧s.ini = vs.map (lifeOf node l)∧f = lifeOf node l f.view:=by
  have h1:=h.out
  unfold LV.out at h1
  rw [ho] at h1
  obtain ⟨l1,l2,h2,h3,h4⟩:=List.map_eq_append_iff.1 h1.symm
  obtain ⟨v,h5,h6⟩:=List.map_eq_singleton_iff.1 h4
  have hv:f.view = v:=by rw [← h6]; rfl
  exact ⟨l1,by rw [h2,h5,hv],h3.symm,by rw [hv]; exact h6.symm⟩
theorem items_none (hin:∀ e ∈ l,e.Kind ≠ 1 → e.View ∈ viewsT l) (hk:kind ≠ 1) (hx:∀ w ∈ viewsT l,w.ID ≠ x):itemsT l node kind x = []:=by
  unfold itemsT
  rw [List.map_eq_nil_iff,List.filter_eq_nil_iff]
  intro e he hc
  rw [Bool.and_eq_true,decide_eq_true_eq,decide_eq_true_eq] at hc
  exact hx _ (hin e he (by rw [hc.1]; exact hk)) hc.2
theorem items_view (hk:e.Kind = 1) (hk2:kind ≠ 1):itemsT (l ++ [e]) node kind x = itemsT l node kind x:=by
  rw [items_snoc,if_neg (fun h => hk2 (by rw [← h.1]; exact hk)),List.append_nil]
theorem items_ne (h:¬ (e.Kind = kind∧e.View.ID = x)):itemsT (l ++ [e]) node kind x = itemsT l node kind x:=by
  rw [items_snoc,if_neg h,List.append_nil]
theorem inn_view (h:TI node l s) (hk:e.Kind = 1):∀ e' ∈ l ++ [e],e'.Kind ≠ 1 → e'.View ∈ viewsT (l ++ [e]):=fun e' he hne => by
  rw [views_snoc]
  rcases List.mem_append.1 he with h1 | h1
  · exact List.mem_append_left _ (h.inn e' h1 hne)
  · rw [List.mem_singleton.1 h1] at hne; exact absurd hk hne
theorem TI.view (h:TI node l s) (hs:lvStep node s e = some s') (hk:e.Kind = 1):TI node (l ++ [e]) s':=by
  unfold lvStep at hs
  rw [if_pos hk] at hs
  split at hs
  · cases hs
  rename_i hc
  have hh:has e.View.Set node = true:=by
    cases hq:has e.View.Set node with
    | true => rfl
    | false => exact absurd (.inl hq) hc
  have hN:¬ e.View.ID.N = 0:=fun k => hc (.inr k)
  have hv:viewsT (l ++ [e]) = viewsT l ++ [e.View]:=by rw [views_snoc,if_pos hk]
  have fin:(∀ w ∈ viewsT l,VLt w.ID e.View.ID) → lifeOf node (l ++ [e]) e.View = lvNew node e.View:=fun hlt => by
    have hne:∀ w ∈ viewsT l,w.ID ≠ e.View.ID:=fun w hw => (hlt w hw).ne
    unfold lifeOf lvNew nextT
    rw [items_view hk (by decide),items_view hk (by decide),items_view hk (by decide),items_none h.inn (by decide) hne,items_none h.inn (by decide) hne,items_none h.inn (by decide) hne,hv,next_last _ hne]
    rfl
  have bg:(∀ w ∈ viewsT l,VLt w.ID e.View.ID) → ∀ v ∈ viewsT (l ++ [e]),beginsT (itemsT (l ++ [e]) node 4 v.ID) (itemsT (l ++ [e]) node 3 v.ID) = true:=fun hlt v hm => by
    rw [items_view hk (by decide),items_view hk (by decide)]
    rw [hv] at hm
    rcases List.mem_append.1 hm with h1 | h1
    · exact h.beg v h1
    · rw [List.mem_singleton.1 h1,items_none h.inn (by decide) (fun w hw => (hlt w hw).ne)]
      exact begins_iff.2 ⟨_,rfl⟩
  have upp:(∀ w ∈ viewsT l,VLt w.ID e.View.ID) → (viewsT (l ++ [e])).Pairwise (fun a b => VLt a.ID b.ID):=fun hlt => by
    rw [hv,List.pairwise_append]
    exact ⟨h.up,List.pairwise_singleton _ _,fun a ha b hb => by rw [List.mem_singleton.1 hb]; exact hlt a ha⟩
  split at hs
  · rename_i ho
    cases hs
    have hz:=h.none ho
    have hlt:∀ w ∈ viewsT l,VLt w.ID e.View.ID:=fun w hw => by rw [hz] at hw; simp at hw
    refine ⟨?_,?_,upp hlt,inn_view h hk,bg hlt,fun k => (by cases k)⟩
    · rw [hv,hz]
      show s.ini ++ [lvNew node e.View] = [lifeOf node (l ++ [e]) e.View]
      rw [h.emp ho,fin hlt]; rfl
    · rw [aRun_snoc,h.ar,ho]
      exact aS_1ok hk ⟨⟨hN,hh⟩,fun k => by cases k⟩
  · rename_i f ho
    split at hs
    · rename_i hgt
      cases hs
      obtain ⟨vs,e1,e2,e3⟩:=h.last ho
      have hlast:VLt f.view.ID e.View.ID:=vlt_iff.1 hgt
      have hup:=h.up
      rw [e1,List.pairwise_append] at hup
      have hlt:∀ w ∈ viewsT l,VLt w.ID e.View.ID:=fun w hw => by
        rw [e1] at hw
        rcases List.mem_append.1 hw with h1 | h1
        · exact (hup.2.2 w h1 f.view (by simp)).trans hlast
        · rw [List.mem_singleton.1 h1]; exact hlast
      refine ⟨?_,?_,upp hlt,inn_view h hk,bg hlt,fun k => (by cases k)⟩
      · rw [hv,e1]
        show s.ini ++ [_] ++ [lvNew node e.View] = _
        rw [List.map_append,List.map_append]
        show _ = vs.map _ ++ [lifeOf node (l ++ [e]) f.view] ++ [lifeOf node (l ++ [e]) e.View]
        rw [fin hlt,e2]
        congr 1
        congr 1
        · refine List.map_congr_left fun w hw => ?_
          have hwf:w.ID ≠ f.view.ID:=(hup.2.2 w hw f.view (by simp)).ne
          unfold lifeOf nextT
          rw [items_view hk (by decide),items_view hk (by decide),items_view hk (by decide),hv,e1,next_old _ hwf]
        · have hne:∀ w ∈ vs,w.ID ≠ f.view.ID:=fun w hw => (hup.2.2 w hw f.view (by simp)).ne
          unfold lifeOf nextT
          rw [items_view hk (by decide),items_view hk (by decide),items_view hk (by decide),hv,e1,next_new _ hne]
          rw [e3]; rfl
      · rw [aRun_snoc,h.ar,ho]
        refine aS_1ok hk ⟨⟨hN,hh⟩,fun _ => hgt⟩
    · cases hs
theorem TI.keep (h:TI node l s) (ho:s.opn = some f) (hk:¬ e.Kind = 1) (hv:e.View = f.view) {g:GLife} (hg:g = lifeOf node (l ++ [e]) f.view) (har:aStep node ⟨true,f.view,f.recv.length,f.safe.toNat⟩ e = some ⟨true,f.view,g.recv.length,g.safe.toNat⟩)
    (hb:beginsT (itemsT (l ++ [e]) node 4 f.view.ID) (itemsT (l ++ [e]) node 3 f.view.ID) = true):TI node (l ++ [e]) ⟨s.ini,some g⟩:=by
  obtain ⟨vs,e1,e2,e3⟩:=h.last ho
  have hvw:viewsT (l ++ [e]) = viewsT l:=by rw [views_snoc,if_neg hk,List.append_nil]
  have hup:=h.up
  rw [e1,List.pairwise_append] at hup
  have hne:∀ w ∈ vs,e.View.ID ≠ w.ID:=fun w hw k => (hup.2.2 w hw f.view (by simp)).ne (by rw [← k,hv])
  have hgv:g.view = f.view:=by rw [hg]; rfl
  refine ⟨?_,?_,by rw [hvw]; exact h.up,fun e' he hn => ?_,fun v hm => ?_,fun k => (by cases k)⟩
  · show s.ini ++ [g] = _
    rw [hvw,e1,List.map_append,e2,hg]
    congr 1
    refine List.map_congr_left fun w hw => ?_
    unfold lifeOf nextT
    rw [items_ne (fun k => hne w hw k.2),items_ne (fun k => hne w hw k.2),items_ne (fun k => hne w hw k.2),hvw]
  · rw [aRun_snoc,h.ar,ho]
    show aStep node ⟨true,f.view,f.recv.length,f.safe.toNat⟩ e = some ⟨true,g.view,g.recv.length,g.safe.toNat⟩
    rw [hgv]; exact har
  · rw [hvw]
    rcases List.mem_append.1 he with h1 | h1
    · exact h.inn e' h1 hn
    · rw [List.mem_singleton.1 h1,hv,e1]; simp
  · rw [hvw,e1] at hm
    rcases List.mem_append.1 hm with h1 | h1
    · rw [items_ne (fun k => hne v h1 k.2),items_ne (fun k => hne v h1 k.2)]
      exact h.beg v (by rw [e1]; exact List.mem_append_left _ h1)
    · rw [List.mem_singleton.1 h1]; exact hb
theorem TI.other (h:TI node l s) (hs:lvStep node s e = some s') (hk:¬ e.Kind = 1):TI node (l ++ [e]) s':=by
  unfold lvStep at hs
  rw [if_neg hk] at hs
  split at hs
  · cases hs
  rename_i f ho
  split at hs
  · cases hs
  rename_i hv
  have hv:e.View = f.view:=Classical.byContradiction hv
  have hvi:e.View.ID = f.view.ID:=by rw [hv]
  obtain ⟨vs,e1,e2,e3⟩:=h.last ho
  have hvw:viewsT (l ++ [e]) = viewsT l:=by rw [views_snoc,if_neg hk,List.append_nil]
  have q1:f.node = node:=congrArg GLife.node e3
  have q2:f.sent = itemsT l node 2 f.view.ID:=congrArg GLife.sent e3
  have q3:f.recv = itemsT l node 3 f.view.ID:=congrArg GLife.recv e3
  have q4:f.safe = ((itemsT l node 4 f.view.ID).length:Int):=congrArg GLife.safe e3
  have q5:f.next = nextT l f.view.ID:=congrArg GLife.next e3
  have q6:f.safe.toNat = (itemsT l node 4 f.view.ID).length:=by rw [q4]; rfl
  have hbg:=h.beg f.view (by rw [e1]; simp)
  have hle:f.safe.toNat ≤ f.recv.length:=by
    obtain ⟨c,hc⟩:=begins_iff.1 hbg
    rw [q6,q3,hc]; simp
  split at hs
  · rename_i k2
    cases hs
    refine h.keep ho hk hv ?_ ?_ ?_
    · unfold lifeOf nextT
      rw [items_snoc (kind:=2),if_pos ⟨k2,hvi⟩,items_ne (kind:=3) (fun k => by omega),items_ne (kind:=4) (fun k => by omega),hvw,q1,q2,q3,q4,q5]
      rfl
    · exact aS_ok (.inl k2) (by rw [if_neg (by omega)]) (by rw [if_neg (by omega)]) ⟨⟨rfl,hv⟩,hle⟩
    · rw [items_ne (kind:=4) (fun k => by omega),items_ne (kind:=3) (fun k => by omega)]; exact hbg
  split at hs
  · rename_i k3
    cases hs
    refine h.keep ho hk hv ?_ ?_ ?_
    · unfold lifeOf nextT
      rw [items_snoc (kind:=3),if_pos ⟨k3,hvi⟩,items_ne (kind:=2) (fun k => by omega),items_ne (kind:=4) (fun k => by omega),hvw,q1,q2,q3,q4,q5]
      rfl
    · exact aS_ok (.inr (.inl k3)) (by rw [if_pos k3]; simp) (by rw [if_neg (by omega)]) ⟨⟨rfl,hv⟩,by show f.safe.toNat ≤ (f.recv ++ [GItem.mk e.From e.M]).length; rw [List.length_append]; omega⟩
    · rw [items_ne (kind:=4) (fun k => by omega),items_snoc (kind:=3)]; exact begins_grow hbg
  split at hs
  · rename_i k4
    split at hs
    · rename_i hr
      cases hs
      have hs0:0 ≤ f.safe:=by rw [q4]; omega
      have hlt:f.safe.toNat < f.recv.length:=(List.getElem?_eq_some_iff.1 hr).1
      refine h.keep ho hk hv ?_ ?_ ?_
      · unfold lifeOf nextT
        rw [items_snoc (kind:=4),if_pos ⟨k4,hvi⟩,items_ne (kind:=2) (fun k => by omega),items_ne (kind:=3) (fun k => by omega),hvw,q1,q2,q3,q4,q5]
        rw [List.length_append]; rfl
      · exact aS_ok (.inr (.inr k4)) (by rw [if_neg (by omega)]) (by rw [if_pos k4]; show (f.safe + 1).toNat = f.safe.toNat + 1; omega) ⟨⟨rfl,hv⟩,by show (f.safe + 1).toNat ≤ f.recv.length; omega⟩
      · rw [items_snoc (kind:=4),if_pos ⟨k4,hvi⟩,items_ne (kind:=3) (fun k => by omega)]
        refine begins_push hbg ?_
        rw [← q3,← q6,hr]; rfl
    · cases hs
  · cases hs
theorem alone_cut (h:aRun node (l ++ [e]) = none):aloneT node (l ++ e::r) = false:=by
  refine alone_no1 (k:=(l ++ [e]).length) ?_
  rw [show l ++ e::r = (l ++ [e]) ++ r by simp,List.take_left]
  exact h
theorem TI.bad (h:TI node l s) (hs:lvStep node s e = Option.none):aloneT node (l ++ e::r) = false:=by
  unfold lvStep at hs
  split at hs
  · rename_i hk
    split at hs
    · rename_i hc
      refine alone_cut ?_
      rw [aRun_snoc,h.ar]
      exact aS_1bad hk (.inl (hc.elim .inr .inl))
    · split at hs
      · cases hs
      · rename_i f ho
        split at hs
        · cases hs
        · rename_i hn
          refine alone_cut ?_
          rw [aRun_snoc,h.ar,ho]
          exact aS_1bad hk (.inr ⟨rfl,by show cmpV _ _ f.view.ID.N f.view.ID.P ≤ 0; omega⟩)
  · rename_i hk
    by_cases hkk:e.Kind = 2 ∨ e.Kind = 3 ∨ e.Kind = 4
    · split at hs
      · rename_i ho
        refine alone_cut ?_
        rw [aRun_snoc,h.ar,ho]
        exact aS_bad hkk rfl rfl (.inl (.inl rfl))
      · rename_i f ho
        split at hs
        · rename_i hv
          refine alone_cut ?_
          rw [aRun_snoc,h.ar,ho]
          exact aS_bad hkk rfl rfl (.inl (.inr hv))
        rename_i hv
        have hv:e.View = f.view:=Classical.byContradiction hv
        split at hs
        · cases hs
        split at hs
        · cases hs
        split at hs
        · rename_i k4
          split at hs
          · cases hs
          rename_i hr
          obtain ⟨vs,e1,e2,e3⟩:=h.last ho
          have q3:f.recv = itemsT l node 3 f.view.ID:=congrArg GLife.recv e3
          have q4:f.safe = ((itemsT l node 4 f.view.ID).length:Int):=congrArg GLife.safe e3
          have q6:f.safe.toNat = (itemsT l node 4 f.view.ID).length:=by rw [q4]; rfl
          by_cases hlt:f.recv.length < f.safe.toNat + 1
          · refine alone_cut ?_
            rw [aRun_snoc,h.ar,ho]
            exact aS_bad hkk rfl rfl (.inr (by rw [if_neg (by omega),if_pos k4]; exact hlt))
          · have hm:f.view ∈ viewsT (l ++ e::r):=by rw [views_app,e1]; simp
            obtain ⟨j,hj,hje⟩:=List.getElem_of_mem hm
            refine alone_no2 (j:=j) (w:=f.view) (by rw [List.getElem?_eq_getElem hj,hje]) ?_
            cases hb:beginsT (itemsT (l ++ e::r) node 4 f.view.ID) (itemsT (l ++ e::r) node 3 f.view.ID) with
            | false => rfl
            | true =>
              exfalso
              have h4:itemsT (l ++ e::r) node 4 f.view.ID = itemsT l node 4 f.view.ID ++ ([itemT node 4 e] ++ itemsT r node 4 f.view.ID):=by
                rw [show l ++ e::r = (l ++ [e]) ++ r by simp,items_app,items_snoc,if_pos ⟨k4,by rw [hv]⟩,List.append_assoc]
              have h3:itemsT (l ++ e::r) node 3 f.view.ID = itemsT l node 3 f.view.ID ++ itemsT r node 3 f.view.ID:=by
                rw [show l ++ e::r = (l ++ [e]) ++ r by simp,items_app,items_ne (fun k => by omega)]
              have h5:=begins_at (k:=(itemsT l node 4 f.view.ID).length) hb (by rw [h4]; simp)
              rw [h4,h3,List.getElem?_append_left (by rw [← q3]; omega),List.getElem?_append_right (Nat.le_refl _),Nat.sub_self] at h5
              rw [← q3,← q6] at h5
              exact hr (by rw [h5]; rfl)
        · omega
    · refine alone_cut ?_
      rw [aRun_snoc,h.ar]
      exact aS_none hk (fun k => hkk (.inl k)) (fun k => hkk (.inr (.inl k))) (fun k => hkk (.inr (.inr k)))
theorem trace_is:∀ (n:Nat) (l:List GEvent),l.length = n → (∃ s,lvRun node l = some s∧TI node l s) ∨ (lvRun node l = none∧∀ r,aloneT node (l ++ r) = false)
  | 0,l,hl => by
    obtain rfl:=List.eq_nil_of_length_eq_zero hl
    exact .inl ⟨_,rfl,TI.nil⟩
  | n + 1,l,hl => by
    obtain ⟨l0,e,rfl⟩:∃ l0 e,l = l0 ++ [e]:=by
      rcases List.eq_nil_or_concat l with h | ⟨a,b,h⟩
      · rw [h] at hl; cases hl
      · exact ⟨a,b,by simpa using h⟩
    rcases trace_is n l0 (by simpa using hl) with ⟨s,h1,h2⟩ | ⟨h1,h2⟩
    · rw [lvRun_snoc,h1]
      cases hs:lvStep node s e with
      | none => exact .inr ⟨by show lvStep node s e = none; exact hs,fun r => by rw [List.append_assoc]; exact h2.bad hs⟩
      | some s' =>
        refine .inl ⟨s',by show lvStep node s e = some s'; exact hs,?_⟩
        by_cases hk:e.Kind = 1
        · exact h2.view hs hk
        · exact h2.other hs hk
    · exact .inr ⟨by rw [lvRun_snoc,h1]; rfl,fun r => by rw [List.append_assoc]; exact h2 _⟩
theorem TI.alone (h:TI node l s):aloneT node l = true:=by
  unfold aloneT
  rw [h.ar,Option.isSome_some,Bool.true_and]
  exact List.all_eq_true.2 h.beg
theorem lives_alone:(livesT node l).2 = aloneT node l∧(aloneT node l = true → (livesT node l).1 = (viewsT l).map (lifeOf node l)∧(viewsT l).Pairwise (fun a b => VLt a.ID b.ID)):=by
  rcases trace_is (node:=node) l.length l rfl with ⟨s,h1,h2⟩ | ⟨h1,h2⟩
  · unfold livesT
    rw [h1]
    exact ⟨h2.alone.symm,fun _ => ⟨h2.out,h2.up⟩⟩
  · have h3:=h2 []
    rw [List.append_nil] at h3
    unfold livesT
    rw [h1,h3]
    exact ⟨rfl,fun k => by cases k⟩
end
end Go.FM

set_option linter.unusedVariables false
set_option linter.unusedSimpArgs false
namespace Go.FM
open Go
structure GOut where
  To:Int
  F:GFrame
instance:DecidableEq GOut:=fun a b => decidable_of_iff (a.To = b.To∧a.F = b.F) ⟨fun h => by cases a; cases b; simp_all,fun h => by rw [h]; simp⟩
instance:Inhabited GOut:=⟨(GOut.mk 0 (GFrame.mk 0 0 (GViewID.mk 0 0) 0 (GViewID.mk 0 0) (GViewID.mk 0 0) [] 0 [] [] 0 0))⟩
structure GInstall where
  View:GView
  States:(List GState)
def kInstall:Kd GInstall where
  sz:=4
  pos:=by decide
  rep H x cs:=∃ (A1:Option Addr) (n2 c3:Nat),cs = [.int .u64 (x.View.ID.N:Int),.int .i64 x.View.ID.P,.int .u16 (x.View.Set:Int),.slice A1 n2 c3]∧x.View.ID.N < 18446744073709551616∧IB (x.View.ID.P)∧x.View.Set < 65536∧Sl kState H A1 n2 c3 x.States
  len h:=by obtain ⟨A1,n2,c3,rfl,_⟩:=h; rfl
  one h:=by obtain ⟨A1,n2,c3,rfl,_⟩:=h; simp [Value.oneCell']
  mono hl h:=by obtain ⟨A1,n2,c3,rfl,h0,h1,h2,h3⟩:=h; exact ⟨A1,n2,c3,rfl,h0,h1,h2,h3.mono hl⟩
  bts:=48
  bts0:=by decide
instance:DecidableEq GInstall:=fun a b => decidable_of_iff (a.View = b.View∧a.States = b.States) ⟨fun h => by cases a; cases b; simp_all,fun h => by rw [h]; simp⟩
instance:Inhabited GInstall:=⟨(GInstall.mk (GView.mk (GViewID.mk 0 0) 0) [])⟩
structure GMove where
  Kind:Nat
  I:Nat
  Est:Nat
  Keep:Bool
instance:DecidableEq GMove:=fun a b => decidable_of_iff (a.Kind = b.Kind∧a.I = b.I∧a.Est = b.Est∧a.Keep = b.Keep) ⟨fun h => by cases a; cases b; simp_all,fun h => by rw [h]; simp⟩
instance:Inhabited GMove:=⟨(GMove.mk 0 0 0 false)⟩
theorem GMove.beq_dec (a b:GMove):((((a.Kind:Nat):Int) == ((b.Kind:Nat):Int)) && ((((a.I:Nat):Int) == ((b.I:Nat):Int)) && ((((a.Est:Nat):Int) == ((b.Est:Nat):Int)) && ((a.Keep == b.Keep) && true)))) = decide (a = b):=by
  rw [Bool.eq_iff_iff]
  obtain ⟨aKind,aI,aEst,aKeep⟩:=a
  obtain ⟨bKind,bI,bEst,bKeep⟩:=b
  simp only [Bool.and_eq_true,beq_iff_eq,decide_eq_true_eq,Int.ofNat_inj,Int.natCast_inj,and_true,and_assoc,GMove.mk.injEq]
end Go.FM

set_option linter.unusedVariables false
set_option linter.unusedSimpArgs false
namespace Go.FM
open Go
structure GProp where
  v:GView
  who:Nat
  states:List GState
  done:Bool
structure MB where
  n:Nat
  self:Nat
  cur:GView
  prom:GViewID
  high:Nat
  prop:Option GProp
  joined:List GState
  others:List (GViewID × GViewID)
def z0:GViewID:=⟨0,0⟩
def MB.new (n self:Nat):MB:=⟨n,self,⟨z0,0⟩,z0,0,none,[],List.replicate 16 (z0,z0)⟩
def aboveV (a b:GViewID):Bool:=decide (0 < cmpV a.N a.P b.N b.P)
def MB.other (m:MB) (i:Nat):GViewID × GViewID:=m.others.getD i (z0,z0)
def MB.ahead (m:MB) (set:Nat) (v:GViewID):Bool:=(lst set).any fun i => decide (i ≠ m.self) && aboveV (m.other i).2 v
def MB.opn (m:MB):Bool:=decide (0 < m.cur.ID.N) && decide (m.cur.ID = m.prom)
def MB.hear (m:MB) (v:GViewID):MB:={ m with high:=max m.high v.N }
def MB.need (m:MB) (est:Nat):Bool:=decide (m.cur.ID ≠ m.prom) || decide (m.cur.ID.N = 0) || decide (est ≠ m.cur.Set) || m.ahead est m.cur.ID
def MB.under (m:MB) (est:Nat):Bool:=match m.prop with
  | none => false
  | some p => !p.done && decide (m.prom = p.v.ID) && decide (p.v.Set = est) && !m.ahead est p.v.ID
def frCommit (self:Nat) (v:GView) (j:List GState):GFrame:=⟨5,(self:Int),v.ID,v.Set,z0,z0,j,0,[],[],0,0⟩
def frPropose (self:Nat) (v:GView):GFrame:=⟨2,(self:Int),v.ID,v.Set,z0,z0,[],0,[],[],0,0⟩
def frRefuse (self:Nat) (id prom:GViewID):GFrame:=⟨4,(self:Int),id,0,z0,prom,[],0,[],[],0,0⟩
def frAccept (self:Nat) (id:GViewID) (st:GState):GFrame:=⟨3,(self:Int),id,0,z0,z0,[st],0,[],[],0,0⟩
def MB.commit (m:MB) (p:GProp) (i:Nat):GOut:=⟨(i:Int),frCommit m.self p.v m.joined⟩
def MB.again1 (m:MB) (p:GProp) (i:Nat):List GOut :=
  if i = m.self then [] else if p.done = true∧(m.other i).1 ≠ p.v.ID then [m.commit p i] else if p.done = false∧has p.who i = false then [⟨(i:Int),frPropose m.self p.v⟩] else []
def MB.again (m:MB):List GOut:=match m.prop with
  | none => []
  | some p => if m.prom ≠ p.v.ID then [] else (lst p.v.Set).flatMap (m.again1 p)
def MB.agree (m:MB) (p:GProp):MB × Option GInstall :=
  if p.who ≠ p.v.Set then ({ m with prop:=some p },none) else ({ m with prop:=some { p with done:=true,states:=[] },joined:=joinS p.states,cur:=p.v },some ⟨p.v,joinS p.states⟩)
def MB.est (m:MB) (est:Nat):Nat:=wth (est &&& (2 ^ m.n - 1)) m.self
def MB.prop1 (m:MB) (e:Nat) (st:GState):GProp:=⟨⟨⟨(m.high + 1) % 18446744073709551616,(m.self:Int)⟩,e⟩,wth 0 m.self,[st],false⟩
def MB.ticks (m:MB) (e:Nat) (st:GState):MB × Option GInstall:=MB.agree { m with high:=(m.high + 1) % 18446744073709551616,prom:=(m.prop1 e st).v.ID } (m.prop1 e st)
def MB.tick (m:MB) (est:Nat) (st:GState):MB × List GOut × Option GInstall :=
  if least (m.est est) = (m.self:Int)∧m.need (m.est est) = true∧m.under (m.est est) = false then
    (match m.ticks (m.est est) st with
      | (m',some i) => (m',[],some i)
      | (m',none) => (m',m'.again,none))
  else (m,m.again,none)
def MB.propose (m:MB) (f:GFrame) (st:GState):MB × List GOut × Option GInstall × Int :=
  if f.ID.P ≠ f.From ∨ has f.Set m.self = false ∨ has f.Set f.From = false ∨ f.Set / 2 ^ m.n ≠ 0 then (m,[],none,3)
  else if aboveV f.ID m.prom = true then ({ m.hear f.ID with prom:=f.ID },[⟨f.From,frAccept m.self f.ID st⟩],none,0)
  else if f.ID ≠ m.prom ∨ m.cur.ID = f.ID then (m.hear f.ID,[⟨f.From,frRefuse m.self f.ID m.prom⟩],none,9)
  else (m.hear f.ID,[⟨f.From,frAccept m.self f.ID st⟩],none,0)
def MB.acceptOk (m:MB) (p:GProp) (f:GFrame):Bool:=!p.done && decide (p.v.ID = f.ID) && decide (m.prom = f.ID) && has p.v.Set f.From && !has p.who f.From && decide (f.States.length = 1)
def MB.accept (m:MB) (f:GFrame):MB × List GOut × Option GInstall × Int:=match m.prop with
  | none => (m,[],none,9)
  | some p => if m.acceptOk p f = true then
      (match m.agree { p with who:=wth p.who f.From,states:=p.states ++ f.States } with
        | (m',none) => (m',[],none,0)
        | (m',some i) => (m',(lst (wto p.v.Set m.self)).map (m'.commit { p with done:=true }),some i,0))
    else (m,[],none,9)
def MB.inn (m:MB) (f:GFrame) (st:GState):MB × List GOut × Option GInstall × Int :=
  if f.From < 0 ∨ (m.n:Int) ≤ f.From ∨ f.From = (m.self:Int) then (m,[],none,1)
  else if f.Kind = 1 then (({ m with others:=m.others.set f.From.toNat (f.Cur,f.Prom) }.hear f.Cur).hear f.Prom,[],none,0)
  else if f.Kind = 2 then m.propose f st
  else if f.Kind = 3 then m.accept f
  else if f.Kind = 4 then
    (match m.prop with
      | none => (m.hear f.Prom,[],none,0)
      | some p => if p.v.ID = f.ID∧p.done = false∧aboveV f.Prom f.ID = true then ({ m.hear f.Prom with prop:=none },[],none,0) else (m.hear f.Prom,[],none,0))
  else if f.Kind = 5 then
    (if f.ID ≠ m.prom ∨ m.cur.ID = f.ID ∨ has f.Set m.self = false ∨ f.ID.P ≠ f.From then (m,[],none,9) else ({ m with cur:=⟨f.ID,f.Set⟩ },[],some ⟨⟨f.ID,f.Set⟩,f.States⟩,0))
  else (m,[],none,3)
end Go.FM
