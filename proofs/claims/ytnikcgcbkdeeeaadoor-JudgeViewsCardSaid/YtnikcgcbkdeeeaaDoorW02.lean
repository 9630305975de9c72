/- Steps of the proofs over the functions of this seat, printed by a program (gen.py) and checked by Lean. -/
import Derived.Test.YtnikcgcbkdeeeaaDoorW01
set_option linter.unusedVariables false
set_option linter.unusedSimpArgs false
namespace Go.FM
open Go
def vid0:GViewID:=⟨0,0⟩
def view0:GView:=⟨vid0,0⟩
def viewsT (l:List GEvent):List GView:=(l.filter (fun e => decide (e.Kind = 1))).map (·.View)
def itemT (node:Int) (kind:Nat) (e:GEvent):GItem:=⟨if kind = 2 then node else e.From,e.M⟩
def itemsT (l:List GEvent) (node:Int) (kind:Nat) (v:GViewID):List GItem:=(l.filter (fun e => decide (e.Kind = kind) && decide (e.View.ID = v))).map (itemT node kind)
def beginsT (a b:List GItem):Bool:=decide (a.length ≤ b.length) && decide (a = b.take a.length)
def hasT (l:List GEvent) (v:GViewID):Option GView:=(viewsT l).find? (fun w => decide (w.ID = v))
def nextOf:List GView → GViewID → GViewID
  | a::b::r,v => if a.ID = v then b.ID else nextOf (b::r) v
  | _,_ => vid0
def nextT (l:List GEvent) (v:GViewID):GViewID:=nextOf (viewsT l) v
def fromT (l:List GItem) (j:Int):List GItem:=l.filter (fun x => decide (x.From = j))
structure AS where
  on:Bool
  cur:GView
  recv:Nat
  safe:Nat
def aStep (node:Int) (s:AS) (e:GEvent):Option AS :=
  if e.Kind = 1 then (if e.View.ID.N = 0 ∨ has e.View.Set node = false ∨ (s.on = true∧cmpV e.View.ID.N e.View.ID.P s.cur.ID.N s.cur.ID.P ≤ 0) then none else some ⟨true,e.View,0,0⟩)
  else if e.Kind = 2 ∨ e.Kind = 3 ∨ e.Kind = 4 then
    (if s.on = false ∨ e.View ≠ s.cur ∨ (if e.Kind = 3 then s.recv + 1 else s.recv) < (if e.Kind = 4 then s.safe + 1 else s.safe) then none
     else some ⟨s.on,s.cur,if e.Kind = 3 then s.recv + 1 else s.recv,if e.Kind = 4 then s.safe + 1 else s.safe⟩)
  else none
def aRun (node:Int) (l:List GEvent):Option AS:=l.foldl (fun o e => o.bind (fun s => aStep node s e)) (some ⟨false,view0,0,0⟩)
def aloneT (node:Int) (l:List GEvent):Bool:=(aRun node l).isSome && (viewsT l).all (fun v => beginsT (itemsT l node 4 v.ID) (itemsT l node 3 v.ID))
def seeT (tr:List (List GEvent)) (i:Nat) (v:GView) (j:Nat):Bool :=
  let recv:=itemsT (tr.getD i []) i 3 v.ID
  let safe:=(itemsT (tr.getD i []) i 4 v.ID).length
  let other:=itemsT (tr.getD j []) j 3 v.ID
  let mine:=fromT recv j
  match hasT (tr.getD j []) v.ID with
  | none => !(decide (0 < mine.length) || (decide (0 < safe) && has v.Set j))
  | some w => !(decide (w ≠ v) || (!beginsT recv other && !beginsT other recv) || !beginsT mine (itemsT (tr.getD j []) j 2 v.ID)) && !(decide (other.length < safe) && has v.Set j)
      && !(decide (0 < (nextT (tr.getD i []) v.ID).N) && decide (nextT (tr.getD i []) v.ID = nextT (tr.getD j []) v.ID) && decide (recv.length ≠ other.length))
def lateT (tr:List (List GEvent)) (i:Nat) (v:GView) (j:Nat):Bool:=!(decide (0 < (itemsT (tr.getD i []) i 4 v.ID).length) && has v.Set j)
def inviewT (tr:List (List GEvent)) (i:Nat) (v:GView):Bool :=
  (itemsT (tr.getD i []) i 3 v.ID).all (fun x => decide (0 ≤ x.From∧x.From < (tr.length:Int))) && (List.range tr.length).all (seeT tr i v) && (List.range 16).all (fun j => decide (j < tr.length) || lateT tr i v j)
def refV (tr:List (List GEvent)):Bool :=
  (List.range tr.length).all (fun i => aloneT i (tr.getD i [])) && (List.range tr.length).all (fun i => (viewsT (tr.getD i [])).all (inviewT tr i))
section
variable {l:List GEvent} {i k:Nat} {e:GEvent} {node:Int} {kind:Nat} {v:GViewID} {a b s:List GItem} {x:GItem} {vs:List GView} {w:GView} {st:AS}
theorem vT_yes (h:l[i]? = some e) (hk:e.Kind = 1):viewsT (l.take i) ++ [e.View] = viewsT (l.take (i + 1)):=by
  unfold viewsT; rw [take_next h,List.filter_append,List.map_append]; simp [hk]
theorem vT_no (h:l[i]? = some e) (hk:¬ e.Kind = 1):viewsT (l.take i) = viewsT (l.take (i + 1)):=by
  unfold viewsT; rw [take_next h,List.filter_append,List.map_append]; simp [hk]
theorem vT_len:(viewsT l).length ≤ l.length:=by unfold viewsT; rw [List.length_map]; exact List.length_filter_le _ _
theorem iT_yes (h:l[i]? = some e) (hk:e.Kind = kind) (hv:e.View.ID = v):itemsT (l.take i) node kind v ++ [itemT node kind e] = itemsT (l.take (i + 1)) node kind v:=by
  unfold itemsT; rw [take_next h,List.filter_append,List.map_append]; simp [hk,hv]
theorem iT_no (h:l[i]? = some e) (hk:(decide (e.Kind = kind) && decide (e.View.ID = v)) = false):itemsT (l.take i) node kind v = itemsT (l.take (i + 1)) node kind v:=by
  unfold itemsT; rw [take_next h,List.filter_append,List.map_append]; simp only [List.filter_cons,hk]; simp
theorem itemT_send (hk:kind = 2):GItem.mk node e.M = itemT node kind e:=by unfold itemT; rw [if_pos hk]
theorem itemT_else (hk:¬ kind = 2):GItem.mk e.From e.M = itemT node kind e:=by unfold itemT; rw [if_neg hk]
theorem fT_yes {j:Int} (h:a[i]? = some x) (hk:x.From = j):fromT (a.take i) j ++ [x] = fromT (a.take (i + 1)) j:=by
  unfold fromT; rw [take_next h,List.filter_append]; simp [hk]
theorem fT_no {j:Int} (h:a[i]? = some x) (hk:¬ x.From = j):fromT (a.take i) j = fromT (a.take (i + 1)) j:=by
  unfold fromT; rw [take_next h,List.filter_append]; simp [hk]
theorem find_no (h:vs[i]? = some w) (hf:(vs.take i).find? (fun w => decide (w.ID = v)) = none) (hk:¬ w.ID = v):(vs.take (i + 1)).find? (fun w => decide (w.ID = v)) = none:=by
  rw [take_next h,List.find?_append,hf]; simp [hk]
theorem find_yes (h:vs[i]? = some w) (hf:(vs.take i).find? (fun w => decide (w.ID = v)) = none) (hk:w.ID = v):vs.find? (fun w => decide (w.ID = v)) = some w:=by
  have h1:vs = vs.take (i + 1) ++ vs.drop (i + 1):=(List.take_append_drop _ _).symm
  rw [h1,List.find?_append,take_next h,List.find?_append,hf]; simp [hk]
theorem next_go:∀ (vs:List GView) (i:Nat) (w u:GView),(∀ j w',j < i → vs[j]? = some w' → w'.ID ≠ v) → vs[i]? = some w → vs[i + 1]? = some u → w.ID = v → nextOf vs v = u.ID
  | [],i,w,u,_,h,_,_ => by simp at h
  | [x],0,w,u,_,_,h2,_ => by simp at h2
  | [x],i + 1,w,u,_,h,_,_ => by simp at h
  | x::y::r,0,w,u,_,h1,h2,h3 => by
    simp at h1 h2; subst h1; subst h2
    unfold nextOf; rw [if_pos h3]
  | x::y::r,i + 1,w,u,hn,h1,h2,h3 => by
    unfold nextOf
    rw [if_neg (hn 0 x (by omega) rfl)]
    exact next_go (y::r) i w u (fun j w' hj hw => hn (j + 1) w' (by omega) (by simpa using hw)) (by simpa using h1) (by simpa using h2) h3
theorem next_end:∀ (vs:List GView),(∀ j w',j + 1 < vs.length → vs[j]? = some w' → w'.ID ≠ v) → nextOf vs v = vid0
  | [],_ => rfl
  | [x],_ => rfl
  | x::y::r,hn => by
    unfold nextOf
    rw [if_neg (hn 0 x (by simp) rfl)]
    exact next_end (y::r) fun j w' hj hw => hn (j + 1) w' (by simp at hj ⊢; omega) (by simpa using hw)
theorem met_next (hn:∀ j w',j < i → vs[j]? = some w' → w'.ID ≠ v) (h:vs[i]? = some w) (hk:¬ w.ID = v):∀ j w',j < i + 1 → vs[j]? = some w' → w'.ID ≠ v:=fun j w' hj hw => by
  rcases Nat.lt_succ_iff_lt_or_eq.1 hj with h1 | rfl
  · exact hn j w' h1 hw
  · rw [h] at hw; cases hw; exact hk
theorem aRun_next (h:l[i]? = some e):aRun node (l.take (i + 1)) = (aRun node (l.take i)).bind (fun s => aStep node s e):=by
  unfold aRun; rw [take_next h,List.foldl_append]; rfl
theorem aS_1bad (hk:e.Kind = 1) (h:(e.View.ID.N = 0 ∨ has e.View.Set node = false) ∨ (st.on = true∧cmpV e.View.ID.N e.View.ID.P st.cur.ID.N st.cur.ID.P ≤ 0)):aStep node st e = none:=by
  unfold aStep; rw [if_pos hk,if_pos (by rcases h with (h | h) | h; exact .inl h; exact .inr (.inl h); exact .inr (.inr h))]
theorem aS_1ok (hk:e.Kind = 1) (h:(¬ e.View.ID.N = 0∧has e.View.Set node = true)∧(st.on = true → 0 < cmpV e.View.ID.N e.View.ID.P st.cur.ID.N st.cur.ID.P)):aStep node st e = some ⟨true,e.View,0,0⟩:=by
  unfold aStep; rw [if_pos hk,if_neg]
  rintro (h1 | h1 | ⟨h1,h2⟩)
  · exact h.1.1 h1
  · rw [h.1.2] at h1; cases h1
  · have:=h.2 h1; omega
theorem aS_bad {r f:Nat} (hk:e.Kind = 2 ∨ e.Kind = 3 ∨ e.Kind = 4) (hr:r = if e.Kind = 3 then st.recv + 1 else st.recv) (hf:f = if e.Kind = 4 then st.safe + 1 else st.safe) (h:(st.on = false ∨ ¬ e.View = st.cur) ∨ r < f):aStep node st e = none:=by
  unfold aStep
  rw [if_neg (by omega),if_pos hk,← hr,← hf,if_pos (by rcases h with (h | h) | h; exact .inl h; exact .inr (.inl h); exact .inr (.inr h))]
theorem aS_ok {r f:Nat} (hk:e.Kind = 2 ∨ e.Kind = 3 ∨ e.Kind = 4) (hr:r = if e.Kind = 3 then st.recv + 1 else st.recv) (hf:f = if e.Kind = 4 then st.safe + 1 else st.safe) (h:(st.on = true∧e.View = st.cur)∧f ≤ r):aStep node st e = some ⟨st.on,st.cur,r,f⟩:=by
  unfold aStep
  rw [if_neg (by omega),if_pos hk,← hr,← hf,if_neg]
  rintro (h1 | h1 | h1)
  · rw [h.1.1] at h1; cases h1
  · exact h1 h.1.2
  · omega
theorem aS_none (h1:¬ e.Kind = 1) (h2:¬ e.Kind = 2) (h3:¬ e.Kind = 3) (h4:¬ e.Kind = 4):aStep node st e = none:=by
  unfold aStep; rw [if_neg h1,if_neg (by omega)]
theorem aRun_step {o:Option AS} (h:l[i]? = some e) (hs:aRun node (l.take i) = some st) (hst:aStep node st e = o):aRun node (l.take (i + 1)) = o:=by
  rw [aRun_next h,hs]; exact hst
theorem foldl_none:∀ (l:List GEvent),l.foldl (fun o e => o.bind (fun s => aStep node s e)) none = none
  | [] => rfl
  | _::l => foldl_none l
theorem aRun_none (h:aRun node (l.take k) = none):aRun node l = none:=by
  unfold aRun at h ⊢
  have e:l = l.take k ++ l.drop k:=(List.take_append_drop _ _).symm
  rw [e,List.foldl_append,h]
  exact foldl_none _
theorem alone_no1 (h:aRun node (l.take k) = none):aloneT node l = false:=by unfold aloneT; rw [aRun_none h]; rfl
theorem alone_no2 {j:Nat} (h:(viewsT l)[j]? = some w) (hb:beginsT (itemsT l node 4 w.ID) (itemsT l node 3 w.ID) = false):aloneT node l = false:=by
  unfold aloneT
  rw [Bool.and_eq_false_iff]
  exact .inr (List.all_eq_false.2 ⟨w,List.mem_of_getElem? h,by rw [hb]; decide⟩)
theorem alone_yes (h:aRun node (l.take k) = some st) (hk:l.length ≤ k) (hb:∀ j w,j < (viewsT l).length → (viewsT l)[j]? = some w → beginsT (itemsT l node 4 w.ID) (itemsT l node 3 w.ID) = true):aloneT node l = true:=by
  rw [List.take_of_length_le hk] at h
  unfold aloneT
  rw [h,Option.isSome_some,Bool.true_and]
  refine List.all_eq_true.2 fun w hw => ?_
  obtain ⟨j,hj,rfl⟩:=List.getElem_of_mem hw
  exact hb j _ hj (List.getElem?_eq_getElem hj)
theorem all_next {p:Nat → GView → Prop} (hb:∀ j w,j < k → vs[j]? = some w → p j w) (h:vs[k]? = some w) (hp:p k w):∀ j w,j < k + 1 → vs[j]? = some w → p j w:=fun j u hj hu => by
  rcases Nat.lt_succ_iff_lt_or_eq.1 hj with h1 | rfl
  · exact hb j u h1 hu
  · rw [h] at hu; cases hu; exact hp
end
end Go.FM

set_option linter.unusedVariables false
set_option linter.unusedSimpArgs false
namespace Go.FM
open Go
def seeE (e0 e1:List GEvent) (i j:Nat) (v:GView):Bool :=
  let recv:=itemsT e0 i 3 v.ID
  let safe:=(itemsT e0 i 4 v.ID).length
  let other:=itemsT e1 j 3 v.ID
  let mine:=fromT recv j
  match hasT e1 v.ID with
  | none => !(decide (0 < mine.length) || (decide (0 < safe) && has v.Set j))
  | some w => !(decide (w ≠ v) || (!beginsT recv other && !beginsT other recv) || !beginsT mine (itemsT e1 j 2 v.ID)) && !(decide (other.length < safe) && has v.Set j)
      && !(decide (0 < (nextT e0 v.ID).N) && decide (nextT e0 v.ID = nextT e1 v.ID) && decide (recv.length ≠ other.length))
section
variable {tr:List (List GEvent)} {e0 e1:List GEvent} {i j k:Nat} {v w:GView} {x:GItem}
theorem getD_at {α:Type} {l:List α} {d e:α} (h:l[i]? = some e):l.getD i d = e:=by rw [List.getD_eq_getElem?_getD,h]; rfl
theorem seeT_is (h0:tr[i]? = some e0) (h1:tr[j]? = some e1):seeT tr i v j = seeE e0 e1 i j v:=by
  unfold seeT seeE; rw [getD_at h0,getD_at h1] <;> (cases hasT e1 v.ID <;> rfl)
theorem has_some (hs:(hasT e1 v.ID).isSome = true):hasT e1 v.ID = some ((hasT e1 v.ID).getD view0):=by
  cases h:hasT e1 v.ID with
  | none => rw [h] at hs; cases hs
  | some w => rfl
theorem has_none (hs:(hasT e1 v.ID).isSome = false):hasT e1 v.ID = none:=by
  cases h:hasT e1 v.ID with
  | none => rfl
  | some w => rw [h] at hs; cases hs
theorem see_none_bad (hs:(hasT e1 v.ID).isSome = false) (h:0 < (fromT (itemsT e0 i 3 v.ID) j).length ∨ (0 < (itemsT e0 i 4 v.ID).length∧has v.Set j = true)):seeE e0 e1 i j v = false:=by
  unfold seeE
  rw [has_none hs]
  rcases h with h | ⟨h1,h2⟩
  · simp only [decide_eq_true h]; rfl
  · simp only [decide_eq_true h1,h2]; simp
theorem see_none_ok (hs:(hasT e1 v.ID).isSome = false) (h:¬ (0 < (fromT (itemsT e0 i 3 v.ID) j).length ∨ (0 < (itemsT e0 i 4 v.ID).length∧has v.Set j = true))):seeE e0 e1 i j v = true:=by
  unfold seeE
  rw [has_none hs]
  have h1:¬ 0 < (fromT (itemsT e0 i 3 v.ID) j).length:=fun k => h (.inl k)
  simp only [decide_eq_false h1]
  by_cases h2:0 < (itemsT e0 i 4 v.ID).length
  · have h3:has v.Set j = false:=by
      cases h4:has v.Set j with
      | false => rfl
      | true => exact absurd (.inr ⟨h2,h4⟩) h
    simp [h3]
  · simp [h2]
theorem see_bad1 (hs:(hasT e1 v.ID).isSome = true) (h:¬ (hasT e1 v.ID).getD view0 = v):seeE e0 e1 i j v = false:=by
  unfold seeE; rw [has_some hs]; simp [h]
theorem see_bad2 (hs:(hasT e1 v.ID).isSome = true) (h1:beginsT (itemsT e0 i 3 v.ID) (itemsT e1 j 3 v.ID) = false) (h2:beginsT (itemsT e1 j 3 v.ID) (itemsT e0 i 3 v.ID) = false):seeE e0 e1 i j v = false:=by
  unfold seeE; rw [has_some hs]; simp [h1,h2]
theorem see_bad3 (hs:(hasT e1 v.ID).isSome = true) (h:beginsT (fromT (itemsT e0 i 3 v.ID) j) (itemsT e1 j 2 v.ID) = false):seeE e0 e1 i j v = false:=by
  unfold seeE; rw [has_some hs]; simp [h]
theorem see_bad4 (hs:(hasT e1 v.ID).isSome = true) (h:(itemsT e1 j 3 v.ID).length < (itemsT e0 i 4 v.ID).length) (h2:has v.Set j = true):seeE e0 e1 i j v = false:=by
  unfold seeE; rw [has_some hs]; simp only [decide_eq_true h,h2]; simp
theorem see_bad5 (hs:(hasT e1 v.ID).isSome = true) (h:0 < (nextT e0 v.ID).N) (h2:nextT e0 v.ID = nextT e1 v.ID) (h3:(itemsT e0 i 3 v.ID).length ≠ (itemsT e1 j 3 v.ID).length):seeE e0 e1 i j v = false:=by
  unfold seeE; rw [has_some hs]; simp only [decide_eq_true h,decide_eq_true h2,decide_eq_true h3]; simp
theorem see_ok (hs:(hasT e1 v.ID).isSome = true) (h1:(hasT e1 v.ID).getD view0 = v) (h2:beginsT (itemsT e0 i 3 v.ID) (itemsT e1 j 3 v.ID) = true ∨ beginsT (itemsT e1 j 3 v.ID) (itemsT e0 i 3 v.ID) = true)
    (h3:beginsT (fromT (itemsT e0 i 3 v.ID) j) (itemsT e1 j 2 v.ID) = true) (h4:¬ ((itemsT e1 j 3 v.ID).length < (itemsT e0 i 4 v.ID).length∧has v.Set j = true))
    (h5:¬ (0 < (nextT e0 v.ID).N∧nextT e0 v.ID = nextT e1 v.ID∧(itemsT e0 i 3 v.ID).length ≠ (itemsT e1 j 3 v.ID).length)):seeE e0 e1 i j v = true:=by
  unfold seeE
  rw [has_some hs,h1]
  have a2:(!beginsT (itemsT e0 i 3 v.ID) (itemsT e1 j 3 v.ID) && !beginsT (itemsT e1 j 3 v.ID) (itemsT e0 i 3 v.ID)) = false:=by
    rcases h2 with h | h <;> rw [h] <;> simp
  have a4:(decide ((itemsT e1 j 3 v.ID).length < (itemsT e0 i 4 v.ID).length) && has v.Set j) = false:=by
    rw [Bool.and_eq_false_iff]
    by_cases k:(itemsT e1 j 3 v.ID).length < (itemsT e0 i 4 v.ID).length
    · right; exact Bool.eq_false_iff.2 fun k2 => h4 ⟨k,k2⟩
    · left; exact decide_eq_false k
  have a5:(decide (0 < (nextT e0 v.ID).N) && decide (nextT e0 v.ID = nextT e1 v.ID) && decide ((itemsT e0 i 3 v.ID).length ≠ (itemsT e1 j 3 v.ID).length)) = false:=by
    cases h:(decide (0 < (nextT e0 v.ID).N) && decide (nextT e0 v.ID = nextT e1 v.ID) && decide ((itemsT e0 i 3 v.ID).length ≠ (itemsT e1 j 3 v.ID).length)) with
    | false => rfl
    | true =>
      simp only [Bool.and_eq_true,decide_eq_true_eq] at h
      exact absurd ⟨h.1.1,h.1.2,h.2⟩ h5
  simp only [h3,a2,a4,a5]
  simp
theorem late_is (h0:tr[i]? = some e0):lateT tr i v j = !(decide (0 < (itemsT e0 i 4 v.ID).length) && has v.Set j):=by
  unfold lateT; rw [getD_at h0]
theorem late_ok (h0:tr[i]? = some e0) (h:¬ (0 < (itemsT e0 i 4 v.ID).length∧has v.Set j = true)):lateT tr i v j = true:=by
  rw [late_is h0]
  cases k:(decide (0 < (itemsT e0 i 4 v.ID).length) && has v.Set j) with
  | false => rfl
  | true => simp only [Bool.and_eq_true,decide_eq_true_eq] at k; exact absurd k h
theorem inview_no1 (h0:tr[i]? = some e0) (hx:(itemsT e0 i 3 v.ID)[k]? = some x) (hb:¬ (0 ≤ x.From∧x.From < (tr.length:Int))):inviewT tr i v = false:=by
  unfold inviewT
  rw [getD_at h0,Bool.and_eq_false_iff,Bool.and_eq_false_iff]
  exact .inl (.inl (List.all_eq_false.2 ⟨x,List.mem_of_getElem? hx,by rw [decide_eq_false hb]; decide⟩))
theorem inview_no2 (hj:j < tr.length) (h:seeT tr i v j = false):inviewT tr i v = false:=by
  unfold inviewT
  rw [Bool.and_eq_false_iff,Bool.and_eq_false_iff]
  exact .inl (.inr (List.all_eq_false.2 ⟨j,List.mem_range.2 hj,by rw [h]; decide⟩))
theorem inview_no3 (h0:tr[i]? = some e0) (hj:tr.length ≤ j) (hj2:j < 16) (h1:0 < (itemsT e0 i 4 v.ID).length) (h2:has v.Set j = true):inviewT tr i v = false:=by
  unfold inviewT
  rw [Bool.and_eq_false_iff]
  refine .inr (List.all_eq_false.2 ⟨j,List.mem_range.2 hj2,?_⟩)
  rw [decide_eq_false (by omega),late_is h0,decide_eq_true h1,h2]; decide
theorem inview_yes (h0:tr[i]? = some e0) (hfr:∀ k x,k < (itemsT e0 i 3 v.ID).length → (itemsT e0 i 3 v.ID)[k]? = some x → 0 ≤ x.From∧x.From < (tr.length:Int)) (hse:∀ j,j < tr.length → seeT tr i v j = true) (hla:∀ j,tr.length ≤ j → j < 16 → lateT tr i v j = true):inviewT tr i v = true:=by
  unfold inviewT
  rw [getD_at h0,Bool.and_eq_true,Bool.and_eq_true]
  refine ⟨⟨List.all_eq_true.2 fun x hx => ?_,List.all_eq_true.2 fun j hj => hse j (List.mem_range.1 hj)⟩,List.all_eq_true.2 fun j hj => ?_⟩
  · obtain ⟨k,hk,rfl⟩:=List.getElem_of_mem hx
    exact decide_eq_true (hfr k _ hk (List.getElem?_eq_getElem hk))
  · by_cases hjl:j < tr.length
    · rw [decide_eq_true hjl]; rfl
    · rw [hla j (by omega) (List.mem_range.1 hj)]; simp
theorem from_next {p:Nat → GItem → Prop} {l:List GItem} (hb:∀ j x,j < k → l[j]? = some x → p j x) (h:l[k]? = some x) (hp:p k x):∀ j x,j < k + 1 → l[j]? = some x → p j x:=fun j u hj hu => by
  rcases Nat.lt_succ_iff_lt_or_eq.1 hj with h1 | rfl
  · exact hb j u h1 hu
  · rw [h] at hu; cases hu; exact hp
theorem see_next {p:Nat → Prop} (hb:∀ j,j < k → p j) (h:p k):∀ j,j < k + 1 → p j:=fun j hj => by
  rcases Nat.lt_succ_iff_lt_or_eq.1 hj with h1 | rfl
  · exact hb j h1
  · exact h
theorem late_next {p:Nat → Prop} {n:Nat} (hb:∀ j,n ≤ j → j < k → p j) (h:p k):∀ j,n ≤ j → j < k + 1 → p j:=fun j hn hj => by
  rcases Nat.lt_succ_iff_lt_or_eq.1 hj with h1 | rfl
  · exact hb j hn h1
  · exact h
theorem tr_next {p:Nat → List GEvent → Prop} (hb:∀ (j:Nat) (e:List GEvent),j < k → tr[j]? = some e → p j e) (h:tr[k]? = some e0) (hp:p k e0):∀ (j:Nat) (e:List GEvent),j < k + 1 → tr[j]? = some e → p j e:=fun j u hj hu => by
  rcases Nat.lt_succ_iff_lt_or_eq.1 hj with h1 | rfl
  · exact hb j u h1 hu
  · rw [h] at hu; cases hu; exact hp
theorem refV_no1 (h:tr[i]? = some e0) (ha:aloneT i e0 = false):refV tr = false:=by
  unfold refV
  rw [Bool.and_eq_false_iff]
  exact .inl (List.all_eq_false.2 ⟨i,List.mem_range.2 (List.getElem?_eq_some_iff.1 h).1,by rw [getD_at h,ha]; decide⟩)
theorem refV_no2 (h:tr[i]? = some e0) (hv:(viewsT e0)[k]? = some v) (ha:inviewT tr i v = false):refV tr = false:=by
  unfold refV
  rw [Bool.and_eq_false_iff]
  refine .inr (List.all_eq_false.2 ⟨i,List.mem_range.2 (List.getElem?_eq_some_iff.1 h).1,?_⟩)
  rw [getD_at h]
  exact fun k => by
    have:=List.all_eq_true.1 k v (List.mem_of_getElem? hv)
    rw [ha] at this; cases this
theorem refV_yes (h1:∀ (i:Nat) (e:List GEvent),i < tr.length → tr[i]? = some e → aloneT i e = true) (h2:∀ (i:Nat) (e:List GEvent),i < tr.length → tr[i]? = some e → ∀ (k:Nat) (v:GView),(viewsT e)[k]? = some v → inviewT tr i v = true):refV tr = true:=by
  unfold refV
  rw [Bool.and_eq_true]
  constructor
  · refine List.all_eq_true.2 fun i hi => ?_
    have hi:=List.mem_range.1 hi
    rw [getD_at (List.getElem?_eq_getElem hi)]
    exact h1 i _ hi (List.getElem?_eq_getElem hi)
  · refine List.all_eq_true.2 fun i hi => ?_
    have hi:=List.mem_range.1 hi
    rw [getD_at (List.getElem?_eq_getElem hi)]
    refine List.all_eq_true.2 fun v hv => ?_
    obtain ⟨k,hk,rfl⟩:=List.getElem_of_mem hv
    exact h2 i _ hi (List.getElem?_eq_getElem hi) k _ (List.getElem?_eq_getElem hk)
end
end Go.FM

set_option linter.unusedVariables false
set_option linter.unusedSimpArgs false
namespace Go.FM
open Go
structure GLife where
  node:Int
  view:GView
  sent:(List GItem)
  recv:(List GItem)
  safe:Int
  next:GViewID
def kLife:Kd GLife where
  sz:=9
  pos:=by decide
  rep H x cs:=∃ (A1:Option Addr) (n2 c3:Nat),∃ (A4:Option Addr) (n5 c6:Nat),cs = [.int .i64 x.node,.int .u64 (x.view.ID.N:Int),.int .i64 x.view.ID.P,.int .u16 (x.view.Set:Int),.slice A1 n2 c3,.slice A4 n5 c6,.int .i64 x.safe,.int .u64 (x.next.N:Int),.int .i64 x.next.P]∧IB (x.node)∧x.view.ID.N < 18446744073709551616∧IB (x.view.ID.P)∧x.view.Set < 65536∧Sl kItem H A1 n2 c3 x.sent∧Sl kItem H A4 n5 c6 x.recv∧IB (x.safe)∧x.next.N < 18446744073709551616∧IB (x.next.P)
  len h:=by obtain ⟨A1,n2,c3,A4,n5,c6,rfl,_⟩:=h; rfl
  one h:=by obtain ⟨A1,n2,c3,A4,n5,c6,rfl,_⟩:=h; simp [Value.oneCell']
  mono hl h:=by obtain ⟨A1,n2,c3,A4,n5,c6,rfl,h0,h1,h2,h3,h4,h5,h6,h7,h8⟩:=h; exact ⟨A1,n2,c3,A4,n5,c6,rfl,h0,h1,h2,h3,h4.mono hl,h5.mono hl,h6,h7,h8⟩
  bts:=104
  bts0:=by decide
instance:DecidableEq GLife:=fun a b => decidable_of_iff (a.node = b.node∧a.view = b.view∧a.sent = b.sent∧a.recv = b.recv∧a.safe = b.safe∧a.next = b.next) ⟨fun h => by cases a; cases b; simp_all,fun h => by rw [h]; simp⟩
instance:Inhabited GLife:=⟨(GLife.mk 0 (GView.mk (GViewID.mk 0 0) 0) [] [] 0 (GViewID.mk 0 0))⟩
end Go.FM

set_option linter.unusedVariables false
set_option linter.unusedSimpArgs false
namespace Go.FM
open Go
def pairL (a b:GLife):Bool :=
  decide (a.view.Set = b.view.Set) && decide (a.recv.take (min a.recv.length b.recv.length) = b.recv.take (min a.recv.length b.recv.length))
    && (decide (a.next.N = 0) || decide (a.next ≠ b.next) || decide (a.recv.length = b.recv.length))
section
variable {a b:GLife} {n:Nat}
theorem pair_set (h:¬ a.view.Set = b.view.Set):pairL a b = false:=by unfold pairL; rw [decide_eq_false h]; rfl
theorem pair_recv (hn:n = min a.recv.length b.recv.length) (h:¬ a.recv.take n = b.recv.take n):pairL a b = false:=by
  subst hn; unfold pairL; rw [decide_eq_false h,Bool.and_false]; rfl
theorem pair_no (hn:n = min a.recv.length b.recv.length) (h:¬ ((a.view.Set:Nat):Int) = ((b.view.Set:Nat):Int) ∨ ¬ a.recv.take n = b.recv.take n):pairL a b = false:=by
  rcases h with h | h
  · exact pair_set (by omega)
  · exact pair_recv hn h
theorem pair_end {c:Bool} (h:a.view.Set = b.view.Set) (hn:n = min a.recv.length b.recv.length) (h2:a.recv.take n = b.recv.take n) (h3:(decide (a.next.N = 0) || decide (a.next ≠ b.next) || decide (a.recv.length = b.recv.length)) = c):pairL a b = c:=by
  subst hn; unfold pairL; rw [decide_eq_true h,decide_eq_true h2,h3]; rfl
end
end Go.FM

set_option linter.unusedVariables false
set_option linter.unusedSimpArgs false
namespace Go.FM
section
variable {α β:Type} {f:α → β → Int} {x:List α} {t:β}
end
end Go.FM
namespace Go.FM
end Go.FM

set_option linter.unusedVariables false
set_option linter.unusedSimpArgs false
namespace Go.FM
def SortedV (a:List GState):Prop:=a.Pairwise (fun x y => vcmp x.V y.V < 0)
theorem vcmp_irr (a:GViewID):¬ vcmp a a < 0:=by
  have:=(vcmp_zero a a).2 rfl; omega
theorem SortedV.same {a:List GState} (h:SortedV a):∀ {x y:GState},x ∈ a → y ∈ a → x.V = y.V → x = y:=by
  induction a with
  | nil => intro x y hx; cases hx
  | cons z a ih =>
    intro x y hx hy e
    have hp:=List.pairwise_cons.1 h
    rcases List.mem_cons.1 hx with h1 | h1 <;> rcases List.mem_cons.1 hy with h2 | h2
    · rw [h1,h2]
    · have:=hp.1 y h2; rw [← h1,e] at this; exact absurd this (vcmp_irr _)
    · have:=hp.1 x h1; rw [← h2,e] at this; exact absurd this (vcmp_irr _)
    · exact ih hp.2 h1 h2 e
end Go.FM
namespace Go.FM
theorem joinS_sub {l:List GState} {x:GState} (h:x ∈ joinS l):x ∈ l:=(joinTo_mem l _ x h).1
theorem idxP_any {α:Type} (p:α → Bool) (l:List α):decide (0 ≤ idxP p l) = l.any p:=by
  rcases idxP_find p l with ⟨h1,h2⟩ | ⟨i,x,h1,h2,h3⟩
  · have:l.any p = false:=by
      rw [List.any_eq_false]
      rw [List.find?_eq_none] at h2
      exact h2
    rw [this,h1]; rfl
  · have:l.any p = true:=List.any_eq_true.2 ⟨x,List.mem_of_getElem? h2,by have:=List.find?_some h3; exact this⟩
    rw [this,h1]; simp
end Go.FM

set_option linter.unusedVariables false
set_option linter.unusedSimpArgs false
namespace Go.FM
open Go
def aCells (l:List Int):List Value:=l.map (fun x => Value.int .i64 x)
def cnts (s:List GItem):List Int:=(List.range 16).map (fun (k:Nat) => ((cntI s (k:Int):Nat):Int))
def findL (all:List GLife) (k:Int) (v:GViewID):Option GLife:=all.find? (fun b => decide (b.node = k) && decide (b.view.ID = v))
def gotAt (all:List GLife) (a:GLife) (j:Nat):Bool:=match a.recv[j]? with
  | none => true
  | some x => match findL all x.From a.view.ID with
    | none => false
    | some b => decide (b.sent[cntI (a.recv.take j) x.From]? = some x)
def safeAt (all:List GLife) (a:GLife) (k:Int):Bool:=all.any (fun b => decide (b.node = k) && decide (b.view.ID = a.view.ID) && decide (a.safe ≤ (b.recv.length:Int)))
def wholeL (a:GLife) (all:List GLife):Bool:=(List.range a.recv.length).all (gotAt all a) && (lst a.view.Set).all (fun k => !(decide (0 < a.safe) && !safeAt all a (k:Int)))
section
variable {all:List GLife} {a b:GLife} {s:List GItem} {x:GItem} {i j k:Nat} {ats:List Int} {v:GViewID}
theorem cnts_get (h:ats = cnts s) (hk:k < 16):(aCells ats)[k]? = some (.int .i64 ((cntI s (k:Int):Nat):Int)):=by
  subst h
  unfold aCells cnts
  rw [List.getElem?_map,List.getElem?_map,List.getElem?_range hk]; rfl
theorem cnts_len (h:ats = cnts s):ats.length = 16:=by subst h; unfold cnts; simp
theorem cnts_zero:List.replicate 16 (0:Int) = cnts []:=by decide
theorem acells_len:(aCells ats).length = ats.length:=by unfold aCells; rw [List.length_map]
theorem acells_set {z:Int} (hk:k < ats.length):splice (aCells ats) k [.int .i64 z] = aCells (ats.set k z):=by
  unfold splice aCells
  apply List.ext_getElem?
  intro j
  rw [List.getElem?_map,List.getElem?_set]
  rcases Nat.lt_trichotomy j k with h | h | h
  · rw [if_neg (by omega),List.append_assoc,List.getElem?_append_left (by simp; omega),List.getElem?_take,if_pos h,List.getElem?_map]
  · subst h
    rw [if_pos rfl,if_pos hk,List.append_assoc,List.getElem?_append_right (by simp; omega)]
    simp [Nat.min_eq_left (Nat.le_of_lt hk)]
  · rw [if_neg (by omega),List.append_assoc,List.getElem?_append_right (by simp; omega)]
    simp only [List.length_take,List.length_map,Nat.min_eq_left (Nat.le_of_lt hk)]
    rw [List.getElem?_append_right (by simp; omega),List.getElem?_drop,List.getElem?_map]
    simp only [List.length_singleton]
    rw [show k + 1 + (j - k - 1) = j by omega]
theorem cnts_next (h:ats = cnts (s.take j)) (hx:s[j]? = some x) (hf:x.From = ((k:Nat):Int)) (hk:k < 16):ats.set k (((cntI (s.take j) (k:Int) + 1:Nat):Nat):Int) = cnts (s.take (j + 1)):=by
  subst h
  have hc:∀ m:Nat,cntI (s.take (j + 1)) (m:Int) = cntI (s.take j) (m:Int) + (if m = k then 1 else 0):=fun m => by
    unfold cntI
    rw [take_next hx,List.countP_append]
    congr 1
    by_cases h:m = k
    · subst h; simp [hf]
    · rw [if_neg h]; simp [hf]; omega
  unfold cnts
  apply List.ext_getElem?
  intro m
  rw [List.getElem?_set,List.getElem?_map,List.getElem?_map]
  by_cases hm:m < 16
  · rw [List.getElem?_range hm]
    by_cases h:k = m
    · subst h; rw [if_pos rfl,if_pos (by simpa using hk)]
      simp [hc]
    · rw [if_neg h]
      simp [hc,show ¬ m = k from fun e => h e.symm]
  · rw [List.getElem?_eq_none (by simpa using hm),if_neg (by omega)]; rfl
theorem idx_none {α:Type} {p:α → Bool} {l:List α} (h:idxP p l < 0):l.find? p = none:=by
  rw [List.find?_eq_none]
  intro y hy hp
  have h1:=idxP_any p l
  rw [decide_eq_false (by omega)] at h1
  have h2:l.any p = true:=List.any_eq_true.2 ⟨y,hy,hp⟩
  rw [← h1] at h2; cases h2
theorem idx_find {α:Type} {p:α → Bool} {l:List α} {s:α} (hi:¬ idxP p l < 0) (hx:l[(idxP p l).toNat]? = some s):l.find? p = some s∧p s = true:=by
  rcases idxP_find p l with ⟨h1,_⟩ | ⟨i,x,h1,h2,h3⟩
  · omega
  · rw [h1] at hx
    have e:x = s:=by rw [show ((i:Nat):Int).toNat = i from rfl,h2] at hx; exact Option.some.inj hx
    subst e
    exact ⟨h3,List.find?_some h3⟩
theorem nth_next {α:Type} {l:List α} {p:α → Prop} {q:Nat} {z:α} (hb:∀ (j:Nat) (y:α),j < q → l[j]? = some y → p y) (h:l[q]? = some z) (hp:p z):∀ (j:Nat) (y:α),j < q + 1 → l[j]? = some y → p y:=fun j u hj hu => by
  rcases Nat.lt_succ_iff_lt_or_eq.1 hj with h1 | rfl
  · exact hb j u h1 hu
  · rw [h] at hu; cases hu; exact hp
theorem cnt_le {z:Int}:cntI (s.take j) z ≤ j:=Nat.le_trans List.countP_le_length (by rw [List.length_take]; omega)
theorem got_bad1 (hx:a.recv[j]? = some x) (h:findL all x.From a.view.ID = none):gotAt all a j = false:=by unfold gotAt; rw [hx]; simp only [h]
theorem got_bad2 (hx:a.recv[j]? = some x) (h:findL all x.From a.view.ID = some b) (hb:¬ b.sent[cntI (a.recv.take j) x.From]? = some x):gotAt all a j = false:=by unfold gotAt; rw [hx]; simp only [h]; exact decide_eq_false hb
theorem got_ok (hx:a.recv[j]? = some x) (h:findL all x.From a.view.ID = some b) (hb:b.sent[cntI (a.recv.take j) x.From]? = some x):gotAt all a j = true:=by unfold gotAt; rw [hx]; simp only [h]; exact decide_eq_true hb
theorem whole_no1 (hj:j < a.recv.length) (h:gotAt all a j = false):wholeL a all = false:=by
  unfold wholeL
  rw [Bool.and_eq_false_iff]
  exact .inl (List.all_eq_false.2 ⟨j,List.mem_range.2 hj,by rw [h]; decide⟩)
theorem whole_no2 {q:Nat} (hk:(lst a.view.Set)[q]? = some k) (h1:0 < a.safe) (h2:safeAt all a (k:Int) = false):wholeL a all = false:=by
  unfold wholeL
  rw [Bool.and_eq_false_iff]
  exact .inr (List.all_eq_false.2 ⟨k,List.mem_of_getElem? hk,by rw [decide_eq_true h1,h2]; decide⟩)
theorem whole_yes (h1:∀ j,j < a.recv.length → gotAt all a j = true) (h2:∀ (q k:Nat),q < (lst a.view.Set).length → (lst a.view.Set)[q]? = some k → (decide (0 < a.safe) && !safeAt all a (k:Int)) = false):wholeL a all = true:=by
  unfold wholeL
  rw [Bool.and_eq_true]
  refine ⟨List.all_eq_true.2 fun j hj => h1 j (List.mem_range.1 hj),List.all_eq_true.2 fun k hk => ?_⟩
  obtain ⟨q,hq,rfl⟩:=List.getElem_of_mem hk
  rw [h2 q _ hq (List.getElem?_eq_getElem hq)]; rfl
end
end Go.FM

set_option linter.unusedVariables false
set_option linter.unusedSimpArgs false
namespace Go.FM
open Go
structure LR where
  node:Int
  view:GView
  vs:Value
  vr:Value
  safe:Int
  next:GViewID
def kLR:Kd LR where
  sz:=9
  pos:=by decide
  rep H x cs:=cs = [.int .i64 x.node,.int .u64 ((x.view.ID.N:Nat):Int),.int .i64 x.view.ID.P,.int .u16 ((x.view.Set:Nat):Int),x.vs,x.vr,.int .i64 x.safe,.int .u64 ((x.next.N:Nat):Int),.int .i64 x.next.P]
   ∧IB x.node∧x.view.ID.N < 18446744073709551616∧IB x.view.ID.P∧x.view.Set < 65536∧x.vs.oneCell' = true∧x.vr.oneCell' = true∧IB x.safe∧x.next.N < 18446744073709551616∧IB x.next.P
  len h:=by obtain ⟨rfl,_⟩:=h; rfl
  one h:=by obtain ⟨rfl,_,_,_,_,h1,h2,_⟩:=h; simp [h1,h2]; simp [Value.oneCell']
  mono hl h:=h
  bts:=104
  bts0:=by decide
structure LV where
  ini:List GLife
  opn:Option GLife
def lvNew (node:Int) (v:GView):GLife:=⟨node,v,[],[],0,vid0⟩
def lvStep (node:Int) (s:LV) (e:GEvent):Option LV :=
  if e.Kind = 1 then
    (if has e.View.Set node = false ∨ e.View.ID.N = 0 then none else match s.opn with
      | none => some ⟨s.ini,some (lvNew node e.View)⟩
      | some f => if 0 < cmpV e.View.ID.N e.View.ID.P f.view.ID.N f.view.ID.P then some ⟨s.ini ++ [⟨f.node,f.view,f.sent,f.recv,f.safe,e.View.ID⟩],some (lvNew node e.View)⟩ else none)
  else match s.opn with
    | none => none
    | some f => if e.View ≠ f.view then none
      else if e.Kind = 2 then some ⟨s.ini,some ⟨f.node,f.view,f.sent ++ [⟨node,e.M⟩],f.recv,f.safe,f.next⟩⟩
      else if e.Kind = 3 then some ⟨s.ini,some ⟨f.node,f.view,f.sent,f.recv ++ [⟨e.From,e.M⟩],f.safe,f.next⟩⟩
      else if e.Kind = 4 then (if f.recv[f.safe.toNat]? = some ⟨e.From,e.M⟩ then some ⟨s.ini,some ⟨f.node,f.view,f.sent,f.recv,f.safe + 1,f.next⟩⟩ else none)
      else none
def lvRun (node:Int) (l:List GEvent):Option LV:=l.foldl (fun o e => o.bind (fun s => lvStep node s e)) (some ⟨[],none⟩)
def LV.out (s:LV):List GLife:=s.ini ++ s.opn.toList
def livesT (node:Int) (l:List GEvent):List GLife × Bool:=match lvRun node l with
  | none => ([],false)
  | some s => (s.out,true)
def LOk (H:Hp) (r:LR) (f:GLife):Prop:=∃ A n c A' n' c',r.vs = .slice A n c∧r.vr = .slice A' n' c'∧Sl kItem H A n c f.sent∧Sl kItem H A' n' c' f.recv∧r.node = f.node∧r.view = f.view∧r.safe = f.safe∧r.next = f.next
def LsOk (H:Hp) (rs:List LR) (fs:List GLife):Prop:=rs.length = fs.length∧∀ (i:Nat) (r:LR) (f:GLife),rs[i]? = some r → fs[i]? = some f → LOk H r f
def LRel (H:Hp) (out:List LR) (ini:List GLife) (opn:Option GLife) (vS vR:Value):Prop:=match opn with
  | none => out = []∧ini = []∧vS = .slice none 0 0∧vR = .slice none 0 0
  | some f => ∃ rs r,out = rs ++ [r]∧LsOk H rs ini∧r.vs = vS∧r.vr = vR∧r.node = f.node∧r.view = f.view∧r.safe = f.safe∧r.next = f.next∧0 ≤ f.safe∧f.safe ≤ f.recv.length
def sentO (o:Option GLife):List GItem:=match o with | none => [] | some f => f.sent
def recvO (o:Option GLife):List GItem:=match o with | none => [] | some f => f.recv
section
variable {H H':Hp} {out:List LR} {ini:List GLife} {opn:Option GLife} {vS vR v':Value} {e:LR} {f:GLife} {k i n:Nat} {node:Int} {ev:GEvent} {l:List GEvent} {s:LV} {A A':Option Addr} {c n' c':Nat} {S R:List GItem} {w:GViewID}
theorem LOk.mono {r:LR} (h:LOk H r f) (hl:H.le H'):LOk H' r f:=by
  obtain ⟨A,n,c,A',n',c',h1,h2,h3,h4,h5⟩:=h
  exact ⟨A,n,c,A',n',c',h1,h2,h3.mono hl,h4.mono hl,h5⟩
theorem LsOk.mono {rs:List LR} {fs:List GLife} (h:LsOk H rs fs) (hl:H.le H'):LsOk H' rs fs:=⟨h.1,fun i r f h1 h2 => (h.2 i r f h1 h2).mono hl⟩
theorem LRel.mono (h:LRel H out ini opn vS vR) (hl:H.le H'):LRel H' out ini opn vS vR:=by
  cases opn with
  | none => exact h
  | some f => obtain ⟨rs,r,h1,h2,h3⟩:=h; exact ⟨rs,r,h1,h2.mono hl,h3⟩
theorem LsOk.nil:LsOk H [] []:=⟨rfl,fun i r f h => by simp at h⟩
theorem LsOk.snoc {rs:List LR} {fs:List GLife} {r:LR} (h:LsOk H rs fs) (h1:LOk H r f):LsOk H (rs ++ [r]) (fs ++ [f]):=by
  refine ⟨by rw [List.length_append,List.length_append,h.1]; rfl,fun i x y hx hy => ?_⟩
  rcases Nat.lt_trichotomy i rs.length with h2 | h2 | h2
  · rw [List.getElem?_append_left h2] at hx
    rw [List.getElem?_append_left (by rw [← h.1]; exact h2)] at hy
    exact h.2 i x y hx hy
  · subst h2
    rw [List.getElem?_append_right (Nat.le_refl _),Nat.sub_self] at hx
    rw [h.1,List.getElem?_append_right (Nat.le_refl _),Nat.sub_self] at hy
    cases hx; cases hy; exact h1
  · rw [List.getElem?_eq_none (by simp; omega)] at hx; cases hx
theorem LRel.start:LRel H [] [] none (.slice none 0 0) (.slice none 0 0):=⟨rfl,rfl,rfl,rfl⟩
theorem rel_empty (h:LRel H out ini opn vS vR) (he:out.length = 0):opn = none:=by
  cases opn with
  | none => rfl
  | some f => obtain ⟨rs,r,h1,_⟩:=h; rw [h1] at he; simp at he
theorem rel_last (h:LRel H out ini opn vS vR) (hx:out[k]? = some e) (hk:k + 1 = out.length):∃ f,opn = some f∧e.vs = vS∧e.vr = vR∧e.node = f.node∧e.view = f.view∧e.safe = f.safe∧e.next = f.next∧0 ≤ f.safe∧f.safe ≤ f.recv.length:=by
  cases opn with
  | none => rw [h.1] at hx; simp at hx
  | some f =>
    obtain ⟨rs,r,h1,h2,h3⟩:=h
    have h5:k = rs.length:=by rw [h1] at hk; simp at hk; omega
    subst h5
    rw [h1,List.getElem?_append_right (Nat.le_refl _),Nat.sub_self] at hx
    cases hx
    exact ⟨f,rfl,h3⟩
theorem set_lastLR {rs:List LR} {r r':LR} (hk:k + 1 = (rs ++ [r]).length):(rs ++ [r]).set k r' = rs ++ [r']:=by
  have:k = rs.length:=by simp at hk; omega
  subst this
  rw [List.set_append_right _ _ (Nat.le_refl _),Nat.sub_self]; rfl
theorem rel_view0 (h:LRel H out ini opn vS vR) (he:out.length = 0) {v:GView}:LRel H (out ++ [⟨node,v,.slice none 0 0,.slice none 0 0,0,⟨0,0⟩⟩]) ini (some (lvNew node v)) vS vR:=by
  have ho:=rel_empty h he
  subst ho
  obtain ⟨h1,h2,h3,h4⟩:=h
  subst h1; subst h2
  exact ⟨[],_,rfl,LsOk.nil,h3.symm,h4.symm,rfl,rfl,rfl,rfl,Int.le_refl 0,by show (0:Int) ≤ ((([]:List GItem).length:Nat):Int); simp⟩
theorem rel_view1 (h:LRel H out ini opn vS vR) (ho:opn = some f) (hx:out[k]? = some e) (hk:k + 1 = out.length) (hl:H.le H') (h1:Sl kItem H' A n c f.sent) (h2:Sl kItem H' A' n' c' f.recv) (h3:vS = .slice A n c) (h4:vR = .slice A' n' c') {v:GView} :
    LRel H' (out.set k ⟨e.node,e.view,e.vs,e.vr,e.safe,w⟩ ++ [⟨node,v,.slice none 0 0,.slice none 0 0,0,⟨0,0⟩⟩]) (ini ++ [⟨f.node,f.view,f.sent,f.recv,f.safe,w⟩]) (some (lvNew node v)) (.slice none 0 0) (.slice none 0 0):=by
  subst ho
  obtain ⟨f',hf',q1,q2,q3,q4,q5,q6,_⟩:=rel_last h hx hk
  cases hf'
  obtain ⟨rs,r,e1,e2,_⟩:=h
  rw [e1] at hk ⊢
  rw [set_lastLR hk]
  refine ⟨_,_,rfl,(e2.mono hl).snoc ⟨A,n,c,A',n',c',q1.trans h3,q2.trans h4,h1,h2,q3,q4,q5,rfl⟩,rfl,rfl,rfl,rfl,rfl,rfl,Int.le_refl 0,by show (0:Int) ≤ ((([]:List GItem).length:Nat):Int); simp⟩
theorem rel_put {g:GLife} {r':LR} (h:LRel H out ini opn vS vR) (ho:opn = some f) (hx:out[k]? = some e) (hk:k + 1 = out.length) {uS uR:Value} (h1:r'.vs = uS) (h2:r'.vr = uR) (h3:r'.node = g.node) (h4:r'.view = g.view) (h5:r'.safe = g.safe) (h6:r'.next = g.next) (h7:0 ≤ g.safe∧g.safe ≤ g.recv.length):LRel H (out.set k r') ini (some g) uS uR:=by
  subst ho
  obtain ⟨rs,r,e1,e2,_⟩:=h
  rw [e1] at hk ⊢
  rw [set_lastLR hk]
  exact ⟨rs,r',rfl,e2,h1,h2,h3,h4,h5,h6,h7.1,h7.2⟩
theorem rel_done (h:LRel H out ini opn vS vR) (hl:H.le H') (h1:Sl kItem H' A n c (sentO opn)) (h2:Sl kItem H' A' n' c' (recvO opn)) (h3:vS = .slice A n c) (h4:vR = .slice A' n' c'):LsOk H' out (ini ++ opn.toList):=by
  cases opn with
  | none => obtain ⟨e1,e2,_⟩:=h; subst e1; subst e2; exact LsOk.nil
  | some f =>
    obtain ⟨rs,r,e1,e2,q1,q2,q3,q4,q5,q6,_⟩:=h
    subst e1
    exact (e2.mono hl).snoc ⟨A,n,c,A',n',c',q1.trans h3,q2.trans h4,h1,h2,q3,q4,q5,q6⟩
theorem lvRun_next {o:Option LV} (h:l[i]? = some ev) (hs:lvRun node (l.take i) = some s) (hst:lvStep node s ev = o):lvRun node (l.take (i + 1)) = o:=by
  unfold lvRun at hs ⊢
  rw [take_next h,List.foldl_append,hs]; exact hst
theorem lvRun_none (h:lvRun node (l.take k) = none):lvRun node l = none:=by
  unfold lvRun at h ⊢
  have e:l = l.take k ++ l.drop k:=(List.take_append_drop _ _).symm
  rw [e,List.foldl_append,h]
  generalize l.drop k = r
  induction r with
  | nil => rfl
  | cons a r ih => exact ih
theorem lives_no (h:lvRun node (l.take k) = none):livesT node l = ([],false):=by unfold livesT; rw [lvRun_none h]
theorem lives_yes (h:lvRun node (l.take k) = some ⟨ini,opn⟩) (hk:l.length ≤ k):livesT node l = (ini ++ opn.toList,true):=by
  rw [List.take_of_length_le hk] at h
  unfold livesT; rw [h]; rfl
theorem lv_vbad (hk:ev.Kind = 1) (h:has ev.View.Set node = false ∨ ev.View.ID.N = 0):lvStep node s ev = none:=by unfold lvStep; rw [if_pos hk,if_pos h]
theorem lv_vlow (hk:ev.Kind = 1) (ho:s.opn = some f) (h:¬ 0 < cmpV ev.View.ID.N ev.View.ID.P f.view.ID.N f.view.ID.P):lvStep node s ev = none:=by
  unfold lvStep; rw [if_pos hk,ho]
  split
  · rfl
  · exact if_neg h
theorem lv_view0 (hk:ev.Kind = 1) (ho:s.opn = none) (h1:has ev.View.Set node = true) (h2:¬ ev.View.ID.N = 0):lvStep node s ev = some ⟨s.ini,some (lvNew node ev.View)⟩:=by
  unfold lvStep; rw [if_pos hk,if_neg (by rw [h1]; simp [h2]),ho]
theorem lv_view1 (hk:ev.Kind = 1) (ho:s.opn = some f) (h1:has ev.View.Set node = true) (h2:¬ ev.View.ID.N = 0) (h:0 < cmpV ev.View.ID.N ev.View.ID.P f.view.ID.N f.view.ID.P):lvStep node s ev = some ⟨s.ini ++ [⟨f.node,f.view,f.sent,f.recv,f.safe,ev.View.ID⟩],some (lvNew node ev.View)⟩:=by
  unfold lvStep; rw [if_pos hk,if_neg (by rw [h1]; simp [h2]),ho]
  exact if_pos h
theorem lv_none (hk:¬ ev.Kind = 1) (ho:s.opn = none):lvStep node s ev = none:=by unfold lvStep; rw [if_neg hk,ho]
theorem lv_ne (hk:¬ ev.Kind = 1) (ho:s.opn = some f) (h:¬ ev.View = f.view):lvStep node s ev = none:=by
  unfold lvStep; rw [if_neg hk,ho]; exact if_pos h
theorem lv_send (hk:ev.Kind = 2) (ho:s.opn = some f) (h:ev.View = f.view):lvStep node s ev = some ⟨s.ini,some ⟨f.node,f.view,f.sent ++ [⟨node,ev.M⟩],f.recv,f.safe,f.next⟩⟩:=by
  unfold lvStep; rw [if_neg (by omega),ho]; exact (if_neg (fun k => k h)).trans (if_pos hk)
theorem lv_recv (hk:ev.Kind = 3) (ho:s.opn = some f) (h:ev.View = f.view):lvStep node s ev = some ⟨s.ini,some ⟨f.node,f.view,f.sent,f.recv ++ [⟨ev.From,ev.M⟩],f.safe,f.next⟩⟩:=by
  unfold lvStep; rw [if_neg (by omega),ho]; exact (if_neg (fun k => k h)).trans ((if_neg (by omega)).trans (if_pos hk))
theorem lv_safe (hk:ev.Kind = 4) (ho:s.opn = some f) (h:ev.View = f.view) (h2:f.recv[f.safe.toNat]? = some ⟨ev.From,ev.M⟩):lvStep node s ev = some ⟨s.ini,some ⟨f.node,f.view,f.sent,f.recv,f.safe + 1,f.next⟩⟩:=by
  unfold lvStep; rw [if_neg (by omega),ho]; exact (if_neg (fun k => k h)).trans ((if_neg (by omega)).trans ((if_neg (by omega)).trans ((if_pos hk).trans (if_pos h2))))
theorem lv_unsafe (hk:ev.Kind = 4) (ho:s.opn = some f) (h2:¬ f.recv[f.safe.toNat]? = some ⟨ev.From,ev.M⟩):lvStep node s ev = none:=by
  unfold lvStep; rw [if_neg (by omega),ho]
  by_cases h:ev.View = f.view
  · exact (if_neg (fun k => k h)).trans ((if_neg (by omega)).trans ((if_neg (by omega)).trans ((if_pos hk).trans (if_neg h2))))
  · exact if_pos h
theorem lv_kind (h1:¬ ev.Kind = 1) (h2:¬ ev.Kind = 2) (h3:¬ ev.Kind = 3) (h4:¬ ev.Kind = 4):lvStep node s ev = none:=by
  unfold lvStep; rw [if_neg h1]
  cases s.opn with
  | none => rfl
  | some f =>
    by_cases h:ev.View = f.view
    · exact (if_neg (fun k => k h)).trans ((if_neg h2).trans ((if_neg h3).trans (if_neg h4)))
    · exact if_pos h
theorem lr_lives {xs:List LR} {fs:List GLife} (h:Sl kLR H A n c xs) (hok:LsOk H xs fs):Sl kLife H A n c fs:=by
  obtain ⟨⟨cells,hr,hlen,hrep⟩,h2,h3,h4,h5⟩:=h
  refine ⟨⟨cells,hr,?_,?_⟩,by rw [← hok.1]; exact h2,h3,h4,h5⟩
  · rw [hlen,hok.1]; rfl
  · intro i f hf
    have hi:i < xs.length:=by rw [hok.1]; exact (List.getElem?_eq_some_iff.1 hf).1
    obtain ⟨d,hc,hd⟩:=hrep i xs[i] (List.getElem?_eq_getElem hi)
    refine ⟨d,?_,hd⟩
    obtain ⟨A1,n1,c1,A2,n2,c2,e1,e2,s1,s2,q1,q2,q3,q4⟩:=hok.2 i _ f (List.getElem?_eq_getElem hi) hf
    obtain ⟨rfl,b1,b2,b3,b4,_,_,b5,b6,b7⟩:=hc
    rw [e1,e2,q1,q2,q3,q4]
    rw [q1] at b1; rw [q2] at b2 b3 b4; rw [q3] at b5; rw [q4] at b6 b7
    exact ⟨A1,n1,c1,A2,n2,c2,rfl,b1,b2,b3,b4,s1,s2,b5,b6,b7⟩
end
end Go.FM

set_option linter.unusedVariables false
set_option linter.unusedSimpArgs false
namespace Go.FM
open Go
def allTo (tr:List (List GEvent)) (k:Nat):List GLife:=(List.range k).flatMap (fun (i:Nat) => (livesT (i:Int) (tr.getD i [])).1)
def lifeOk (all:List GLife) (i:Nat):Bool:=match all[i]? with
  | none => true
  | some a => (all.take i).all (fun b => !(decide (a.view.ID = b.view.ID) && !pairL a b)) && wholeL a all
def judgeV (tr:List (List GEvent)):Bool:=(List.range tr.length).all (fun (i:Nat) => (livesT (i:Int) (tr.getD i [])).2) && (List.range (allTo tr tr.length).length).all (lifeOk (allTo tr tr.length))
section
variable {tr:List (List GEvent)} {e0:List GEvent} {i j k:Nat} {a b f:GLife} {all:List GLife} {node:Int} {s s':LV} {ev:GEvent} {l:List GEvent}
theorem lvStep_ok (h:lvStep node s ev = some s') (hi:∀ f ∈ s.out,f.node = node∧has f.view.Set node = true):(∀ f ∈ s'.out,f.node = node∧has f.view.Set node = true)∧s'.out.length ≤ s.out.length + 1:=by
  unfold lvStep at h
  split at h
  · split at h
    · cases h
    · rename_i hc
      have hh:has ev.View.Set node = true:=by
        cases hq:has ev.View.Set node with
        | true => rfl
        | false => exact absurd (.inl hq) hc
      split at h
      · rename_i ho
        cases h
        refine ⟨fun f hf => ?_,by simp [LV.out,ho]⟩
        rcases List.mem_append.1 hf with h1 | h1
        · exact hi f (by unfold LV.out; rw [ho]; simpa using h1)
        · simp at h1; subst h1; exact ⟨rfl,hh⟩
      · rename_i f0 ho
        split at h
        · cases h
          have h0:=hi f0 (by unfold LV.out; rw [ho]; simp)
          refine ⟨fun f hf => ?_,by simp [LV.out,ho]⟩
          rcases List.mem_append.1 hf with h1 | h1
          · rcases List.mem_append.1 h1 with h2 | h2
            · exact hi f (by unfold LV.out; rw [ho]; simp [h2])
            · rw [List.mem_singleton.1 h2]; exact h0
          · simp at h1; subst h1; exact ⟨rfl,hh⟩
        · cases h
  · split at h
    · cases h
    · rename_i f0 ho
      have h0:=hi f0 (by unfold LV.out; rw [ho]; simp)
      have key:∀ g:GLife,g.node = f0.node → g.view = f0.view → (∀ f ∈ (LV.mk s.ini (some g)).out,f.node = node∧has f.view.Set node = true)∧(LV.mk s.ini (some g)).out.length ≤ s.out.length + 1:=by
        intro g h1 h2
        refine ⟨fun f hf => ?_,by simp [LV.out,ho]⟩
        rcases List.mem_append.1 hf with h3 | h3
        · exact hi f (by unfold LV.out; rw [ho]; simp [h3])
        · simp at h3; subst h3; rw [h1,h2]; exact h0
      split at h
      · cases h
      split at h
      · cases h; exact key _ rfl rfl
      split at h
      · cases h; exact key _ rfl rfl
      split at h
      · split at h
        · cases h; exact key _ rfl rfl
        · cases h
      · cases h
theorem lvRun_ok:∀ (k:Nat) (s:LV),lvRun node (l.take k) = some s → (∀ f ∈ s.out,f.node = node∧has f.view.Set node = true)∧s.out.length ≤ k
  | 0,s,h => by
    have:s = ⟨[],none⟩:=by rw [List.take_zero] at h; exact (Option.some.inj h).symm
    subst this; exact ⟨fun f hf => by simp [LV.out] at hf,by simp [LV.out]⟩
  | k + 1,s,h => by
    cases hk:l[k]? with
    | none =>
      have h1:l.take (k + 1) = l.take k:=by rw [List.take_of_length_le (by have:=List.getElem?_eq_none_iff.1 hk; omega),List.take_of_length_le (List.getElem?_eq_none_iff.1 hk)]
      rw [h1] at h
      have:=lvRun_ok k s h; exact ⟨this.1,by omega⟩
    | some e =>
      cases hr:lvRun node (l.take k) with
      | none =>
        unfold lvRun at hr h
        rw [take_next hk,List.foldl_append,hr] at h; cases h
      | some s0 =>
        have h0:=lvRun_ok k s0 hr
        have h2:lvStep node s0 e = some s:=by rw [← h]; exact (lvRun_next hk hr rfl).symm
        have:=lvStep_ok h2 h0.1; exact ⟨this.1,by omega⟩
theorem lives_ok:(∀ f ∈ (livesT node l).1,0 ≤ f.node∧f.node < 16)∧(livesT node l).1.length ≤ l.length:=by
  unfold livesT
  cases h:lvRun node l with
  | none => exact ⟨fun f hf => by simp at hf,Nat.zero_le _⟩
  | some s =>
    have:=lvRun_ok (l:=l) l.length s (by rw [List.take_length]; exact h)
    refine ⟨fun f hf => ?_,this.2⟩
    have h1:=this.1 f hf
    have h2:=of_decide_eq_true h1.2
    rw [h1.1]; exact ⟨h2.1,h2.2.1⟩
theorem all_next19 (h:tr[k]? = some e0) (ha:all = allTo tr k):all ++ (livesT (k:Int) e0).1 = allTo tr (k + 1):=by
  subst ha; unfold allTo
  rw [List.range_succ,List.flatMap_append]
  simp only [List.flatMap_cons,List.flatMap_nil,List.append_nil]
  rw [getD_at h]
theorem judge_no1 (h:tr[k]? = some e0) (hb:(livesT (k:Int) e0).2 = false):judgeV tr = false:=by
  unfold judgeV
  rw [Bool.and_eq_false_iff]
  exact .inl (List.all_eq_false.2 ⟨k,List.mem_range.2 (List.getElem?_eq_some_iff.1 h).1,by rw [getD_at h,hb]; decide⟩)
theorem judge_no2 (ha:all = allTo tr k) (hk:k = tr.length) (h:lifeOk all i = false) (hi:i < all.length):judgeV tr = false:=by
  subst hk; subst ha
  unfold judgeV
  rw [Bool.and_eq_false_iff]
  exact .inr (List.all_eq_false.2 ⟨i,List.mem_range.2 hi,by rw [h]; decide⟩)
theorem judge_yes (ha:all = allTo tr k) (hk:k = tr.length) (h1:∀ (j:Nat) (e:List GEvent),j < k → tr[j]? = some e → (livesT (j:Int) e).2 = true) (h2:∀ i,i < all.length → lifeOk all i = true):judgeV tr = true:=by
  subst hk; subst ha
  unfold judgeV
  rw [Bool.and_eq_true]
  refine ⟨List.all_eq_true.2 fun i hi => ?_,List.all_eq_true.2 fun i hi => h2 i (List.mem_range.1 hi)⟩
  have hi:=List.mem_range.1 hi
  rw [getD_at (List.getElem?_eq_getElem hi)]
  exact h1 i _ hi (List.getElem?_eq_getElem hi)
theorem life_bad1 (ha:all[i]? = some a) (hb:(all.take i)[j]? = some b) (h:a.view.ID = b.view.ID) (hp:pairL a b = false):lifeOk all i = false:=by
  unfold lifeOk; rw [ha]
  simp only [Bool.and_eq_false_iff]
  exact .inl (List.all_eq_false.2 ⟨b,List.mem_of_getElem? hb,by rw [decide_eq_true h,hp]; decide⟩)
theorem life_bad2 (ha:all[i]? = some a) (h:wholeL a all = false):lifeOk all i = false:=by
  unfold lifeOk; rw [ha]; simp only [h,Bool.and_false]
theorem life_ok (ha:all[i]? = some a) (hb:∀ (j:Nat) (b:GLife),j < i → (all.take i)[j]? = some b → (decide (a.view.ID = b.view.ID) && !pairL a b) = false) (h:wholeL a all = true):lifeOk all i = true:=by
  unfold lifeOk; rw [ha]
  simp only [h,Bool.and_true]
  refine List.all_eq_true.2 fun b hm => ?_
  obtain ⟨j,hj,rfl⟩:=List.getElem_of_mem hm
  rw [hb j _ (by simp at hj; omega) (List.getElem?_eq_getElem hj)]; rfl
end
end Go.FM

set_option linter.unusedVariables false
set_option linter.unusedSimpArgs false
namespace Go.FM
open Go
def VLt (a b:GViewID):Prop:=a.N < b.N ∨ a.N = b.N∧a.P < b.P
def lifeOf (node:Int) (l:List GEvent) (v:GView):GLife:=⟨node,v,itemsT l node 2 v.ID,itemsT l node 3 v.ID,((itemsT l node 4 v.ID).length:Int),nextT l v.ID⟩
section
variable {l r:List GEvent} {e:GEvent} {node:Int} {kind k:Nat} {v u w:GView} {x:GViewID} {vs:List GView} {s:LV} {a b:List GItem} {y:GItem}
theorem vlt_iff {a b:GViewID}:0 < cmpV b.N b.P a.N a.P ↔ VLt a b:=cmpV_pos _ _ _ _
theorem VLt.ne {a b:GViewID} (h:VLt a b):a ≠ b:=fun e => by subst e; unfold VLt at h; omega
theorem VLt.trans {a b c:GViewID} (h:VLt a b) (h2:VLt b c):VLt a c:=by unfold VLt at *; omega
theorem views_snoc:viewsT (l ++ [e]) = viewsT l ++ (if e.Kind = 1 then [e.View] else []):=by
  unfold viewsT; rw [List.filter_append,List.map_append]
  by_cases h:e.Kind = 1 <;> simp [h]
theorem items_snoc:itemsT (l ++ [e]) node kind x = itemsT l node kind x ++ (if e.Kind = kind∧e.View.ID = x then [itemT node kind e] else []):=by
  unfold itemsT; rw [List.filter_append,List.map_append]
  by_cases h:e.Kind = kind∧e.View.ID = x
  · rw [if_pos h]; simp [h.1,h.2]
  · rw [if_neg h]
    have:(decide (e.Kind = kind) && decide (e.View.ID = x)) = false:=by
      rw [Bool.and_eq_false_iff]
      by_cases h1:e.Kind = kind
      · right; exact decide_eq_false fun h2 => h ⟨h1,h2⟩
      · left; exact decide_eq_false h1
    simp [List.filter_cons,this]
theorem items_app:itemsT (l ++ r) node kind x = itemsT l node kind x ++ itemsT r node kind x:=by
  unfold itemsT; rw [List.filter_append,List.map_append]
theorem views_app:viewsT (l ++ r) = viewsT l ++ viewsT r:=by unfold viewsT; rw [List.filter_append,List.map_append]
theorem next_last:∀ (vs:List GView),(∀ w ∈ vs,w.ID ≠ u.ID) → nextOf (vs ++ [u]) u.ID = vid0
  | [],_ => rfl
  | [a],h => by
    show nextOf (a::u::[]) u.ID = _
    unfold nextOf
    rw [if_neg (h a (by simp))]; rfl
  | a::b::r,h => by
    show nextOf (a::(b::(r ++ [u]))) u.ID = _
    unfold nextOf
    rw [if_neg (h a (by simp))]
    exact next_last (b::r) fun w hw => h w (by simp at hw ⊢; exact .inr hw)
theorem next_new:∀ (vs:List GView),(∀ w ∈ vs,w.ID ≠ u.ID) → nextOf (vs ++ [u] ++ [v]) u.ID = v.ID
  | [],_ => by show nextOf (u::v::[]) u.ID = _; unfold nextOf; rw [if_pos rfl]
  | [a],h => by
    show nextOf (a::u::[v]) u.ID = _
    unfold nextOf
    rw [if_neg (h a (by simp))]
    unfold nextOf; rw [if_pos rfl]
  | a::b::r,h => by
    show nextOf (a::(b::(r ++ [u] ++ [v]))) u.ID = _
    unfold nextOf
    rw [if_neg (h a (by simp))]
    exact next_new (b::r) fun w hw => h w (by simp at hw ⊢; exact .inr hw)
theorem next_old:∀ (vs:List GView),x ≠ u.ID → nextOf (vs ++ [u] ++ [v]) x = nextOf (vs ++ [u]) x
  | [],h => by
    show nextOf (u::v::[]) x = nextOf [u] x
    unfold nextOf; rw [if_neg (fun e => h e.symm)]; rfl
  | [a],h => by
    show nextOf (a::u::[v]) x = nextOf (a::[u]) x
    unfold nextOf
    split
    · rfl
    · show nextOf (u::v::[]) x = nextOf [u] x
      unfold nextOf; rw [if_neg (fun e => h e.symm)]; rfl
  | a::b::r,h => by
    show nextOf (a::(b::(r ++ [u] ++ [v]))) x = nextOf (a::(b::(r ++ [u]))) x
    unfold nextOf
    split
    · rfl
    · exact next_old (b::r) h
theorem begins_iff:beginsT a b = true ↔ ∃ c,b = a ++ c:=by
  unfold beginsT
  rw [Bool.and_eq_true,decide_eq_true_eq,decide_eq_true_eq]
  constructor
  · rintro ⟨h1,h2⟩
    exact ⟨b.drop a.length,by have h3:=List.take_append_drop a.length b; rw [← h2] at h3; exact h3.symm⟩
  · rintro ⟨c,rfl⟩
    exact ⟨by simp,by simp⟩
theorem begins_push (h:beginsT a b = true) (hy:b[a.length]? = some y):beginsT (a ++ [y]) b = true:=by
  obtain ⟨c,rfl⟩:=begins_iff.1 h
  rw [List.getElem?_append_right (Nat.le_refl _),Nat.sub_self] at hy
  cases c with
  | nil => simp at hy
  | cons z c => simp at hy; subst hy; exact begins_iff.2 ⟨c,by simp⟩
theorem begins_grow {c:List GItem} (h:beginsT a b = true):beginsT a (b ++ c) = true:=by
  obtain ⟨d,rfl⟩:=begins_iff.1 h
  exact begins_iff.2 ⟨d ++ c,by simp⟩
theorem begins_at (h:beginsT a b = true) (hk:k < a.length):b[k]? = a[k]?:=by
  obtain ⟨d,rfl⟩:=begins_iff.1 h
  rw [List.getElem?_append_left hk]
structure TI (node:Int) (l:List GEvent) (s:LV):Prop where
  out:s.out = (viewsT l).map (lifeOf node l)
  ar:aRun node l = some ⟨s.opn.isSome,(s.opn.map (·.view)).getD view0,(s.opn.map (·.recv.length)).getD 0,(s.opn.map (·.safe.toNat)).getD 0⟩
  up:(viewsT l).Pairwise (fun a b => VLt a.ID b.ID)
  inn:∀ e ∈ l,e.Kind ≠ 1 → e.View ∈ viewsT l
  beg:∀ v ∈ viewsT l,beginsT (itemsT l node 4 v.ID) (itemsT l node 3 v.ID) = true
  emp:s.opn = none → s.ini = []
theorem TI.nil:TI node [] ⟨[],none⟩:=⟨rfl,rfl,List.Pairwise.nil,fun e h => by simp at h,fun v h => by simp [viewsT] at h,fun _ => rfl⟩
theorem aRun_snoc:aRun node (l ++ [e]) = (aRun node l).bind (fun s => aStep node s e):=by unfold aRun; rw [List.foldl_append]; rfl
theorem lvRun_snoc:lvRun node (l ++ [e]) = (lvRun node l).bind (fun s => lvStep node s e):=by unfold lvRun; rw [List.foldl_append]; rfl
variable {s':LV} {f:GLife}
theorem TI.none (h:TI node l s) (ho:s.opn = none):viewsT l = []:=by
  have h1:=h.out
  unfold LV.out at h1
  rw [ho,h.emp ho] at h1
  exact List.map_eq_nil_iff.1 h1.symm
theorem TI.last (h:TI node l s) (ho:s.opn = some f):∃ vs,viewsT l = vs ++ [f.view]∧s.ini = vs.map (lifeOf node l)∧f = lifeOf node l f.view:=by
  have h1:=h.out
  unfold LV.out at h1
  rw [ho] at h1
  obtain ⟨l1,l2,h2,h3,h4⟩:=List.map_eq_append_iff.1 h1.symm
  obtain ⟨v,h5,h6⟩:=List.map_eq_singleton_iff.1 h4
  have hv:f.view = v:=by rw [← h6]; rfl
  exact ⟨l1,by rw [h2,h5,hv],h3.symm,by rw [hv]; exact h6.symm⟩
theorem items_none (hin:∀ e ∈ l,e.Kind ≠ 1 → e.View ∈ viewsT l) (hk:kind ≠ 1) (hx:∀ w ∈ viewsT l,w.ID ≠ x):itemsT l node kind x = []:=by
  unfold itemsT
  rw [List.map_eq_nil_iff,List.filter_eq_nil_iff]
  intro e he hc
  rw [Bool.and_eq_true,decide_eq_true_eq,decide_eq_true_eq] at hc
  exact hx _ (hin e he (by rw [hc.1]; exact hk)) hc.2
theorem items_view (hk:e.Kind = 1) (hk2:kind ≠ 1):itemsT (l ++ [e]) node kind x = itemsT l node kind x:=by
  rw [items_snoc,if_neg (fun h => hk2 (by rw [← h.1]; exact hk)),List.append_nil]
theorem items_ne (h:¬ (e.Kind = kind∧e.View.ID = x)):itemsT (l ++ [e]) node kind x = itemsT l node kind x:=by
  rw [items_snoc,if_neg h,List.append_nil]
theorem inn_view (h:TI node l s) (hk:e.Kind = 1):∀ e' ∈ l ++ [e],e'.Kind ≠ 1 → e'.View ∈ viewsT (l ++ [e]):=fun e' he hne => by
  rw [views_snoc]
  rcases List.mem_append.1 he with h1 | h1
  · exact List.mem_append_left _ (h.inn e' h1 hne)
  · rw [List.mem_singleton.1 h1] at hne; exact absurd hk hne
theorem TI.view (h:TI node l s) (hs:lvStep node s e = some s') (hk:e.Kind = 1):TI node (l ++ [e]) s':=by
  unfold lvStep at hs
  rw [if_pos hk] at hs
  split at hs
  · cases hs
  rename_i hc
  have hh:has e.View.Set node = true:=by
    cases hq:has e.View.Set node with
    | true => rfl
    | false => exact absurd (.inl hq) hc
  have hN:¬ e.View.ID.N = 0:=fun k => hc (.inr k)
  have hv:viewsT (l ++ [e]) = viewsT l ++ [e.View]:=by rw [views_snoc,if_pos hk]
  have fin:(∀ w ∈ viewsT l,VLt w.ID e.View.ID) → lifeOf node (l ++ [e]) e.View = lvNew node e.View:=fun hlt => by
    have hne:∀ w ∈ viewsT l,w.ID ≠ e.View.ID:=fun w hw => (hlt w hw).ne
    unfold lifeOf lvNew nextT
    rw [items_view hk (by decide),items_view hk (by decide),items_view hk (by decide),items_none h.inn (by decide) hne,items_none h.inn (by decide) hne,items_none h.inn (by decide) hne,hv,next_last _ hne]
    rfl
  have bg:(∀ w ∈ viewsT l,VLt w.ID e.View.ID) → ∀ v ∈ viewsT (l ++ [e]),beginsT (itemsT (l ++ [e]) node 4 v.ID) (itemsT (l ++ [e]) node 3 v.ID) = true:=fun hlt v hm => by
    rw [items_view hk (by decide),items_view hk (by decide)]
    rw [hv] at hm
    rcases List.mem_append.1 hm with h1 | h1
    · exact h.beg v h1
    · rw [List.mem_singleton.1 h1,items_none h.inn (by decide) (fun w hw => (hlt w hw).ne)]
      exact begins_iff.2 ⟨_,rfl⟩
  have upp:(∀ w ∈ viewsT l,VLt w.ID e.View.ID) → (viewsT (l ++ [e])).Pairwise (fun a b => VLt a.ID b.ID):=fun hlt => by
    rw [hv,List.pairwise_append]
    exact ⟨h.up,List.pairwise_singleton _ _,fun a ha b hb => by rw [List.mem_singleton.1 hb]; exact hlt a ha⟩
  split at hs
  · rename_i ho
    cases hs
    have hz:=h.none ho
    have hlt:∀ w ∈ viewsT l,VLt w.ID e.View.ID:=fun w hw => by rw [hz] at hw; simp at hw
    refine ⟨?_,?_,upp hlt,inn_view h hk,bg hlt,fun k => (by cases k)⟩
    · rw [hv,hz]
      show s.ini ++ [lvNew node e.View] = [lifeOf node (l ++ [e]) e.View]
      rw [h.emp ho,fin hlt]; rfl
    · rw [aRun_snoc,h.ar,ho]
      exact aS_1ok hk ⟨⟨hN,hh⟩,fun k => by cases k⟩
  · rename_i f ho
    split at hs
    · rename_i hgt
      cases hs
      obtain ⟨vs,e1,e2,e3⟩:=h.last ho
      have hlast:VLt f.view.ID e.View.ID:=vlt_iff.1 hgt
      have hup:=h.up
      rw [e1,List.pairwise_append] at hup
      have hlt:∀ w ∈ viewsT l,VLt w.ID e.View.ID:=fun w hw => by
        rw [e1] at hw
        rcases List.mem_append.1 hw with h1 | h1
        · exact (hup.2.2 w h1 f.view (by simp)).trans hlast
        · rw [List.mem_singleton.1 h1]; exact hlast
      refine ⟨?_,?_,upp hlt,inn_view h hk,bg hlt,fun k => (by cases k)⟩
      · rw [hv,e1]
        show s.ini ++ [_] ++ [lvNew node e.View] = _
        rw [List.map_append,List.map_append]
        show _ = vs.map _ ++ [lifeOf node (l ++ [e]) f.view] ++ [lifeOf node (l ++ [e]) e.View]
        rw [fin hlt,e2]
        congr 1
        congr 1
        · refine List.map_congr_left fun w hw => ?_
          have hwf:w.ID ≠ f.view.ID:=(hup.2.2 w hw f.view (by simp)).ne
          unfold lifeOf nextT
          rw [items_view hk (by decide),items_view hk (by decide),items_view hk (by decide),hv,e1,next_old _ hwf]
        · have hne:∀ w ∈ vs,w.ID ≠ f.view.ID:=fun w hw => (hup.2.2 w hw f.view (by simp)).ne
          unfold lifeOf nextT
          rw [items_view hk (by decide),items_view hk (by decide),items_view hk (by decide),hv,e1,next_new _ hne]
          rw [e3]; rfl
      · rw [aRun_snoc,h.ar,ho]
        refine aS_1ok hk ⟨⟨hN,hh⟩,fun _ => hgt⟩
    · cases hs
theorem TI.keep (h:TI node l s) (ho:s.opn = some f) (hk:¬ e.Kind = 1) (hv:e.View = f.view) {g:GLife} (hg:g = lifeOf node (l ++ [e]) f.view) (har:aStep node ⟨true,f.view,f.recv.length,f.safe.toNat⟩ e = some ⟨true,f.view,g.recv.length,g.safe.toNat⟩)
    (hb:beginsT (itemsT (l ++ [e]) node 4 f.view.ID) (itemsT (l ++ [e]) node 3 f.view.ID) = true):TI node (l ++ [e]) ⟨s.ini,some g⟩:=by
  obtain ⟨vs,e1,e2,e3⟩:=h.last ho
  have hvw:viewsT (l ++ [e]) = viewsT l:=by rw [views_snoc,if_neg hk,List.append_nil]
  have hup:=h.up
  rw [e1,List.pairwise_append] at hup
  have hne:∀ w ∈ vs,e.View.ID ≠ w.ID:=fun w hw k => (hup.2.2 w hw f.view (by simp)).ne (by rw [← k,hv])
  have hgv:g.view = f.view:=by rw [hg]; rfl
  refine ⟨?_,?_,by rw [hvw]; exact h.up,fun e' he hn => ?_,fun v hm => ?_,fun k => (by cases k)⟩
  · show s.ini ++ [g] = _
    rw [hvw,e1,List.map_append,e2,hg]
    congr 1
    refine List.map_congr_left fun w hw => ?_
    unfold lifeOf nextT
    rw [items_ne (fun k => hne w hw k.2),items_ne (fun k => hne w hw k.2),items_ne (fun k => hne w hw k.2),hvw]
  · rw [aRun_snoc,h.ar,ho]
    show aStep node ⟨true,f.view,f.recv.length,f.safe.toNat⟩ e = some ⟨true,g.view,g.recv.length,g.safe.toNat⟩
    rw [hgv]; exact har
  · rw [hvw]
    rcases List.mem_append.1 he with h1 | h1
    · exact h.inn e' h1 hn
    · rw [List.mem_singleton.1 h1,hv,e1]; simp
  · rw [hvw,e1] at hm
    rcases List.mem_append.1 hm with h1 | h1
    · rw [items_ne (fun k => hne v h1 k.2),items_ne (fun k => hne v h1 k.2)]
      exact h.beg v (by rw [e1]; exact List.mem_append_left _ h1)
    · rw [List.mem_singleton.1 h1]; exact hb
theorem TI.other (h:TI node l s) (hs:lvStep node s e = some s') (hk:¬ e.Kind = 1):TI node (l ++ [e]) s':=by
  unfold lvStep at hs
  rw [if_neg hk] at hs
  split at hs
  · cases hs
  rename_i f ho
  split at hs
  · cases hs
  rename_i hv
  have hv:e.View = f.view:=Classical.byContradiction hv
  have hvi:e.View.ID = f.view.ID:=by rw [hv]
  obtain ⟨vs,e1,e2,e3⟩:=h.last ho
  have hvw:viewsT (l ++ [e]) = viewsT l:=by rw [views_snoc,if_neg hk,List.append_nil]
  have q1:f.node = node:=congrArg GLife.node e3
  have q2:f.sent = itemsT l node 2 f.view.ID:=congrArg GLife.sent e3
  have q3:f.recv = itemsT l node 3 f.view.ID:=congrArg GLife.recv e3
  have q4:f.safe = ((itemsT l node 4 f.view.ID).length:Int):=congrArg GLife.safe e3
  have q5:f.next = nextT l f.view.ID:=congrArg GLife.next e3
  have q6:f.safe.toNat = (itemsT l node 4 f.view.ID).length:=by rw [q4]; rfl
  have hbg:=h.beg f.view (by rw [e1]; simp)
  have hle:f.safe.toNat ≤ f.recv.length:=by
    obtain ⟨c,hc⟩:=begins_iff.1 hbg
    rw [q6,q3,hc]; simp
  split at hs
  · rename_i k2
    cases hs
    refine h.keep ho hk hv ?_ ?_ ?_
    · unfold lifeOf nextT
      rw [items_snoc (kind:=2),if_pos ⟨k2,hvi⟩,items_ne (kind:=3) (fun k => by omega),items_ne (kind:=4) (fun k => by omega),hvw,q1,q2,q3,q4,q5]
      rfl
    · exact aS_ok (.inl k2) (by rw [if_neg (by omega)]) (by rw [if_neg (by omega)]) ⟨⟨rfl,hv⟩,hle⟩
    · rw [items_ne (kind:=4) (fun k => by omega),items_ne (kind:=3) (fun k => by omega)]; exact hbg
  split at hs
  · rename_i k3
    cases hs
    refine h.keep ho hk hv ?_ ?_ ?_
    · unfold lifeOf nextT
      rw [items_snoc (kind:=3),if_pos ⟨k3,hvi⟩,items_ne (kind:=2) (fun k => by omega),items_ne (kind:=4) (fun k => by omega),hvw,q1,q2,q3,q4,q5]
      rfl
    · exact aS_ok (.inr (.inl k3)) (by rw [if_pos k3]; simp) (by rw [if_neg (by omega)]) ⟨⟨rfl,hv⟩,by show f.safe.toNat ≤ (f.recv ++ [GItem.mk e.From e.M]).length; rw [List.length_append]; omega⟩
    · rw [items_ne (kind:=4) (fun k => by omega),items_snoc (kind:=3)]; exact begins_grow hbg
  split at hs
  · rename_i k4
    split at hs
    · rename_i hr
      cases hs
      have hs0:0 ≤ f.safe:=by rw [q4]; omega
      have hlt:f.safe.toNat < f.recv.length:=(List.getElem?_eq_some_iff.1 hr).1
      refine h.keep ho hk hv ?_ ?_ ?_
      · unfold lifeOf nextT
        rw [items_snoc (kind:=4),if_pos ⟨k4,hvi⟩,items_ne (kind:=2) (fun k => by omega),items_ne (kind:=3) (fun k => by omega),hvw,q1,q2,q3,q4,q5]
        rw [List.length_append]; rfl
      · exact aS_ok (.inr (.inr k4)) (by rw [if_neg (by omega)]) (by rw [if_pos k4]; show (f.safe + 1).toNat = f.safe.toNat + 1; omega) ⟨⟨rfl,hv⟩,by show (f.safe + 1).toNat ≤ f.recv.length; omega⟩
      · rw [items_snoc (kind:=4),if_pos ⟨k4,hvi⟩,items_ne (kind:=3) (fun k => by omega)]
        refine begins_push hbg ?_
        rw [← q3,← q6,hr]; rfl
    · cases hs
  · cases hs
theorem alone_cut (h:aRun node (l ++ [e]) = none):aloneT node (l ++ e::r) = false:=by
  refine alone_no1 (k:=(l ++ [e]).length) ?_
  rw [show l ++ e::r = (l ++ [e]) ++ r by simp,List.take_left]
  exact h
theorem TI.bad (h:TI node l s) (hs:lvStep node s e = Option.none):aloneT node (l ++ e::r) = false:=by
  unfold lvStep at hs
  split at hs
  · rename_i hk
    split at hs
    · rename_i hc
      refine alone_cut ?_
      rw [aRun_snoc,h.ar]
      exact aS_1bad hk (.inl (hc.elim .inr .inl))
    · split at hs
      · cases hs
      · rename_i f ho
        split at hs
        · cases hs
        · rename_i hn
          refine alone_cut ?_
          rw [aRun_snoc,h.ar,ho]
          exact aS_1bad hk (.inr ⟨rfl,by show cmpV _ _ f.view.ID.N f.view.ID.P ≤ 0; omega⟩)
  · rename_i hk
    by_cases hkk:e.Kind = 2 ∨ e.Kind = 3 ∨ e.Kind = 4
    · split at hs
      · rename_i ho
        refine alone_cut ?_
        rw [aRun_snoc,h.ar,ho]
        exact aS_bad hkk rfl rfl (.inl (.inl rfl))
      · rename_i f ho
        split at hs
        · rename_i hv
          refine alone_cut ?_
          rw [aRun_snoc,h.ar,ho]
          exact aS_bad hkk rfl rfl (.inl (.inr hv))
        rename_i hv
        have hv:e.View = f.view:=Classical.byContradiction hv
        split at hs
        · cases hs
        split at hs
        · cases hs
        split at hs
        · rename_i k4
          split at hs
          · cases hs
          rename_i hr
          obtain ⟨vs,e1,e2,e3⟩:=h.last ho
          have q3:f.recv = itemsT l node 3 f.view.ID:=congrArg GLife.recv e3
          have q4:f.safe = ((itemsT l node 4 f.view.ID).length:Int):=congrArg GLife.safe e3
          have q6:f.safe.toNat = (itemsT l node 4 f.view.ID).length:=by rw [q4]; rfl
          by_cases hlt:f.recv.length < f.safe.toNat + 1
          · refine alone_cut ?_
            rw [aRun_snoc,h.ar,ho]
            exact aS_bad hkk rfl rfl (.inr (by rw [if_neg (by omega),if_pos k4]; exact hlt))
          · have hm:f.view ∈ viewsT (l ++ e::r):=by rw [views_app,e1]; simp
            obtain ⟨j,hj,hje⟩:=List.getElem_of_mem hm
            refine alone_no2 (j:=j) (w:=f.view) (by rw [List.getElem?_eq_getElem hj,hje]) ?_
            cases hb:beginsT (itemsT (l ++ e::r) node 4 f.view.ID) (itemsT (l ++ e::r) node 3 f.view.ID) with
            | false => rfl
            | true =>
              exfalso
              have h4:itemsT (l ++ e::r) node 4 f.view.ID = itemsT l node 4 f.view.ID ++ ([itemT node 4 e] ++ itemsT r node 4 f.view.ID):=by
                rw [show l ++ e::r = (l ++ [e]) ++ r by simp,items_app,items_snoc,if_pos ⟨k4,by rw [hv]⟩,List.append_assoc]
              have h3:itemsT (l ++ e::r) node 3 f.view.ID = itemsT l node 3 f.view.ID ++ itemsT r node 3 f.view.ID:=by
                rw [show l ++ e::r = (l ++ [e]) ++ r by simp,items_app,items_ne (fun k => by omega)]
              have h5:=begins_at (k:=(itemsT l node 4 f.view.ID).length) hb (by rw [h4]; simp)
              rw [h4,h3,List.getElem?_append_left (by rw [← q3]; omega),List.getElem?_append_right (Nat.le_refl _),Nat.sub_self] at h5
              rw [← q3,← q6] at h5
              exact hr (by rw [h5]; rfl)
        · omega
    · refine alone_cut ?_
      rw [aRun_snoc,h.ar]
      exact aS_none hk (fun k => hkk (.inl k)) (fun k => hkk (.inr (.inl k))) (fun k => hkk (.inr (.inr k)))
theorem trace_is:∀ (n:Nat) (l:List GEvent),l.length = n → (∃ s,lvRun node l = some s∧TI node l s) ∨ (lvRun node l = none∧∀ r,aloneT node (l ++ r) = false)
  | 0,l,hl => by
    obtain rfl:=List.eq_nil_of_length_eq_zero hl
    exact .inl ⟨_,rfl,TI.nil⟩
  | n + 1,l,hl => by
    obtain ⟨l0,e,rfl⟩:∃ l0 e,l = l0 ++ [e]:=by
      rcases List.eq_nil_or_concat l with h | ⟨a,b,h⟩
      · rw [h] at hl; cases hl
      · exact ⟨a,b,by simpa using h⟩
    rcases trace_is n l0 (by simpa using hl) with ⟨s,h1,h2⟩ | ⟨h1,h2⟩
    · rw [lvRun_snoc,h1]
      cases hs:lvStep node s e with
      | none => exact .inr ⟨by show lvStep node s e = none; exact hs,fun r => by rw [List.append_assoc]; exact h2.bad hs⟩
      | some s' =>
        refine .inl ⟨s',by show lvStep node s e = some s'; exact hs,?_⟩
        by_cases hk:e.Kind = 1
        · exact h2.view hs hk
        · exact h2.other hs hk
    · exact .inr ⟨by rw [lvRun_snoc,h1]; rfl,fun r => by rw [List.append_assoc]; exact h2 _⟩
theorem TI.alone (h:TI node l s):aloneT node l = true:=by
  unfold aloneT
  rw [h.ar,Option.isSome_some,Bool.true_and]
  exact List.all_eq_true.2 h.beg
theorem lives_alone:(livesT node l).2 = aloneT node l∧(aloneT node l = true → (livesT node l).1 = (viewsT l).map (lifeOf node l)∧(viewsT l).Pairwise (fun a b => VLt a.ID b.ID)):=by
  rcases trace_is (node:=node) l.length l rfl with ⟨s,h1,h2⟩ | ⟨h1,h2⟩
  · unfold livesT
    rw [h1]
    exact ⟨h2.alone.symm,fun _ => ⟨h2.out,h2.up⟩⟩
  · have h3:=h2 []
    rw [List.append_nil] at h3
    unfold livesT
    rw [h1,h3]
    exact ⟨rfl,fun k => by cases k⟩
end
end Go.FM

set_option linter.unusedVariables false
set_option linter.unusedSimpArgs false
namespace Go.FM
open Go
structure GOut where
  To:Int
  F:GFrame
instance:DecidableEq GOut:=fun a b => decidable_of_iff (a.To = b.To∧a.F = b.F) ⟨fun h => by cases a; cases b; simp_all,fun h => by rw [h]; simp⟩
instance:Inhabited GOut:=⟨(GOut.mk 0 (GFrame.mk 0 0 (GViewID.mk 0 0) 0 (GViewID.mk 0 0) (GViewID.mk 0 0) [] 0 [] [] 0 0))⟩
structure GInstall where
  View:GView
  States:(List GState)
def kInstall:Kd GInstall where
  sz:=4
  pos:=by decide
  rep H x cs:=∃ (A1:Option Addr) (n2 c3:Nat),cs = [.int .u64 (x.View.ID.N:Int),.int .i64 x.View.ID.P,.int .u16 (x.View.Set:Int),.slice A1 n2 c3]∧x.View.ID.N < 18446744073709551616∧IB (x.View.ID.P)∧x.View.Set < 65536∧Sl kState H A1 n2 c3 x.States
  len h:=by obtain ⟨A1,n2,c3,rfl,_⟩:=h; rfl
  one h:=by obtain ⟨A1,n2,c3,rfl,_⟩:=h; simp [Value.oneCell']
  mono hl h:=by obtain ⟨A1,n2,c3,rfl,h0,h1,h2,h3⟩:=h; exact ⟨A1,n2,c3,rfl,h0,h1,h2,h3.mono hl⟩
  bts:=48
  bts0:=by decide
instance:DecidableEq GInstall:=fun a b => decidable_of_iff (a.View = b.View∧a.States = b.States) ⟨fun h => by cases a; cases b; simp_all,fun h => by rw [h]; simp⟩
instance:Inhabited GInstall:=⟨(GInstall.mk (GView.mk (GViewID.mk 0 0) 0) [])⟩
structure GMove where
  Kind:Nat
  I:Nat
  Est:Nat
  Keep:Bool
instance:DecidableEq GMove:=fun a b => decidable_of_iff (a.Kind = b.Kind∧a.I = b.I∧a.Est = b.Est∧a.Keep = b.Keep) ⟨fun h => by cases a; cases b; simp_all,fun h => by rw [h]; simp⟩
instance:Inhabited GMove:=⟨(GMove.mk 0 0 0 false)⟩
theorem GMove.beq_dec (a b:GMove):((((a.Kind:Nat):Int) == ((b.Kind:Nat):Int)) && ((((a.I:Nat):Int) == ((b.I:Nat):Int)) && ((((a.Est:Nat):Int) == ((b.Est:Nat):Int)) && ((a.Keep == b.Keep) && true)))) = decide (a = b):=by
  rw [Bool.eq_iff_iff]
  obtain ⟨aKind,aI,aEst,aKeep⟩:=a
  obtain ⟨bKind,bI,bEst,bKeep⟩:=b
  simp only [Bool.and_eq_true,beq_iff_eq,decide_eq_true_eq,Int.ofNat_inj,Int.natCast_inj,and_true,and_assoc,GMove.mk.injEq]
end Go.FM

set_option linter.unusedVariables false
set_option linter.unusedSimpArgs false
namespace Go.FM
open Go
structure GProp where
  v:GView
  who:Nat
  states:List GState
  done:Bool
structure MB where
  n:Nat
  self:Nat
  cur:GView
  prom:GViewID
  high:Nat
  prop:Option GProp
  joined:List GState
  others:List (GViewID × GViewID)
def z0:GViewID:=⟨0,0⟩
def MB.new (n self:Nat):MB:=⟨n,self,⟨z0,0⟩,z0,0,none,[],List.replicate 16 (z0,z0)⟩
def aboveV (a b:GViewID):Bool:=decide (0 < cmpV a.N a.P b.N b.P)
def MB.other (m:MB) (i:Nat):GViewID × GViewID:=m.others.getD i (z0,z0)
def MB.ahead (m:MB) (set:Nat) (v:GViewID):Bool:=(lst set).any fun i => decide (i ≠ m.self) && aboveV (m.other i).2 v
def MB.opn (m:MB):Bool:=decide (0 < m.cur.ID.N) && decide (m.cur.ID = m.prom)
def MB.hear (m:MB) (v:GViewID):MB:={ m with high:=max m.high v.N }
def MB.need (m:MB) (est:Nat):Bool:=decide (m.cur.ID ≠ m.prom) || decide (m.cur.ID.N = 0) || decide (est ≠ m.cur.Set) || m.ahead est m.cur.ID
def MB.under (m:MB) (est:Nat):Bool:=match m.prop with
  | none => false
  | some p => !p.done && decide (m.prom = p.v.ID) && decide (p.v.Set = est) && !m.ahead est p.v.ID
def frCommit (self:Nat) (v:GView) (j:List GState):GFrame:=⟨5,(self:Int),v.ID,v.Set,z0,z0,j,0,[],[],0,0⟩
def frPropose (self:Nat) (v:GView):GFrame:=⟨2,(self:Int),v.ID,v.Set,z0,z0,[],0,[],[],0,0⟩
def frRefuse (self:Nat) (id prom:GViewID):GFrame:=⟨4,(self:Int),id,0,z0,prom,[],0,[],[],0,0⟩
def frAccept (self:Nat) (id:GViewID) (st:GState):GFrame:=⟨3,(self:Int),id,0,z0,z0,[st],0,[],[],0,0⟩
def MB.commit (m:MB) (p:GProp) (i:Nat):GOut:=⟨(i:Int),frCommit m.self p.v m.joined⟩
def MB.again1 (m:MB) (p:GProp) (i:Nat):List GOut :=
  if i = m.self then [] else if p.done = true∧(m.other i).1 ≠ p.v.ID then [m.commit p i] else if p.done = false∧has p.who i = false then [⟨(i:Int),frPropose m.self p.v⟩] else []
def MB.again (m:MB):List GOut:=match m.prop with
  | none => []
  | some p => if m.prom ≠ p.v.ID then [] else (lst p.v.Set).flatMap (m.again1 p)
def MB.agree (m:MB) (p:GProp):MB × Option GInstall :=
  if p.who ≠ p.v.Set then ({ m with prop:=some p },none) else ({ m with prop:=some { p with done:=true,states:=[] },joined:=joinS p.states,cur:=p.v },some ⟨p.v,joinS p.states⟩)
def MB.est (m:MB) (est:Nat):Nat:=wth (est &&& (2 ^ m.n - 1)) m.self
def MB.prop1 (m:MB) (e:Nat) (st:GState):GProp:=⟨⟨⟨(m.high + 1) % 18446744073709551616,(m.self:Int)⟩,e⟩,wth 0 m.self,[st],false⟩
def MB.ticks (m:MB) (e:Nat) (st:GState):MB × Option GInstall:=MB.agree { m with high:=(m.high + 1) % 18446744073709551616,prom:=(m.prop1 e st).v.ID } (m.prop1 e st)
def MB.tick (m:MB) (est:Nat) (st:GState):MB × List GOut × Option GInstall :=
  if least (m.est est) = (m.self:Int)∧m.need (m.est est) = true∧m.under (m.est est) = false then
    (match m.ticks (m.est est) st with
      | (m',some i) => (m',[],some i)
      | (m',none) => (m',m'.again,none))
  else (m,m.again,none)
def MB.propose (m:MB) (f:GFrame) (st:GState):MB × List GOut × Option GInstall × Int :=
  if f.ID.P ≠ f.From ∨ has f.Set m.self = false ∨ has f.Set f.From = false ∨ f.Set / 2 ^ m.n ≠ 0 then (m,[],none,3)
  else if aboveV f.ID m.prom = true then ({ m.hear f.ID with prom:=f.ID },[⟨f.From,frAccept m.self f.ID st⟩],none,0)
  else if f.ID ≠ m.prom ∨ m.cur.ID = f.ID then (m.hear f.ID,[⟨f.From,frRefuse m.self f.ID m.prom⟩],none,9)
  else (m.hear f.ID,[⟨f.From,frAccept m.self f.ID st⟩],none,0)
def MB.acceptOk (m:MB) (p:GProp) (f:GFrame):Bool:=!p.done && decide (p.v.ID = f.ID) && decide (m.prom = f.ID) && has p.v.Set f.From && !has p.who f.From && decide (f.States.length = 1)
def MB.accept (m:MB) (f:GFrame):MB × List GOut × Option GInstall × Int:=match m.prop with
  | none => (m,[],none,9)
  | some p => if m.acceptOk p f = true then
      (match m.agree { p with who:=wth p.who f.From,states:=p.states ++ f.States } with
        | (m',none) => (m',[],none,0)
        | (m',some i) => (m',(lst (wto p.v.Set m.self)).map (m'.commit { p with done:=true }),some i,0))
    else (m,[],none,9)
def MB.inn (m:MB) (f:GFrame) (st:GState):MB × List GOut × Option GInstall × Int :=
  if f.From < 0 ∨ (m.n:Int) ≤ f.From ∨ f.From = (m.self:Int) then (m,[],none,1)
  else if f.Kind = 1 then (({ m with others:=m.others.set f.From.toNat (f.Cur,f.Prom) }.hear f.Cur).hear f.Prom,[],none,0)
  else if f.Kind = 2 then m.propose f st
  else if f.Kind = 3 then m.accept f
  else if f.Kind = 4 then
    (match m.prop with
      | none => (m.hear f.Prom,[],none,0)
      | some p => if p.v.ID = f.ID∧p.done = false∧aboveV f.Prom f.ID = true then ({ m.hear f.Prom with prop:=none },[],none,0) else (m.hear f.Prom,[],none,0))
  else if f.Kind = 5 then
    (if f.ID ≠ m.prom ∨ m.cur.ID = f.ID ∨ has f.Set m.self = false ∨ f.ID.P ≠ f.From then (m,[],none,9) else ({ m with cur:=⟨f.ID,f.Set⟩ },[],some ⟨⟨f.ID,f.Set⟩,f.States⟩,0))
  else (m,[],none,3)
end Go.FM

set_option linter.unusedVariables false
set_option linter.unusedSimpArgs false
namespace Go.FM
open Go
section
variable {tr:List (List GEvent)} {l:List GEvent} {all:List GLife} {a b:GLife} {i j k n:Nat} {v w u:GView} {x:GViewID} {s sent:List GItem} {y:GItem}
theorem take_min {α:Type} {p q:List α}:p.take (min p.length q.length) = q.take (min p.length q.length) ↔ (∃ c,q = p ++ c) ∨ ∃ c,p = q ++ c:=by
  constructor
  · intro h
    rcases Nat.le_total p.length q.length with h1 | h1
    · rw [Nat.min_eq_left h1,List.take_length] at h
      exact .inl ⟨q.drop p.length,by have h3:=List.take_append_drop p.length q; rw [← h] at h3; exact h3.symm⟩
    · rw [Nat.min_eq_right h1,List.take_length] at h
      exact .inr ⟨p.drop q.length,by have h3:=List.take_append_drop q.length p; rw [h] at h3; exact h3.symm⟩
  · rintro (⟨c,rfl⟩ | ⟨c,rfl⟩)
    · rw [List.length_append,Nat.min_eq_left (by omega)]; simp
    · rw [List.length_append,Nat.min_eq_right (by omega)]; simp
theorem pairL_iff:pairL a b = true ↔ a.view.Set = b.view.Set∧(beginsT a.recv b.recv = true ∨ beginsT b.recv a.recv = true)∧(a.next.N = 0 ∨ a.next ≠ b.next ∨ a.recv.length = b.recv.length):=by
  unfold pairL
  simp only [Bool.and_eq_true,Bool.or_eq_true,decide_eq_true_eq,take_min,begins_iff,and_assoc,or_assoc]
theorem pairL_refl:pairL a a = true:=pairL_iff.2 ⟨rfl,.inl (begins_iff.2 ⟨[],by simp⟩),.inr (.inr rfl)⟩
theorem pairL_symm (h:pairL a b = true):pairL b a = true:=by
  obtain ⟨h1,h2,h3⟩:=pairL_iff.1 h
  refine pairL_iff.2 ⟨h1.symm,h2.symm,?_⟩
  rcases h3 with h3 | h3 | h3
  · by_cases e:b.next = a.next
    · exact .inl (by rw [e]; exact h3)
    · exact .inr (.inl e)
  · exact .inr (.inl fun e => h3 e.symm)
  · exact .inr (.inr h3.symm)
theorem lifes_iff:(∀ m,m < all.length → lifeOk all m = true) ↔ (∀ a ∈ all,∀ b ∈ all,a.view.ID = b.view.ID → pairL a b = true)∧∀ a ∈ all,wholeL a all = true:=by
  have one:∀ m (a:GLife),all[m]? = some a → (lifeOk all m = true ↔ (∀ b ∈ all.take m,a.view.ID = b.view.ID → pairL a b = true)∧wholeL a all = true):=by
    intro m a ha
    unfold lifeOk
    rw [ha]
    simp only [Bool.and_eq_true,List.all_eq_true]
    refine and_congr_left' (forall_congr' fun b => forall_congr' fun hb => ?_)
    cases h1:pairL a b <;> by_cases h2:a.view.ID = b.view.ID <;> simp [h2]
  constructor
  · intro h
    refine ⟨fun a ha b hb he => ?_,fun a ha => ?_⟩
    · obtain ⟨m,hm,rfl⟩:=List.getElem_of_mem ha
      obtain ⟨q,hq,rfl⟩:=List.getElem_of_mem hb
      rcases Nat.lt_trichotomy q m with h1 | h1 | h1
      · exact ((one m _ (List.getElem?_eq_getElem hm)).1 (h m hm)).1 _ (List.mem_take_iff_getElem.2 ⟨q,by omega,rfl⟩) he
      · subst h1; exact pairL_refl
      · exact pairL_symm (((one q _ (List.getElem?_eq_getElem hq)).1 (h q hq)).1 _ (List.mem_take_iff_getElem.2 ⟨m,by omega,rfl⟩) he.symm)
    · obtain ⟨m,hm,rfl⟩:=List.getElem_of_mem ha
      exact ((one m _ (List.getElem?_eq_getElem hm)).1 (h m hm)).2
  · rintro ⟨h1,h2⟩ m hm
    exact (one m _ (List.getElem?_eq_getElem hm)).2 ⟨fun b hb he => h1 _ (List.getElem_mem hm) b (List.mem_of_mem_take hb) he,h2 _ (List.getElem_mem hm)⟩
theorem find_one {α:Type} {p:α → Bool} {l:List α} {b:α} (hb:b ∈ l) (hp:p b = true) (hu:∀ y ∈ l,p y = true → y = b):l.find? p = some b:=by
  cases h:l.find? p with
  | none => rw [List.find?_eq_none] at h; exact absurd hp (h b hb)
  | some y => rw [hu y (List.mem_of_find?_eq_some h) (List.find?_some h)]
theorem uniq_view (h:(viewsT l).Pairwise (fun a b => VLt a.ID b.ID)) (hv:v ∈ viewsT l) (hw:w ∈ viewsT l) (he:v.ID = w.ID):v = w:=by
  obtain ⟨m,hm,rfl⟩:=List.getElem_of_mem hv
  obtain ⟨q,hq,rfl⟩:=List.getElem_of_mem hw
  have hp:=List.pairwise_iff_getElem.1 h
  rcases Nat.lt_trichotomy m q with h1 | h1 | h1
  · exact absurd he (hp m q hm hq h1).ne
  · subst h1; rfl
  · exact absurd he.symm (hp q m hq hm h1).ne
theorem hasT_some (h:(viewsT l).Pairwise (fun a b => VLt a.ID b.ID)):hasT l x = some w ↔ w ∈ viewsT l∧w.ID = x:=by
  unfold hasT
  constructor
  · intro k
    exact ⟨List.mem_of_find?_eq_some k,by simpa using List.find?_some k⟩
  · rintro ⟨k1,k2⟩
    exact find_one k1 (by simpa using k2) fun y hy hp => uniq_view h hy k1 (by rw [k2]; simpa using hp)
theorem hasT_none:hasT l x = none ↔ ∀ w ∈ viewsT l,w.ID ≠ x:=by
  unfold hasT; rw [List.find?_eq_none]; simp
theorem from_cnt (j:Int):∀ (n:Nat) (s:List GItem),s.length = n → ((∀ (k:Nat) (y:GItem),s[k]? = some y → y.From = j → sent[cntI (s.take k) j]? = some y) ↔ beginsT (fromT s j) sent = true)
  | 0,s,hn => by
    obtain rfl:=List.eq_nil_of_length_eq_zero hn
    exact ⟨fun _ => begins_iff.2 ⟨sent,rfl⟩,fun _ k y h => by simp at h⟩
  | n + 1,s,hn => by
    obtain ⟨s0,y,rfl⟩:∃ s0 y,s = s0 ++ [y]:=by
      rcases List.eq_nil_or_concat s with h | ⟨a,b,h⟩
      · rw [h] at hn; cases hn
      · exact ⟨a,b,by simpa using h⟩
    have ih:=from_cnt j n s0 (by simpa using hn)
    have hc:cntI s0 j = (fromT s0 j).length:=by unfold cntI fromT; rw [List.countP_eq_length_filter]
    have hf:fromT (s0 ++ [y]) j = fromT s0 j ++ (if y.From = j then [y] else []):=by
      unfold fromT; rw [List.filter_append]
      by_cases h:y.From = j <;> simp [h]
    have hold:∀ k,k < s0.length → (s0 ++ [y]).take k = s0.take k:=fun k hk => List.take_append_of_le_length (by omega)
    constructor
    · intro h
      have h0:=ih.1 fun k z hz hj => by
        have hk:=(List.getElem?_eq_some_iff.1 hz).1
        have:=h k z (by rw [List.getElem?_append_left hk]; exact hz) hj
        rw [hold k hk] at this; exact this
      rw [hf]
      by_cases hy:y.From = j
      · rw [if_pos hy]
        have:=h s0.length y (by simp) hy
        rw [List.take_left,hc] at this
        exact begins_push h0 this
      · rw [if_neg hy,List.append_nil]; exact h0
    · intro h
      rw [hf] at h
      have h0:beginsT (fromT s0 j) sent = true:=by
        obtain ⟨c,hc⟩:=begins_iff.1 h
        exact begins_iff.2 ⟨_,by rw [hc,List.append_assoc]⟩
      intro k z hz hj
      rcases Nat.lt_trichotomy k s0.length with h1 | h1 | h1
      · rw [List.getElem?_append_left h1] at hz
        rw [hold k h1]; exact ih.2 h0 k z hz hj
      · subst h1
        rw [List.getElem?_append_right (Nat.le_refl _),Nat.sub_self] at hz
        cases hz
        rw [List.take_left,hc]
        rw [if_pos hj] at h
        have:=begins_at (k:=(fromT s0 j).length) h (by simp)
        rw [this]; simp
      · rw [List.getElem?_eq_none (by simp; omega)] at hz; cases hz
end
end Go.FM

set_option linter.unusedVariables false
set_option linter.unusedSimpArgs false
namespace Go.FM
open Go
def atT (tr:List (List GEvent)) (i:Nat):List GEvent:=tr.getD i []
section
variable {tr:List (List GEvent)} {l:List GEvent} {all:List GLife} {a b:GLife} {i j k n:Nat} {v w u:GView} {x:GViewID} {s sent:List GItem} {y:GItem}
theorem mem_all (hal:∀ i:Nat,i < tr.length → aloneT (i:Int) (atT tr i) = true):a ∈ allTo tr tr.length ↔ ∃ i,i < tr.length∧∃ v ∈ viewsT (atT tr i),a = lifeOf (i:Int) (atT tr i) v:=by
  unfold allTo
  rw [List.mem_flatMap]
  constructor
  · rintro ⟨i,hi,ha⟩
    have hi:=List.mem_range.1 hi
    rw [((lives_alone (node:=(i:Int)) (l:=tr.getD i [])).2 (hal i hi)).1] at ha
    obtain ⟨v,hv,e⟩:=List.mem_map.1 ha
    exact ⟨i,hi,v,hv,e.symm⟩
  · rintro ⟨i,hi,v,hv,e⟩
    refine ⟨i,List.mem_range.2 hi,?_⟩
    rw [((lives_alone (node:=(i:Int)) (l:=tr.getD i [])).2 (hal i hi)).1]
    exact List.mem_map.2 ⟨v,hv,e.symm⟩
theorem up_at (hal:∀ i:Nat,i < tr.length → aloneT (i:Int) (atT tr i) = true) (hi:i < tr.length):(viewsT (atT tr i)).Pairwise (fun a b => VLt a.ID b.ID):=((lives_alone (node:=(i:Int)) (l:=atT tr i)).2 (hal i hi)).2
theorem findL_in (hal:∀ i:Nat,i < tr.length → aloneT (i:Int) (atT tr i) = true) (hk:k < tr.length):findL (allTo tr tr.length) (k:Int) x = (hasT (atT tr k) x).map (lifeOf (k:Int) (atT tr k)):=by
  cases h:hasT (atT tr k) x with
  | none =>
    show findL _ _ _ = none
    unfold findL
    rw [List.find?_eq_none]
    intro b hb hp
    rw [Bool.and_eq_true,decide_eq_true_eq,decide_eq_true_eq] at hp
    obtain ⟨i,hi,v,hv,rfl⟩:=(mem_all hal).1 hb
    have e:i = k:=by have:=hp.1; exact Int.ofNat_inj.1 this
    subst e
    exact hasT_none.1 h v hv hp.2
  | some w =>
    obtain ⟨h1,h2⟩:=(hasT_some (up_at hal hk)).1 h
    refine find_one ((mem_all hal).2 ⟨k,hk,w,h1,rfl⟩) (by rw [Bool.and_eq_true,decide_eq_true_eq,decide_eq_true_eq]; exact ⟨rfl,h2⟩) fun b hb hp => ?_
    rw [Bool.and_eq_true,decide_eq_true_eq,decide_eq_true_eq] at hp
    obtain ⟨i,hi,v,hv,rfl⟩:=(mem_all hal).1 hb
    have e:i = k:=by have:=hp.1; exact Int.ofNat_inj.1 this
    subst e
    rw [uniq_view (up_at hal hk) hv h1 (by rw [h2]; exact hp.2)]
theorem findL_out (hal:∀ i:Nat,i < tr.length → aloneT (i:Int) (atT tr i) = true) {z:Int} (hz:¬ (0 ≤ z∧z < (tr.length:Int))):findL (allTo tr tr.length) z x = none:=by
  unfold findL
  rw [List.find?_eq_none]
  intro b hb hp
  rw [Bool.and_eq_true,decide_eq_true_eq,decide_eq_true_eq] at hp
  obtain ⟨i,hi,v,hv,rfl⟩:=(mem_all hal).1 hb
  have:((i:Nat):Int) = z:=hp.1
  omega
theorem gotAt_iff:gotAt all a j = true ↔ ∀ y,a.recv[j]? = some y → ∃ b,findL all y.From a.view.ID = some b∧b.sent[cntI (a.recv.take j) y.From]? = some y:=by
  unfold gotAt
  cases h:a.recv[j]? with
  | none => simp
  | some y =>
    cases h2:findL all y.From a.view.ID with
    | none => simp [h2]
    | some b => simp [h2]
theorem safeAt_iff (hal:∀ i:Nat,i < tr.length → aloneT (i:Int) (atT tr i) = true):safeAt (allTo tr tr.length) a (k:Int) = true ↔ k < tr.length∧∃ w,hasT (atT tr k) a.view.ID = some w∧a.safe ≤ ((itemsT (atT tr k) (k:Int) 3 a.view.ID).length:Int):=by
  unfold safeAt
  rw [List.any_eq_true]
  constructor
  · rintro ⟨b,hb,hp⟩
    simp only [Bool.and_eq_true,decide_eq_true_eq] at hp
    obtain ⟨i,hi,v,hv,rfl⟩:=(mem_all hal).1 hb
    have e:i = k:=by have:=hp.1.1; exact Int.ofNat_inj.1 this
    subst e
    have hid:v.ID = a.view.ID:=hp.1.2
    refine ⟨hi,v,(hasT_some (up_at hal hi)).2 ⟨hv,hid⟩,?_⟩
    have:=hp.2
    rw [← hid]; exact this
  · rintro ⟨hk,w,hw,hs⟩
    obtain ⟨h1,h2⟩:=(hasT_some (up_at hal hk)).1 hw
    refine ⟨_,(mem_all hal).2 ⟨k,hk,w,h1,rfl⟩,?_⟩
    simp only [Bool.and_eq_true,decide_eq_true_eq]
    exact ⟨⟨rfl,h2⟩,by show a.safe ≤ ((itemsT (atT tr k) (k:Int) 3 w.ID).length:Int); rw [h2]; exact hs⟩
theorem gots_iff (hal:∀ i:Nat,i < tr.length → aloneT (i:Int) (atT tr i) = true):(∀ j,j < a.recv.length → gotAt (allTo tr tr.length) a j = true) ↔
    (∀ y ∈ a.recv,0 ≤ y.From∧y.From < (tr.length:Int))∧∀ j,j < tr.length → (hasT (atT tr j) a.view.ID = none → fromT a.recv (j:Int) = [])∧∀ w,hasT (atT tr j) a.view.ID = some w → beginsT (fromT a.recv (j:Int)) (itemsT (atT tr j) (j:Int) 2 a.view.ID) = true:=by
  have sent_w:∀ (j:Nat) (w:GView),hasT (atT tr j) a.view.ID = some w → w.ID = a.view.ID:=fun j w h => by
    have:=List.find?_some h; simpa using this
  constructor
  · intro h
    have hr:∀ y ∈ a.recv,0 ≤ y.From∧y.From < (tr.length:Int):=fun y hy => by
      obtain ⟨m,hm,rfl⟩:=List.getElem_of_mem hy
      obtain ⟨b,hb,_⟩:=gotAt_iff.1 (h m hm) _ (List.getElem?_eq_getElem hm)
      exact Classical.byContradiction fun k => by rw [findL_out hal k] at hb; cases hb
    refine ⟨hr,fun j hj => ⟨fun hn => ?_,fun w hw => ?_⟩⟩
    · unfold fromT
      rw [List.filter_eq_nil_iff]
      intro y hy hp
      have hp:y.From = (j:Int):=by simpa using hp
      obtain ⟨m,hm,rfl⟩:=List.getElem_of_mem hy
      obtain ⟨b,hb,_⟩:=gotAt_iff.1 (h m hm) _ (List.getElem?_eq_getElem hm)
      rw [hp,findL_in hal hj,hn] at hb; cases hb
    · refine (from_cnt (j:Int) a.recv.length a.recv rfl).1 fun m y hy hf => ?_
      have hm:=(List.getElem?_eq_some_iff.1 hy).1
      obtain ⟨b,hb,hs⟩:=gotAt_iff.1 (h m hm) _ hy
      rw [hf,findL_in hal hj,hw] at hb
      have e:lifeOf (j:Int) (atT tr j) w = b:=Option.some.inj hb
      rw [← e,hf] at hs
      rw [← sent_w j w hw]; exact hs
  · rintro ⟨h1,h2⟩ m hm
    refine gotAt_iff.2 fun y hy => ?_
    have hr:=h1 y (List.mem_of_getElem? hy)
    obtain ⟨j,hj⟩:∃ j:Nat,y.From = (j:Int):=⟨y.From.toNat,by omega⟩
    have hjl:j < tr.length:=by omega
    cases hh:hasT (atT tr j) a.view.ID with
    | none =>
      exfalso
      have h3:=(h2 j hjl).1 hh
      unfold fromT at h3
      rw [List.filter_eq_nil_iff] at h3
      exact h3 y (List.mem_of_getElem? hy) (by simpa using hj)
    | some w =>
      refine ⟨lifeOf (j:Int) (atT tr j) w,by rw [hj,findL_in hal hjl,hh]; rfl,?_⟩
      have h3:=(from_cnt (j:Int) a.recv.length a.recv rfl).2 ((h2 j hjl).2 w hh) m y hy hj
      show (itemsT (atT tr j) (j:Int) 2 w.ID)[_]? = _
      rw [sent_w j w hh,hj]; exact h3
end
end Go.FM

set_option linter.unusedVariables false
set_option linter.unusedSimpArgs false
namespace Go.FM
open Go
section
variable {tr:List (List GEvent)} {a b:GLife} {i j k n:Nat} {v w u:GView}
theorem seeT_iff:seeT tr i v j = true ↔ (hasT (atT tr j) v.ID = none → fromT (itemsT (atT tr i) i 3 v.ID) j = []∧¬ (0 < (itemsT (atT tr i) i 4 v.ID).length∧has v.Set j = true)) ∧
    ∀ w,hasT (atT tr j) v.ID = some w → w = v∧(beginsT (itemsT (atT tr i) i 3 v.ID) (itemsT (atT tr j) j 3 v.ID) = true ∨ beginsT (itemsT (atT tr j) j 3 v.ID) (itemsT (atT tr i) i 3 v.ID) = true)∧beginsT (fromT (itemsT (atT tr i) i 3 v.ID) j) (itemsT (atT tr j) j 2 v.ID) = true
     ∧¬ ((itemsT (atT tr j) j 3 v.ID).length < (itemsT (atT tr i) i 4 v.ID).length∧has v.Set j = true)∧¬ (0 < (nextT (atT tr i) v.ID).N∧nextT (atT tr i) v.ID = nextT (atT tr j) v.ID∧(itemsT (atT tr i) i 3 v.ID).length ≠ (itemsT (atT tr j) j 3 v.ID).length):=by
  unfold seeT
  show (match hasT (atT tr j) v.ID with | none => _ | some w => _) = true ↔ _
  cases h:hasT (atT tr j) v.ID with
  | none =>
    simp only [Bool.not_eq_true',Bool.or_eq_false_iff,Bool.and_eq_false_iff,decide_eq_false_iff_not,reduceCtorEq,false_implies,implies_true,and_true,forall_const]
    constructor
    · rintro ⟨h1,h2⟩
      refine ⟨List.eq_nil_of_length_eq_zero (by unfold atT at *; omega),fun ⟨k1,k2⟩ => ?_⟩
      rcases h2 with h2 | h2
      · exact h2 k1
      · rw [k2] at h2; cases h2
    · rintro ⟨h1,h2⟩
      refine ⟨by show ¬ 0 < (fromT (itemsT (atT tr i) i 3 v.ID) j).length; rw [h1]; simp,?_⟩
      by_cases k:0 < (itemsT (atT tr i) i 4 v.ID).length
      · right; cases k2:has v.Set j with
        | false => rfl
        | true => exact absurd ⟨k,k2⟩ h2
      · exact .inl k
  | some w =>
    simp only [reduceCtorEq,false_implies,true_and,Option.some.injEq,forall_eq']
    constructor
    · intro hb
      simp only [Bool.and_eq_true,Bool.not_eq_true',Bool.or_eq_false_iff,Bool.and_eq_false_iff,decide_eq_false_iff_not,Bool.not_eq_false',ne_eq,Classical.not_not] at hb
      obtain ⟨⟨⟨⟨h1,h2⟩,h3⟩,h4⟩,h5⟩:=hb
      refine ⟨h1,h2,h3,fun ⟨k1,k2⟩ => ?_,fun ⟨k1,k2,k3⟩ => ?_⟩
      · rcases h4 with h4 | h4
        · exact h4 k1
        · rw [k2] at h4; cases h4
      · rcases h5 with (h5 | h5) | h5
        · exact h5 k1
        · exact h5 k2
        · exact k3 h5
    · rintro ⟨h1,h2,h3,h4,h5⟩
      simp only [Bool.and_eq_true,Bool.not_eq_true',Bool.or_eq_false_iff,Bool.and_eq_false_iff,decide_eq_false_iff_not,Bool.not_eq_false',ne_eq,Classical.not_not]
      refine ⟨⟨⟨⟨h1,h2⟩,h3⟩,?_⟩,?_⟩
      · by_cases k:(itemsT (atT tr j) j 3 v.ID).length < (itemsT (atT tr i) i 4 v.ID).length
        · right; cases k2:has v.Set j with
          | false => rfl
          | true => exact absurd ⟨k,k2⟩ h4
        · exact .inl k
      · by_cases k1:0 < (nextT (atT tr i) v.ID).N
        · by_cases k2:nextT (atT tr i) v.ID = nextT (atT tr j) v.ID
          · right; exact Classical.byContradiction fun k3 => h5 ⟨k1,k2,k3⟩
          · exact .inl (.inr k2)
        · exact .inl (.inl k1)
theorem view_same {a b:GView} (h1:a.ID = b.ID) (h2:a.Set = b.Set):a = b:=by cases a; cases b; simp_all
theorem has16 (h:has w.Set (k:Int) = true):k < 16:=by
  have:=of_decide_eq_true h
  omega
theorem inview_iff (hal:∀ i:Nat,i < tr.length → aloneT (i:Int) (atT tr i) = true) (hi:i < tr.length) (hv:v ∈ viewsT (atT tr i)) :
    inviewT tr i v = true ↔ (∀ b ∈ allTo tr tr.length,v.ID = b.view.ID → pairL (lifeOf i (atT tr i) v) b = true)∧wholeL (lifeOf i (atT tr i) v) (allTo tr tr.length) = true:=by
  have hsome:∀ (j:Nat) (w:GView),hasT (atT tr j) v.ID = some w → w ∈ viewsT (atT tr j)∧w.ID = v.ID:=fun j w h => ⟨List.mem_of_find?_eq_some h,by simpa using List.find?_some h⟩
  have hw:wholeL (lifeOf i (atT tr i) v) (allTo tr tr.length) = true ↔ (∀ j,j < (lifeOf i (atT tr i) v).recv.length → gotAt (allTo tr tr.length) (lifeOf i (atT tr i) v) j = true)∧∀ k,has v.Set (k:Nat) = true → 0 < (itemsT (atT tr i) i 4 v.ID).length → safeAt (allTo tr tr.length) (lifeOf i (atT tr i) v) (k:Int) = true:=by
    unfold wholeL
    rw [Bool.and_eq_true,List.all_eq_true,List.all_eq_true]
    refine and_congr ⟨fun h j hj => h j (List.mem_range.2 hj),fun h j hj => h j (List.mem_range.1 hj)⟩ ⟨fun h k hk hs => ?_,fun h k hk => ?_⟩
    · have:=h k (has_lst.2 hk)
      have h0:(0:Int) < (lifeOf i (atT tr i) v).safe:=by show (0:Int) < ((itemsT (atT tr i) i 4 v.ID).length:Int); omega
      rw [decide_eq_true h0,Bool.true_and,Bool.not_not] at this
      exact this
    · by_cases hs:0 < (itemsT (atT tr i) i 4 v.ID).length
      · rw [h k (has_lst.1 hk) hs]; simp
      · rw [decide_eq_false (show ¬ (0:Int) < (lifeOf i (atT tr i) v).safe by show ¬ (0:Int) < ((itemsT (atT tr i) i 4 v.ID).length:Int); omega)]; rfl
  have hin:inviewT tr i v = true ↔ (∀ y ∈ itemsT (atT tr i) i 3 v.ID,0 ≤ y.From∧y.From < (tr.length:Int))∧(∀ j,j < tr.length → seeT tr i v j = true)∧∀ j,tr.length ≤ j → j < 16 → ¬ (0 < (itemsT (atT tr i) i 4 v.ID).length∧has v.Set (j:Nat) = true):=by
    unfold inviewT
    rw [Bool.and_eq_true,Bool.and_eq_true,List.all_eq_true,List.all_eq_true,List.all_eq_true,and_assoc]
    refine and_congr ⟨fun h y hy => of_decide_eq_true (h y hy),fun h y hy => decide_eq_true (h y hy)⟩ (and_congr ⟨fun h j hj => h j (List.mem_range.2 hj),fun h j hj => h j (List.mem_range.1 hj)⟩ ⟨fun h j hj h16 hc => ?_,fun h j hj => ?_⟩)
    · have:=h j (List.mem_range.2 h16)
      rw [decide_eq_false (by omega),Bool.false_or] at this
      unfold lateT at this
      rw [show tr.getD i [] = atT tr i from rfl,decide_eq_true hc.1,hc.2] at this
      cases this
    · by_cases hjl:j < tr.length
      · rw [decide_eq_true hjl]; rfl
      · have h16:=List.mem_range.1 hj
        have:=h j (by omega) h16
        rw [decide_eq_false hjl,Bool.false_or]
        unfold lateT
        rw [show tr.getD i [] = atT tr i from rfl]
        cases k:(decide (0 < (itemsT (atT tr i) i 4 v.ID).length) && has v.Set j) with
        | false => rfl
        | true => simp only [Bool.and_eq_true,decide_eq_true_eq] at k; exact absurd k this
  rw [hin,hw,gots_iff hal]
  constructor
  · rintro ⟨h1,h2,h3⟩
    refine ⟨fun b hb he => ?_,⟨h1,fun j hj => ⟨fun hn => ((seeT_iff.1 (h2 j hj)).1 hn).1,fun w hw => ((seeT_iff.1 (h2 j hj)).2 w hw).2.2.1⟩⟩,fun k hk hs => ?_⟩
    · obtain ⟨j,hj,w,hw,rfl⟩:=(mem_all hal).1 hb
      have he:v.ID = w.ID:=he
      have hh:=(hasT_some (x:=v.ID) (up_at hal hj)).2 ⟨hw,he.symm⟩
      obtain ⟨q1,q2,_,_,q5⟩:=(seeT_iff.1 (h2 j hj)).2 w hh
      subst q1
      refine pairL_iff.2 ⟨rfl,q2,?_⟩
      show (nextT (atT tr i) w.ID).N = 0 ∨ nextT (atT tr i) w.ID ≠ nextT (atT tr j) w.ID ∨ (itemsT (atT tr i) i 3 w.ID).length = (itemsT (atT tr j) j 3 w.ID).length
      by_cases k1:(nextT (atT tr i) w.ID).N = 0
      · exact .inl k1
      · by_cases k2:nextT (atT tr i) w.ID = nextT (atT tr j) w.ID
        · exact .inr (.inr (Classical.byContradiction fun k3 => q5 ⟨by omega,k2,k3⟩))
        · exact .inr (.inl k2)
    · refine (safeAt_iff hal).2 ?_
      have hkl:k < tr.length:=Classical.byContradiction fun c => h3 k (by omega) (has16 (w:=v) hk) ⟨hs,hk⟩
      refine ⟨hkl,?_⟩
      cases hh:hasT (atT tr k) v.ID with
      | none => exact absurd ⟨hs,hk⟩ ((seeT_iff.1 (h2 k hkl)).1 hh).2
      | some w =>
        obtain ⟨_,_,_,q4,_⟩:=(seeT_iff.1 (h2 k hkl)).2 w hh
        refine ⟨w,hh,?_⟩
        show ((itemsT (atT tr i) i 4 v.ID).length:Int) ≤ _
        have:¬ (itemsT (atT tr k) k 3 v.ID).length < (itemsT (atT tr i) i 4 v.ID).length:=fun c => q4 ⟨c,hk⟩
        show ((itemsT (atT tr i) i 4 v.ID).length:Int) ≤ ((itemsT (atT tr k) (k:Int) 3 v.ID).length:Int)
        omega
  · rintro ⟨h1,⟨h2,h3⟩,h4⟩
    have safe_k:∀ k,has v.Set (k:Nat) = true → 0 < (itemsT (atT tr i) i 4 v.ID).length → k < tr.length∧∃ w,hasT (atT tr k) v.ID = some w∧(itemsT (atT tr i) i 4 v.ID).length ≤ (itemsT (atT tr k) k 3 v.ID).length:=fun k hk hs => by
      obtain ⟨q1,w,q2,q3⟩:=(safeAt_iff hal).1 (h4 k hk hs)
      have q3:((itemsT (atT tr i) i 4 v.ID).length:Int) ≤ ((itemsT (atT tr k) (k:Int) 3 v.ID).length:Int):=q3
      exact ⟨q1,w,q2,by omega⟩
    refine ⟨h2,fun j hj => seeT_iff.2 ⟨fun hn => ⟨(h3 j hj).1 hn,fun ⟨c1,c2⟩ => ?_⟩,fun w hw => ?_⟩,fun j hj h16 ⟨c1,c2⟩ => ?_⟩
    · obtain ⟨_,w,q,_⟩:=safe_k j c2 c1
      rw [hn] at q; cases q
    · obtain ⟨m1,m2⟩:=hsome j w hw
      have hp:=pairL_iff.1 (h1 _ ((mem_all hal).2 ⟨j,hj,w,m1,rfl⟩) m2.symm)
      obtain ⟨p1,p2,p3⟩:=hp
      have p1:v.Set = w.Set:=p1
      have ew:w = v:=view_same m2 p1.symm
      subst ew
      refine ⟨rfl,p2,(h3 j hj).2 w hw,fun ⟨c1,c2⟩ => ?_,fun ⟨c1,c2,c3⟩ => ?_⟩
      · obtain ⟨_,w',_,q⟩:=safe_k j c2 (by omega)
        omega
      · have p3:(nextT (atT tr i) w.ID).N = 0 ∨ nextT (atT tr i) w.ID ≠ nextT (atT tr j) w.ID ∨ (itemsT (atT tr i) i 3 w.ID).length = (itemsT (atT tr j) j 3 w.ID).length:=p3
        rcases p3 with p3 | p3 | p3
        · omega
        · exact p3 c2
        · exact c3 p3
    · have:=(safe_k j c2 c1).1; omega
theorem judge_ref:judgeV tr = refV tr:=by
  by_cases hal:∀ i:Nat,i < tr.length → aloneT (i:Int) (atT tr i) = true
  · have e1:(List.range tr.length).all (fun (i:Nat) => (livesT (i:Int) (tr.getD i [])).2) = true:=List.all_eq_true.2 fun i hi => by
      rw [(lives_alone (node:=(i:Int)) (l:=tr.getD i [])).1]; exact hal i (List.mem_range.1 hi)
    have e2:(List.range tr.length).all (fun i => aloneT i (tr.getD i [])) = true:=List.all_eq_true.2 fun i hi => hal i (List.mem_range.1 hi)
    unfold judgeV refV
    rw [e1,e2,Bool.true_and,Bool.true_and,Bool.eq_iff_iff]
    constructor
    · intro h
      have h:=(lifes_iff (all:=allTo tr tr.length)).1 fun m hm => List.all_eq_true.1 h m (List.mem_range.2 hm)
      refine List.all_eq_true.2 fun i hi => List.all_eq_true.2 fun v hv => ?_
      have hi:=List.mem_range.1 hi
      have hm:lifeOf i (atT tr i) v ∈ allTo tr tr.length:=(mem_all hal).2 ⟨i,hi,v,hv,rfl⟩
      exact (inview_iff hal hi hv).2 ⟨fun b hb he => h.1 _ hm b hb he,h.2 _ hm⟩
    · intro h
      refine List.all_eq_true.2 fun m hm => (lifes_iff (all:=allTo tr tr.length)).2 ⟨fun a ha b hb he => ?_,fun a ha => ?_⟩ m (List.mem_range.1 hm)
      · obtain ⟨i,hi,v,hv,rfl⟩:=(mem_all hal).1 ha
        exact ((inview_iff hal hi hv).1 (List.all_eq_true.1 (List.all_eq_true.1 h i (List.mem_range.2 hi)) v hv)).1 b hb he
      · obtain ⟨i,hi,v,hv,rfl⟩:=(mem_all hal).1 ha
        exact ((inview_iff hal hi hv).1 (List.all_eq_true.1 (List.all_eq_true.1 h i (List.mem_range.2 hi)) v hv)).2
  · have hex:∃ i:Nat,i < tr.length∧aloneT (i:Int) (atT tr i) = false:=Classical.byContradiction fun k => hal fun i hi => by
      cases h:aloneT (i:Int) (atT tr i) with
      | true => rfl
      | false => exact absurd ⟨i,hi,h⟩ k
    obtain ⟨i,hi,h⟩:=hex
    have hg:tr[i]? = some (atT tr i):=by unfold atT; rw [List.getD_eq_getElem?_getD,List.getElem?_eq_getElem hi]; rfl
    rw [judge_no1 hg (by rw [lives_alone.1]; exact h),refV_no1 hg h]
end
end Go.FM

set_option linter.unusedVariables false
set_option linter.unusedSimpArgs false
namespace Go.FM
open Go
def oCell (x:GViewID × GViewID):List Value:=[.int .u8 0,.int .i64 0,.int .u64 0,.int .i64 0,.int .u16 0,.int .u64 (x.1.N:Int),.int .i64 x.1.P,.int .u64 (x.2.N:Int),.int .i64 x.2.P,.slice none 0 0,.int .u64 0,.slice none 0 0,.slice none 0 0,.int .u64 0,.int .u64 0]
def oCells (os:List (GViewID × GViewID)):List Value:=os.flatMap oCell
def memCells (n self:Nat) (cur:GView) (prom:GViewID) (high:Nat) (pv jv:Value) (os:List (GViewID × GViewID)):List Value :=
  .int .i64 (n:Int)::.int .i64 (self:Int)::.int .u64 (cur.ID.N:Int)::.int .i64 cur.ID.P::.int .u16 (cur.Set:Int)::.int .u64 (prom.N:Int)::.int .i64 prom.P::.int .u64 (high:Int)::pv::jv::oCells os
section
variable {n self high:Nat} {cur:GView} {prom:GViewID} {pv jv:Value} {os:List (GViewID × GViewID)} {i j:Nat}
end
def MB.cells (m:MB) (pv jv:Value):List Value:=memCells m.n m.self m.cur m.prom m.high pv jv m.others
structure VOk (v:GViewID):Prop where
  n:v.N < 18446744073709551616
  p:IB v.P
structure PropOk (H:Hp) (p:GProp) (sv:Value) (sc:List Value):Prop where
  id:VOk p.v.ID
  set:p.v.Set < 65536
  who:p.who < 65536
  ok:RowOk 4 sv p.states.length sc
  hk:kState.toKn.rows H p.states sc
structure MemOk (H:Hp) (m:MB) (A:Option Addr) (jn jc:Nat) (sv:Value) (sc:List Value):Prop where
  n1:1 ≤ m.n
  n16:m.n ≤ 16
  self:m.self < m.n
  cur:VOk m.cur.ID
  set:m.cur.Set < 65536
  prom:VOk m.prom
  high:m.high < 18446744073709551616
  joined:Sl kState H A jn jc m.joined
  len:m.others.length = 16
  oth:∀ x ∈ m.others,VOk x.1∧VOk x.2
  prop:∀ p,m.prop = some p → PropOk H p sv sc
theorem MemOk.other {H:Hp} {m:MB} {A:Option Addr} {jn jc:Nat} {sv:Value} {sc:List Value} (h:MemOk H m A jn jc sv sc) (i:Nat):VOk (m.other i).1∧VOk (m.other i).2:=by
  unfold MB.other
  rw [List.getD_eq_getElem?_getD]
  cases e:m.others[i]? with
  | none => exact ⟨⟨by decide,by constructor <;> decide⟩,⟨by decide,by constructor <;> decide⟩⟩
  | some x => exact h.oth x (List.mem_of_getElem? e)
section
variable {m:MB} {z:Nat} {v:GViewID}
end
end Go.FM

set_option linter.unusedVariables false
set_option linter.unusedSimpArgs false
namespace Go.FM
open Go
def VLe (a b:GViewID):Prop:=a.N < b.N ∨ a.N = b.N∧a.P ≤ b.P
theorem vid_ext {a b:GViewID} (h1:a.N = b.N) (h2:a.P = b.P):a = b:=by cases a; cases b; simp_all
theorem VLe.refl (a:GViewID):VLe a a:=.inr ⟨rfl,Int.le_refl _⟩
theorem VLe.of_eq {a b:GViewID} (h:a = b):VLe a b:=h ▸ VLe.refl a
theorem VLe.trans {a b c:GViewID} (h:VLe a b) (k:VLe b c):VLe a c:=by unfold VLe at *; omega
theorem VLe.antisymm {a b:GViewID} (h:VLe a b) (k:VLe b a):a = b:=by
  unfold VLe at *; exact vid_ext (by omega) (by omega)
theorem VLe.N {a b:GViewID} (h:VLe a b):a.N ≤ b.N:=by unfold VLe at h; omega
theorem VLe.zero {a:GViewID} (h:0 ≤ a.P):VLe z0 a:=by
  unfold VLe z0; show 0 < a.N ∨ 0 = a.N∧0 ≤ a.P; omega
theorem above_iff {a b:GViewID}:aboveV a b = true ↔ ¬ VLe a b:=by
  unfold aboveV VLe
  rw [decide_eq_true_iff,cmpV_pos]; omega
theorem above_f {a b:GViewID}:aboveV a b = false ↔ VLe a b:=by
  rw [← Bool.not_eq_true,above_iff,Classical.not_not]
theorem VLe.of_not {a b:GViewID} (h:¬ VLe a b):VLe b a:=by unfold VLe at *; omega
structure GG where
  n:Nat
  ms:List MB
  bag:List GOut
  views:List (List GView)
def m00:MB:=MB.new 1 0
def GG.m (g:GG) (i:Nat):MB:=g.ms.getD i m00
def stOf (m:MB):GState:=⟨m.cur.ID,0,[]⟩
def vpost (views:List (List GView)) (i:Nat):Option GInstall → List (List GView)
  | none => views
  | some x => views.set i (views.getD i [] ++ [x.View])
def GG.post (g:GG) (i:Nat) (l:List GOut) (x:Option GInstall):GG:=⟨g.n,g.ms,g.bag ++ l,vpost g.views i x⟩
def GG.put (g:GG) (i:Nat) (m:MB):GG:=⟨g.n,g.ms.set i m,g.bag,g.views⟩
def GG.tickAt (g:GG) (i est:Nat):GG:=(g.put i ((g.m i).tick est (stOf (g.m i))).1).post i ((g.m i).tick est (stOf (g.m i))).2.1 ((g.m i).tick est (stOf (g.m i))).2.2
def GG.inAt (g:GG) (o:GOut):GG:=(g.put o.To.toNat ((g.m o.To.toNat).inn o.F (stOf (g.m o.To.toNat))).1).post o.To.toNat ((g.m o.To.toNat).inn o.F (stOf (g.m o.To.toNat))).2.1 ((g.m o.To.toNat).inn o.F (stOf (g.m o.To.toNat))).2.2.1
def GG.without (g:GG) (k:Nat):GG:=⟨g.n,g.ms,g.bag.eraseIdx k,g.views⟩
def frBeat (i:Nat) (m:MB):GFrame:=⟨1,(i:Int),z0,0,m.cur.ID,m.prom,[],0,[],[],0,0⟩
def GG.beatsTo (g:GG) (i:Nat) (k:Nat):List GOut:=((List.range k).filter (fun j => decide (j ≠ i))).map (fun (j:Nat) => GOut.mk (j:Int) (frBeat i (g.m i)))
def GG.beatAt (g:GG) (i:Nat):GG:=⟨g.n,g.ms,g.bag ++ g.beatsTo i g.n,g.views⟩
def fr0:GFrame:=⟨0,0,z0,0,z0,z0,[],0,[],[],0,0⟩
def o00:GOut:=⟨0,frBeat 0 m00⟩
def GG.comes (g:GG) (k:Nat) (keep hand:Bool):GG :=
  if g.bag = [] then g else
    (let g1:=if keep then g else g.without (k % g.bag.length)
     if hand then g1.inAt (g.bag.getD (k % g.bag.length) o00) else g1)
def GG.move (g:GG) (a:GMove):GG :=
  if a.Kind % 9 < 3 then g.tickAt (a.I % g.n) a.Est
  else if a.Kind % 9 < 8 then g.comes a.Est a.Keep (decide (a.Kind % 9 < 7))
  else g.beatAt (a.I % g.n)
def GG.begin_ (n:Nat):GG:=⟨n,(List.range n).map (MB.new n),[],List.replicate n []⟩
section
variable {g:GG} {i j n:Nat} {m:MB}
theorem put_m (h:i < g.ms.length) (j:Nat):(g.put i m).m j = if j = i then m else g.m j:=by
  unfold GG.put GG.m
  rw [List.getD_eq_getElem?_getD,List.getElem?_set,List.getD_eq_getElem?_getD]
  by_cases e:i = j
  · subst e; rw [if_pos rfl,if_pos h,if_pos rfl]; rfl
  · rw [if_neg e,if_neg (fun h => e h.symm)]
theorem begin_m (h:i < n):(GG.begin_ n).m i = MB.new n i:=by
  unfold GG.begin_ GG.m
  rw [List.getD_eq_getElem?_getD,List.getElem?_map,List.getElem?_range h]; rfl
end
def InLog (log:List GView) (x:GViewID):Prop:=x = z0 ∨ ∃ v ∈ log,v.ID = x
theorem InLog.mono {log log':List GView} {x:GViewID} (h:InLog log x) (hl:∀ v ∈ log,v ∈ log'):InLog log' x:=by
  rcases h with h | ⟨v,h1,h2⟩
  · exact .inl h
  · exact .inr ⟨v,hl v h1,h2⟩
structure LogOk (n B:Nat) (log:List GView):Prop where
  uniq:∀ v ∈ log,∀ u ∈ log,v.ID = u.ID → v = u
  pos:∀ v ∈ log,0 < v.ID.N∧v.ID.N ≤ B
  p:∀ v ∈ log,0 ≤ v.ID.P∧v.ID.P < (n:Int)
  set:∀ v ∈ log,has v.Set v.ID.P = true∧v.Set < 2 ^ n∧least v.Set = v.ID.P
theorem LogOk.idN {n B:Nat} {log:List GView} {x:GViewID} (h:LogOk n B log) (hx:InLog log x):x.N ≤ B:=by
  rcases hx with rfl | ⟨v,h1,rfl⟩
  · exact Nat.zero_le _
  · exact (h.pos v h1).2
structure NodeOk (log:List GView) (k i B:Nat) (m:MB):Prop where
  n:m.n = k
  self:m.self = i
  len:m.others.length = 16
  cur:m.cur = ⟨z0,0⟩ ∨ m.cur ∈ log∧has m.cur.Set (i:Int) = true
  cp:VLe m.cur.ID m.prom
  prom:InLog log m.prom
  high:m.prom.N ≤ m.high
  highB:m.high ≤ B
  pin:∀ p,m.prop = some p → p.v ∈ log∧p.v.ID.P = (i:Int)
  pno:∀ p,m.prop = some p → p.done = false → m.cur.ID ≠ p.v.ID∧p.who ≠ p.v.Set∧p.who < 2 ^ k∧has p.who (i:Int) = true
  pd:∀ p,m.prop = some p → p.done = true → p.who = p.v.Set
  pst:∀ p,m.prop = some p → (∀ s ∈ p.states,s.Floor = 0)∧p.states.length ≤ B
  mine:∀ v ∈ log,v.ID.P = (i:Int) → VLe v.ID m.prom
  own:m.cur.ID = m.prom → m.cur.ID.P = (i:Int) → 0 < m.cur.ID.N → ∃ p,m.prop = some p∧p.v = m.cur∧p.done = true
  oth:∀ j,InLog log (m.other j).1∧InLog log (m.other j).2∧(m.other j).2.N ≤ m.high
  jn:(∀ s ∈ m.joined,s.Floor = 0)∧m.joined.length ≤ B
structure FrOk (log:List GView) (n B:Nat) (f:GFrame):Prop where
  frm:0 ≤ f.From∧f.From < (n:Int)
  id:InLog log f.ID
  cur:InLog log f.Cur
  prom:InLog log f.Prom
  prop:f.Kind = 2 → (⟨f.ID,f.Set⟩:GView) ∈ log∧f.From = f.ID.P
  com:f.Kind = 5 → (⟨f.ID,f.Set⟩:GView) ∈ log∧f.From = f.ID.P
  acc:f.Kind = 3 → ∃ st,f.States = [st]
  st:(∀ s ∈ f.States,s.Floor = 0)∧f.States.length ≤ B
  set:f.Set < 65536
end Go.FM

set_option linter.unusedVariables false
set_option linter.unusedSimpArgs false
namespace Go.FM
open Go
theorem NodeOk.mono {log:List GView} {n i B B':Nat} {m:MB} (h:NodeOk log n i B m) (hb:B ≤ B'):NodeOk log n i B' m :=
  ⟨h.n,h.self,h.len,h.cur,h.cp,h.prom,h.high,Nat.le_trans h.highB hb,h.pin,h.pno,h.pd,fun p hp => ⟨(h.pst p hp).1,Nat.le_trans (h.pst p hp).2 hb⟩,h.mine,h.own,h.oth,⟨h.jn.1,Nat.le_trans h.jn.2 hb⟩⟩
theorem FrOk.mono {log log':List GView} {n B B':Nat} {f:GFrame} (h:FrOk log n B f) (hl:∀ v ∈ log,v ∈ log') (hb:B ≤ B'):FrOk log' n B' f :=
  ⟨h.frm,h.id.mono hl,h.cur.mono hl,h.prom.mono hl,fun k => ⟨hl _ (h.prop k).1,(h.prop k).2⟩,fun k => ⟨hl _ (h.com k).1,(h.com k).2⟩,h.acc,⟨h.st.1,Nat.le_trans h.st.2 hb⟩,h.set⟩
theorem LogOk.mono {log:List GView} {n B B':Nat} (h:LogOk n B log) (hb:B ≤ B'):LogOk n B' log:=⟨h.uniq,fun v hv => ⟨(h.pos v hv).1,Nat.le_trans (h.pos v hv).2 hb⟩,h.p,h.set⟩
theorem NodeOk.more {log:List GView} {n i B:Nat} {m:MB} {v:GView} (h:NodeOk log n i B m) (hv:v.ID.P ≠ (i:Int)):NodeOk (v::log) n i B m :=
  have hl:∀ u ∈ log,u ∈ v::log:=fun u hu => List.mem_cons_of_mem _ hu
  ⟨h.n,h.self,h.len,h.cur.imp id (fun k => ⟨hl _ k.1,k.2⟩),h.cp,h.prom.mono hl,h.high,h.highB,fun p hp => ⟨hl _ (h.pin p hp).1,(h.pin p hp).2⟩,h.pno,h.pd,h.pst,
    fun u hu e => by rcases List.mem_cons.1 hu with rfl | hu; exact absurd e hv; exact h.mine u hu e,h.own,fun j => ⟨(h.oth j).1.mono hl,(h.oth j).2.1.mono hl,(h.oth j).2.2⟩,h.jn⟩
structure StepOk (log:List GView) (n i B:Nat) (m m':MB) (f:GFrame) (ol:List GOut) (x:Option GInstall):Prop where
  node:NodeOk log n i B m'
  cur:VLe m.cur.ID m'.cur.ID
  prom:VLe m.prom m'.prom
  oth:∀ j,m'.other j = m.other j ∨ (f.Kind = 1∧f.From = (j:Int)∧m'.other j = (f.Cur,f.Prom))
  outs:∀ o ∈ ol,(0 ≤ o.To∧o.To < (n:Int))∧FrOk log n B o.F∧o.F.From = (i:Int)∧o.F.Kind ≠ 1∧(o.F.Kind = 3 → VLe o.F.ID m'.prom)∧(o.F.Kind = 5 → ∃ p',m'.prop = some p'∧p'.done = true∧o.F.ID = p'.v.ID)∧o.F.Kind ≠ 0
  len:ol.length ≤ n
  und:∀ p',m'.prop = some p' → p'.done = false → (∃ p,m.prop = some p∧p.v = p'.v∧p.done = false) ∨ (f.Kind = 0∧p'.v.ID.N = m.high + 1)
  who:∀ p',m'.prop = some p' → ∀ j:Nat,has p'.who (j:Int) = true → (∃ p,m.prop = some p∧p.v = p'.v∧has p.who (j:Int) = true) ∨ (f.Kind = 3∧f.From = (j:Int)∧f.ID = p'.v.ID) ∨ (j = i∧VLe p'.v.ID m'.prom)
  inst:∀ y,x = some y → y.View = m'.cur∧m'.cur.ID ≠ m.cur.ID∧m'.cur ∈ log∧has m'.cur.Set (i:Int) = true∧m'.cur.ID = m'.prom∧(m'.cur.ID.P ≠ (i:Int) → m'.cur.ID = m.prom∧f.Kind = 5∧f.ID = m'.cur.ID)
  noin:x = none → m'.cur = m.cur
section
variable {log:List GView} {n i B:Nat} {m m':MB} {f:GFrame} {st:GState} {p:GProp} {outs:List GOut} {x:Option GInstall}
theorem NodeOk.hear (h:NodeOk log n i B m) {v:GViewID} (hv:v.N ≤ B):NodeOk log n i B (m.hear v) :=
  ⟨h.n,h.self,h.len,h.cur,h.cp,h.prom,Nat.le_trans h.high (Nat.le_max_left _ _),Nat.max_le.2 ⟨h.highB,hv⟩,h.pin,h.pno,h.pd,h.pst,h.mine,h.own,fun j => ⟨(h.oth j).1,(h.oth j).2.1,Nat.le_trans (h.oth j).2.2 (Nat.le_max_left _ _)⟩,h.jn⟩
theorem StepOk.same (h:NodeOk log n i B m):StepOk log n i B m m f [] none :=
  ⟨h,VLe.refl _,VLe.refl _,fun j => .inl rfl,fun o ho => absurd ho List.not_mem_nil,Nat.zero_le _,fun p' hp hd => .inl ⟨p',hp,rfl,hd⟩,fun p' hp j hj => .inl ⟨p',hp,rfl,hj⟩,fun y hy => (by cases hy),fun _ => rfl⟩
theorem StepOk.of (hn:NodeOk log n i B m') (h1:m'.cur = m.cur) (h2:VLe m.prom m'.prom) (h3:m'.others = m.others) (h4:m'.prop = m.prop ∨ m'.prop = none)
    (ho:∀ o ∈ outs,(0 ≤ o.To∧o.To < (n:Int))∧FrOk log n B o.F∧o.F.From = (i:Int)∧o.F.Kind ≠ 1∧(o.F.Kind = 3 → VLe o.F.ID m'.prom)∧(o.F.Kind = 5 → ∃ p',m'.prop = some p'∧p'.done = true∧o.F.ID = p'.v.ID)∧o.F.Kind ≠ 0) (hl:outs.length ≤ n):StepOk log n i B m m' f outs none :=
  have hp:∀ p',m'.prop = some p' → m.prop = some p':=fun p' hp => by
    rcases h4 with h4 | h4
    · rw [← h4]; exact hp
    · rw [h4] at hp; cases hp
  ⟨hn,VLe.of_eq (by rw [h1]),h2,fun j => .inl (by unfold MB.other; rw [h3]),ho,hl,fun p' hq hd => .inl ⟨p',hp p' hq,rfl,hd⟩,fun p' hq j hj => .inl ⟨p',hp p' hq,rfl,hj⟩,fun y hy => (by cases hy),fun _ => h1⟩
theorem other_set {k:Nat} {c:GViewID × GViewID} (hk:k < m.others.length) (j:Nat):MB.other { m with others:=m.others.set k c } j = if j = k then c else m.other j:=by
  unfold MB.other
  show (m.others.set k c).getD j (z0,z0) = _
  rw [List.getD_eq_getElem?_getD,List.getElem?_set,List.getD_eq_getElem?_getD]
  by_cases e:k = j
  · subst e; rw [if_pos rfl,if_pos hk,if_pos rfl]; rfl
  · rw [if_neg e,if_neg (fun h => e h.symm)]
theorem step_beat (h:NodeOk log n i B m) (hl:LogOk n B log) (hn:n ≤ 16) (hf:FrOk log n B f) (hk:f.Kind = 1):StepOk log n i B m (({ m with others:=m.others.set f.From.toNat (f.Cur,f.Prom) }.hear f.Cur).hear f.Prom) f [] none:=by
  have hF:=hf.frm
  have hlen:=h.len
  have ho:∀ j,(({ m with others:=m.others.set f.From.toNat (f.Cur,f.Prom) }.hear f.Cur).hear f.Prom).other j = if j = f.From.toNat then (f.Cur,f.Prom) else m.other j:=fun j => other_set (m:=m) (by omega) j
  have hc:=hl.idN hf.cur
  have hp:=hl.idN hf.prom
  have hB:=h.highB
  have hm1:=h.high
  refine ⟨⟨h.n,h.self,by show (m.others.set _ _).length = 16; rw [List.length_set]; exact hlen,h.cur,h.cp,h.prom,?_,?_,h.pin,h.pno,h.pd,h.pst,h.mine,h.own,fun j => ?_,h.jn⟩,VLe.refl _,VLe.refl _,fun j => ?_,fun o ho => absurd ho List.not_mem_nil,Nat.zero_le _,fun p' hp hd => .inl ⟨p',hp,rfl,hd⟩,fun p' hp j hj => .inl ⟨p',hp,rfl,hj⟩,fun y hy => (by cases hy),fun _ => rfl⟩
  · show m.prom.N ≤ max (max m.high f.Cur.N) f.Prom.N; omega
  · show max (max m.high f.Cur.N) f.Prom.N ≤ B; omega
  · rw [ho]
    split
    · exact ⟨hf.cur,hf.prom,by show f.Prom.N ≤ max (max m.high f.Cur.N) f.Prom.N; omega⟩
    · have:=h.oth j
      exact ⟨this.1,this.2.1,by show (m.other j).2.N ≤ max (max m.high f.Cur.N) f.Prom.N; omega⟩
  · rw [ho]
    by_cases e:j = f.From.toNat
    · rw [if_pos e]; exact .inr ⟨hk,by omega,rfl⟩
    · rw [if_neg e]; exact .inl rfl
theorem frAccept_ok (h:NodeOk log n i B m) (hi:i < n) (hf:FrOk log n B f) (hB:1 ≤ B) (hs:st.Floor = 0):FrOk log n B (frAccept m.self f.ID st) :=
  ⟨by show (0:Int) ≤ (m.self:Int)∧(m.self:Int) < n; rw [h.self]; omega,hf.id,.inl rfl,.inl rfl,fun k => absurd k (by show (3:Nat) ≠ 2; decide),fun k => absurd k (by show (3:Nat) ≠ 5; decide),fun _ => ⟨st,rfl⟩,⟨fun s hs' => by rw [List.mem_singleton.1 hs']; exact hs,hB⟩,by show (0:Nat) < 65536; decide⟩
theorem step_propose (h:NodeOk log n i B m) (hl:LogOk n B log) (hi:i < n) (hn:n ≤ 16) (hf:FrOk log n B f) (hk:f.Kind = 2) (hne:f.From ≠ (m.self:Int)) (hB:1 ≤ B) (hs:st.Floor = 0) :
    StepOk log n i B m (m.propose f st).1 f (m.propose f st).2.1 (m.propose f st).2.2.1:=by
  have hF:=hf.frm
  have hN:=hl.idN hf.id
  have hself:=h.self
  unfold MB.propose
  split
  · exact StepOk.same h
  split
  · rename_i h1 h2
    have hab:=VLe.of_not (above_iff.1 h2)
    have hP:=(hf.prop hk).2
    refine StepOk.of ⟨h.n,h.self,h.len,h.cur,h.cp.trans hab,hf.id,Nat.le_max_right _ _,Nat.max_le.2 ⟨h.highB,hN⟩,h.pin,h.pno,h.pd,h.pst,fun v hv e => (h.mine v hv e).trans hab,fun e1 e2 _ => ?_,fun j => ⟨(h.oth j).1,(h.oth j).2.1,Nat.le_trans (h.oth j).2.2 (Nat.le_max_left _ _)⟩,h.jn⟩ rfl hab rfl (.inl rfl) ?_ (by show 1 ≤ n; omega)
    · have e1:m.cur.ID = f.ID:=e1
      have e2:m.cur.ID.P = (i:Int):=e2
      rw [e1] at e2; exact absurd (hP.trans e2) (by rw [← hself]; exact hne)
    · intro o ho
      rw [List.mem_singleton.1 ho]
      exact ⟨hF,frAccept_ok h hi hf hB hs,by show (m.self:Int) = i; rw [hself],by show (3:Nat) ≠ 1; decide,fun _ => VLe.refl _,fun k => absurd k (by show (3:Nat) ≠ 5; decide),by show (3:Nat) ≠ 0; decide⟩
  split
  · refine StepOk.of (h.hear hN) rfl (VLe.refl _) rfl (.inl rfl) ?_ (by show 1 ≤ n; omega)
    intro o ho
    rw [List.mem_singleton.1 ho]
    refine ⟨hF,⟨by show (0:Int) ≤ (m.self:Int)∧(m.self:Int) < n; omega,hf.id,.inl rfl,h.prom,fun k => absurd k (by show (4:Nat) ≠ 2; decide),fun k => absurd k (by show (4:Nat) ≠ 5; decide),fun k => absurd k (by show (4:Nat) ≠ 3; decide),⟨fun s hs => absurd hs List.not_mem_nil,Nat.zero_le _⟩,by show (0:Nat) < 65536; decide⟩,by show (m.self:Int) = i; rw [hself],by show (4:Nat) ≠ 1; decide,fun k => absurd k (by show (4:Nat) ≠ 3; decide),fun k => absurd k (by show (4:Nat) ≠ 5; decide),by show (4:Nat) ≠ 0; decide⟩
  · rename_i h1 h2 h3
    refine StepOk.of (h.hear hN) rfl (VLe.refl _) rfl (.inl rfl) ?_ (by show 1 ≤ n; omega)
    intro o ho
    rw [List.mem_singleton.1 ho]
    exact ⟨hF,frAccept_ok h hi hf hB hs,by show (m.self:Int) = i; rw [hself],by show (3:Nat) ≠ 1; decide,fun _ => VLe.of_eq (Classical.not_not.1 (fun k => h3 (.inl k))),fun k => absurd k (by show (3:Nat) ≠ 5; decide),by show (3:Nat) ≠ 0; decide⟩
theorem has_wth {s z:Nat} (hz:z < 16) (j:Nat):has (wth s (z:Int)) (j:Int) = true ↔ has s (j:Int) = true ∨ j = z:=by
  unfold has
  rw [decide_eq_true_iff,decide_eq_true_iff,Int.toNat_natCast]
  have:=wth_bit (a:=s) (z:=z) (j:=j) hz
  constructor
  · rintro ⟨h1,h2,h3⟩
    rcases this.1 h3 with h | h
    · exact .inl ⟨h1,h2,h⟩
    · exact .inr h
  · rintro (⟨h1,h2,h3⟩ | h)
    · exact ⟨h1,h2,this.2 (.inl h3)⟩
    · exact ⟨by omega,by omega,this.2 (.inr h)⟩
theorem lt_pow_bits {a n:Nat} (h:a < 2 ^ n) {j:Nat} (hj:n ≤ j):¬ a / 2 ^ j % 2 = 1:=by
  rw [← testBit_iff,Nat.testBit_lt_two_pow (Nat.lt_of_lt_of_le h (Nat.pow_le_pow_right (by decide) hj))]; decide
theorem has_lt {a n j:Nat} (h:a < 2 ^ n) (hj:has a (j:Int) = true):j < n:=by
  rcases Nat.lt_or_ge j n with h1 | h1
  · exact h1
  · have:=of_decide_eq_true hj
    rw [Int.toNat_natCast] at this
    exact absurd this.2.2 (lt_pow_bits h h1)
theorem wth_pow {a n z:Nat} (h:a < 2 ^ n) (hz:z < n):wth a (z:Int) < 2 ^ n:=by
  unfold wth
  split
  · exact Nat.or_lt_two_pow h (by rw [Int.toNat_natCast]; exact Nat.pow_lt_pow_right (by decide) hz)
  · exact h
theorem has_wto {s z j:Nat} (hz:z < 16) (hs:s < 65536) (h:has (wto s (z:Int)) (j:Int) = true):has s (j:Int) = true∧j ≠ z:=by
  have h1:=of_decide_eq_true h
  rw [Int.toNat_natCast] at h1
  have:=(wto_bit (a:=s) (z:=z) (j:=j) hz (by omega) hs).1 h1.2.2
  exact ⟨decide_eq_true (by rw [Int.toNat_natCast]; exact ⟨h1.1,h1.2.1,this.1⟩),this.2⟩
theorem lst_len {s n:Nat} (h:s < 2 ^ n):(lst s).length ≤ n:=by rw [lst_length]; exact pc_lt 16 n s h
theorem wto_pow {a n:Nat} {z:Int} (ha:a < 65536) (h:a < 2 ^ n):wto a z < 2 ^ n:=by
  unfold wto
  split
  · exact Nat.lt_of_le_of_lt Nat.and_le_left h
  · exact h
theorem commit_ok {j:Nat} (h:NodeOk log n i B m) (hi:i < n) (hv:p.v ∈ log) (hP:p.v.ID.P = (i:Int)) (hset:p.v.Set < 65536):FrOk log n B (m.commit p j).F :=
  ⟨by show (0:Int) ≤ (m.self:Int)∧(m.self:Int) < n; rw [h.self]; omega,.inr ⟨p.v,hv,rfl⟩,.inl rfl,.inl rfl,fun k => absurd k (by show (5:Nat) ≠ 2; decide),fun _ => ⟨hv,by show (m.self:Int) = p.v.ID.P; rw [h.self,hP]⟩,fun k => absurd k (by show (5:Nat) ≠ 3; decide),h.jn,hset⟩
theorem pow16 {n:Nat} (hn:n ≤ 16) {a:Nat} (h:a < 2 ^ n):a < 65536:=Nat.lt_of_lt_of_le h (by have:2 ^ n ≤ 2 ^ 16:=Nat.pow_le_pow_right (by decide) hn; simpa using this)
theorem step_accept (h:NodeOk log n i B m) (hl:LogOk n B log) (hi:i < n) (hn:n ≤ 16) (hf:FrOk log n B f) (hk:f.Kind = 3) :
    StepOk log n i (B + 1) m (m.accept f).1 f (m.accept f).2.1 (m.accept f).2.2.1:=by
  have hF:=hf.frm
  have hself:=h.self
  have hB:=Nat.le_succ B
  unfold MB.accept
  cases hp:m.prop with
  | none => exact StepOk.same (h.mono hB)
  | some p =>
    simp only []
    split
    · rename_i hok
      obtain ⟨⟨⟨⟨⟨hd,hid⟩,hpr⟩,hset⟩,hnw⟩,hlen⟩:((((p.done = false∧p.v.ID = f.ID)∧m.prom = f.ID)∧has p.v.Set f.From = true)∧has p.who f.From = false)∧f.States.length = 1:=by
        unfold MB.acceptOk at hok
        simpa [Bool.and_eq_true,and_assoc] using hok
      obtain ⟨hpin,hpP⟩:=h.pin p hp
      obtain ⟨hp1,hp2,hp3,hp4⟩:=h.pno p hp hd
      obtain ⟨hs1,hs2⟩:=h.pst p hp
      obtain ⟨z,hz⟩:∃ z:Nat,f.From = (z:Int):=⟨f.From.toNat,by omega⟩
      have hzn:z < n:=by omega
      have hnown:¬ (m.cur.ID = m.prom):=fun e => hp1 (e.trans (hpr.trans hid.symm))
      have hst1:∀ s ∈ p.states ++ f.States,s.Floor = 0:=fun s hs => by
        rcases List.mem_append.1 hs with h1 | h1
        · exact hs1 s h1
        · exact hf.st.1 s h1
      have hst2:(p.states ++ f.States).length ≤ B + 1:=by rw [List.length_append,hlen]; omega
      have hset16:=pow16 hn (hl.set _ hpin).2.1
      have hwho:∀ j:Nat,has (wth p.who f.From) (j:Int) = true → has p.who (j:Int) = true ∨ f.From = (j:Int):=fun j hj => by
        rw [hz] at hj
        rcases (has_wth (by omega) j).1 hj with h1 | h1
        · exact .inl h1
        · exact .inr (by omega)
      unfold MB.agree
      by_cases hw:wth p.who f.From ≠ p.v.Set
      · rw [if_pos hw]
        refine ⟨⟨h.n,h.self,h.len,h.cur,h.cp,h.prom,h.high,Nat.le_trans h.highB hB,?_,?_,fun q hq hd2 => ?_,?_,h.mine,fun e _ _ => absurd e hnown,h.oth,⟨h.jn.1,Nat.le_trans h.jn.2 hB⟩⟩,VLe.refl _,VLe.refl _,fun j => .inl rfl,fun o ho => absurd ho List.not_mem_nil,Nat.zero_le _,fun q hq _ => ?_,?_,fun y hy => (by cases hy),fun _ => rfl⟩
        · intro q hq; cases hq; exact ⟨hpin,hpP⟩
        · intro q hq _; cases hq
          exact ⟨hp1,hw,by rw [hz]; exact wth_pow hp3 hzn,by rw [hz]; exact (has_wth (by omega) i).2 (.inl hp4)⟩
        · cases hq
          have hd2:p.done = true:=hd2
          rw [hd] at hd2; cases hd2
        · intro q hq; cases hq; exact ⟨hst1,hst2⟩
        · cases hq; exact .inl ⟨p,hp,rfl,hd⟩
        · intro q hq j hj; cases hq
          rcases hwho j hj with h1 | h1
          · exact .inl ⟨p,hp,rfl,h1⟩
          · exact .inr (.inl ⟨hk,h1,hid.symm⟩)
      · rw [if_neg hw]
        have hcu:(p.v:GView) = ⟨z0,0⟩ ∨ p.v ∈ log∧has p.v.Set (i:Int) = true:=.inr ⟨hpin,by rw [← hpP]; exact (hl.set _ hpin).1⟩
        have hno:NodeOk log n i (B + 1) { m with prop:=some { p with who:=wth p.who f.From,done:=true,states:=[] },joined:=joinS (p.states ++ f.States),cur:=p.v }:=by
          refine ⟨h.n,h.self,h.len,hcu,VLe.of_eq (hid.trans hpr.symm),h.prom,h.high,Nat.le_trans h.highB hB,?_,?_,fun q hq _ => ?_,?_,h.mine,fun _ _ _ => ⟨_,rfl,rfl,rfl⟩,h.oth,⟨fun s hs => hst1 s (joinS_sub hs),Nat.le_trans (joinTo_length _ _) hst2⟩⟩
          · intro q hq; cases hq; exact ⟨hpin,hpP⟩
          · intro q hq hd2; cases hq; cases hd2
          · cases hq; exact Classical.not_not.1 hw
          · intro q hq; cases hq; exact ⟨fun s hs => absurd hs List.not_mem_nil,Nat.zero_le _⟩
        refine ⟨hno,by show VLe m.cur.ID p.v.ID; rw [hid,← hpr]; exact h.cp,VLe.refl _,fun j => .inl rfl,?_,?_,fun q hq hd2 => ?_,?_,?_,fun e => (by cases e)⟩
        · intro o ho
          obtain ⟨z',hz',rfl⟩:=List.mem_map.1 ho
          have h9:=has_wto (by rw [hself]; omega) hset16 (has_lst.1 hz')
          have h10:=has_lt (hl.set _ hpin).2.1 h9.1
          exact ⟨by show (0:Int) ≤ (z':Int)∧(z':Int) < n; omega,commit_ok hno hi hpin hpP hset16,by show (m.self:Int) = i; rw [hself],by show (5:Nat) ≠ 1; decide,fun k => absurd k (by show (5:Nat) ≠ 3; decide),fun _ => ⟨_,rfl,rfl,rfl⟩,by show (5:Nat) ≠ 0; decide⟩
        · rw [List.length_map]; exact lst_len (wto_pow hset16 (hl.set _ hpin).2.1)
        · cases hq; cases hd2
        · intro q hq j hj; cases hq
          rcases hwho j hj with h1 | h1
          · exact .inl ⟨p,hp,rfl,h1⟩
          · exact .inr (.inl ⟨hk,h1,hid.symm⟩)
        · intro y hy; cases hy
          exact ⟨rfl,fun e => hp1 e.symm,hpin,by rw [← hpP]; exact (hl.set _ hpin).1,hid.trans hpr.symm,fun k => absurd hpP k⟩
    · exact StepOk.same (h.mono hB)
theorem step_refuse (h:NodeOk log n i B m) (hl:LogOk n B log) (hf:FrOk log n B f) :
    StepOk log n i B m (match m.prop with | none => m.hear f.Prom | some p => if p.v.ID = f.ID∧p.done = false∧aboveV f.Prom f.ID = true then { m.hear f.Prom with prop:=none } else m.hear f.Prom) f [] none:=by
  have hN:=hl.idN hf.prom
  have h2:=h.hear hN
  have hs:StepOk log n i B m (m.hear f.Prom) f [] none:=StepOk.of h2 rfl (VLe.refl _) rfl (.inl rfl) (fun o ho => absurd ho List.not_mem_nil) (Nat.zero_le _)
  cases hp:m.prop with
  | none => exact hs
  | some p =>
    simp only []
    split
    · rename_i hc
      refine StepOk.of ⟨h2.n,h2.self,h2.len,h2.cur,h2.cp,h2.prom,h2.high,h2.highB,fun q hq => (by cases hq),fun q hq => (by cases hq),fun q hq => (by cases hq),fun q hq => (by cases hq),h2.mine,fun e1 e2 e3 => ?_,h2.oth,h2.jn⟩ rfl (VLe.refl _) rfl (.inr rfl) (fun o ho => absurd ho List.not_mem_nil) (Nat.zero_le _)
      obtain ⟨q,hq,_,hd⟩:=h.own e1 e2 e3
      rw [hp] at hq; cases hq
      rw [hc.2.1] at hd; cases hd
    · exact hs
theorem step_commit (h:NodeOk log n i B m) (hl:LogOk n B log) (hi:i < n) (hf:FrOk log n B f) (hk:f.Kind = 5) (hne:f.From ≠ (m.self:Int)) (hc:¬ (f.ID ≠ m.prom ∨ m.cur.ID = f.ID ∨ has f.Set m.self = false ∨ f.ID.P ≠ f.From)) :
    StepOk log n i B m { m with cur:=⟨f.ID,f.Set⟩ } f [] (some ⟨⟨f.ID,f.Set⟩,f.States⟩):=by
  have hself:=h.self
  have h1:f.ID = m.prom:=Classical.not_not.1 fun k => hc (.inl k)
  have h2:m.cur.ID ≠ f.ID:=fun k => hc (.inr (.inl k))
  have h3:has f.Set (i:Int) = true:=by
    rw [← hself]
    cases e:has f.Set m.self with
    | true => rfl
    | false => exact absurd (.inr (.inr (.inl e))) hc
  have h4:f.ID.P = f.From:=Classical.not_not.1 fun k => hc (.inr (.inr (.inr k)))
  have h5:f.ID.P ≠ (i:Int):=by rw [h4,← hself]; exact hne
  refine ⟨⟨h.n,h.self,h.len,.inr ⟨(hf.com hk).1,h3⟩,VLe.of_eq h1,h.prom,h.high,h.highB,h.pin,fun p hp hd => ⟨fun e => ?_,(h.pno p hp hd).2⟩,h.pd,h.pst,h.mine,fun _ e _ => absurd e h5,h.oth,h.jn⟩,by show VLe m.cur.ID f.ID; rw [h1]; exact h.cp,VLe.refl _,fun j => .inl rfl,fun o ho => absurd ho List.not_mem_nil,Nat.zero_le _,fun p' hp hd => .inl ⟨p',hp,rfl,hd⟩,fun p' hp j hj => .inl ⟨p',hp,rfl,hj⟩,fun y hy => ?_,fun e => (by cases e)⟩
  · have e:f.ID = p.v.ID:=e
    exact h5 (by rw [e]; exact (h.pin p hp).2)
  · cases hy
    exact ⟨rfl,fun e => h2 e.symm,(hf.com hk).1,h3,h1,fun _ => ⟨h1,hk,rfl⟩⟩
theorem StepOk.mono (h:StepOk log n i B m m' f outs x) {B':Nat} (hb:B ≤ B'):StepOk log n i B' m m' f outs x :=
  ⟨h.node.mono hb,h.cur,h.prom,h.oth,fun o ho => ⟨(h.outs o ho).1,(h.outs o ho).2.1.mono (fun _ hv => hv) hb,(h.outs o ho).2.2⟩,h.len,h.und,h.who,h.inst,h.noin⟩
theorem inn_step (h:NodeOk log n i B m) (hl:LogOk n B log) (hi:i < n) (hn:n ≤ 16) (hf:FrOk log n B f) (hB:1 ≤ B) (hs:st.Floor = 0) :
    StepOk log n i (B + 1) m (m.inn f st).1 f (m.inn f st).2.1 (m.inn f st).2.2.1:=by
  have hB1:=Nat.le_succ B
  unfold MB.inn
  by_cases h0:f.From < 0 ∨ (m.n:Int) ≤ f.From ∨ f.From = (m.self:Int)
  · rw [if_pos h0]; exact StepOk.same (h.mono hB1)
  rw [if_neg h0]
  have hne:f.From ≠ (m.self:Int):=fun e => h0 (.inr (.inr e))
  by_cases h1:f.Kind = 1
  · rw [if_pos h1]; exact (step_beat h hl hn hf h1).mono hB1
  rw [if_neg h1]
  by_cases h2:f.Kind = 2
  · rw [if_pos h2]; exact (step_propose h hl hi hn hf h2 hne hB hs).mono hB1
  rw [if_neg h2]
  by_cases h3:f.Kind = 3
  · rw [if_pos h3]; exact step_accept h hl hi hn hf h3
  rw [if_neg h3]
  by_cases h4:f.Kind = 4
  · rw [if_pos h4]
    have hr:=(step_refuse h hl hf).mono hB1
    cases hp:m.prop with
    | none => rw [hp] at hr; exact hr
    | some p =>
      rw [hp] at hr
      simp only [] at hr ⊢
      split
      · rename_i hc; rw [if_pos hc] at hr; exact hr
      · rename_i hc; rw [if_neg hc] at hr; exact hr
  rw [if_neg h4]
  by_cases h5:f.Kind = 5
  · rw [if_pos h5]
    split
    · exact StepOk.same (h.mono hB1)
    · rename_i hc; exact (step_commit h hl hi hf h5 hne hc).mono hB1
  rw [if_neg h5]; exact StepOk.same (h.mono hB1)
end
end Go.FM
