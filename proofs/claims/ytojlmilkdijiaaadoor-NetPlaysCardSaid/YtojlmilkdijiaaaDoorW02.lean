/- Steps of the proofs over the functions of this seat, printed by a program (gen.py) and checked by Lean. -/
import Derived.Test.YtojlmilkdijiaaaDoorW01
import Derived.Test.YtojlmilkdijiaaaDoorW00
set_option linter.unusedVariables false
set_option linter.unusedSimpArgs false
namespace Go.FM
theorem has_bit {s:Nat} {j:Int} (h0:0 ≤ j) (h1:j < 16):has s j = true ↔ s / 2 ^ j.toNat % 2 = 1:=by
  unfold has; rw [decide_eq_true_iff]; exact ⟨fun h => h.2.2,fun h => ⟨h0,h1,h⟩⟩
theorem has_wth {s:Nat} {i j:Int} (hi:0 ≤ i) (hi2:i < 16) (h0:0 ≤ j) (h1:j < 16):has (wth s i) j = (has s j || decide (j = i)):=by
  obtain ⟨z,rfl⟩:=Int.eq_ofNat_of_zero_le hi
  rw [Bool.eq_iff_iff,has_bit h0 h1,wth_bit (by omega),Bool.or_eq_true,has_bit h0 h1,decide_eq_true_iff]
  constructor
  · rintro (h | h)
    · exact .inl h
    · exact .inr (by omega)
  · rintro (h | h)
    · exact .inl h
    · exact .inr (by omega)
theorem has_wto {s:Nat} {i j:Int} (hs:s < 65536) (hi:0 ≤ i) (hi2:i < 16) (h0:0 ≤ j) (h1:j < 16):has (wto s i) j = (has s j && !decide (j = i)):=by
  obtain ⟨z,rfl⟩:=Int.eq_ofNat_of_zero_le hi
  rw [Bool.eq_iff_iff,has_bit h0 h1,wto_bit (by omega) (by omega) hs,Bool.and_eq_true,has_bit h0 h1,Bool.not_eq_true',decide_eq_false_iff_not]
  constructor
  · rintro ⟨h,h2⟩; exact ⟨h,by omega⟩
  · rintro ⟨h,h2⟩; exact ⟨h,by omega⟩
theorem has_all {k:Nat} {j:Int} (hk:k ≤ 16) (h0:0 ≤ j) (h1:j < k):has (2 ^ k - 1) j = true:=by
  rw [has_bit h0 (by omega)]
  obtain ⟨m,rfl⟩:=Int.eq_ofNat_of_zero_le h0
  have hm:m < k:=by omega
  have:=Nat.testBit_two_pow_sub_one k m
  rw [Nat.testBit,Nat.shiftRight_eq_div_pow] at this
  simp [hm] at this
  simpa using this
theorem getD_set (l:List Nat) (i j x:Nat):(l.set i x).getD j 0 = if i = j∧i < l.length then x else l.getD j 0:=by
  rw [List.getD_eq_getElem?_getD,List.getD_eq_getElem?_getD,List.getElem?_set]
  by_cases h:i = j
  · subst h
    by_cases h2:i < l.length
    · simp [h2]
    · simp [h2]
  · simp [h]
section
variable {s:NetS} {a b x y:Int}
theorem setH_get (f:Nat → Int → Nat) (hl:s.hr.length = 16) (hn:s.n ≤ 16) (he:s.setE a b = true) (hx:s.isIn x = true):(NetS.setH f s a b).hr.getD x.toNat 0 = if x = b then f (s.hr.getD b.toNat 0) a else if x = a then f (s.hr.getD a.toNat 0) b else s.hr.getD x.toNat 0:=by
  have h1:=isIn_t hx
  unfold NetS.setE at he
  simp only [Bool.and_eq_true,decide_eq_true_eq] at he
  obtain ⟨⟨ha,hb⟩,hab⟩:=he
  have ha:=isIn_t ha
  have hb:=isIn_t hb
  have he:s.setE a b = true:=setE_t (decide_eq_true ha) (decide_eq_true hb) hab
  unfold NetS.setH
  rw [if_pos he]
  simp only []
  rw [getD_set,getD_set,List.length_set,hl]
  by_cases hxb:x = b
  · rw [if_pos ⟨by omega,by omega⟩,if_pos hxb]
  · rw [if_neg (by omega),if_neg hxb]
    by_cases hxa:x = a
    · rw [if_pos ⟨by omega,by omega⟩,if_pos hxa]
    · rw [if_neg (by omega),if_neg hxa]
theorem setH_len (f:Nat → Int → Nat) (h:s.hr.length = 16):(NetS.setH f s a b).hr.length = 16:=by
  unfold NetS.setH; split
  · simp [h]
  · exact h
theorem setH_isIn (f:Nat → Int → Nat):(NetS.setH f s a b).isIn x = s.isIn x:=by unfold NetS.isIn; rw [setH_n]
theorem hears_cut (hl:s.hr.length = 16) (hb:∀ z ∈ s.hr,z < 65536) (hn:s.n ≤ 16) (hx:s.isIn x = true) (hy:s.isIn y = true) :
    (NetS.setH wto s a b).hears x y = (s.hears x y && !(s.setE a b && (decide (x = a∧y = b) || decide (x = b∧y = a)))):=by
  cases he:s.setE a b with
  | false =>
    have:NetS.setH wto s a b = s:=if_neg (by rw [he]; decide)
    rw [this]; simp
  | true =>
    have h1:=isIn_t hx
    have h2:=isIn_t hy
    have he':=he
    unfold NetS.setE at he'
    simp only [Bool.and_eq_true,decide_eq_true_eq] at he'
    obtain ⟨⟨ha,hb'⟩,hab⟩:=he'
    have ha:=isIn_t ha
    have hb':=isIn_t hb'
    unfold NetS.hears
    rw [setH_isIn,hx,setH_get wto hl hn he hx]
    simp only [Bool.true_and]
    by_cases hxb:x = b
    · subst hxb
      rw [if_pos rfl,has_wto (getD_hb hb _) (by omega) (by omega) (by omega) (by omega)]
      have:¬ x = a:=fun h => hab h.symm
      simp [this]
    · rw [if_neg hxb]
      by_cases hxa:x = a
      · subst hxa
        rw [if_pos rfl,has_wto (getD_hb hb _) (by omega) (by omega) (by omega) (by omega)]
        simp [hxb]
      · rw [if_neg hxa]; simp [hxa,hxb]
theorem hears_join (hl:s.hr.length = 16) (hb:∀ z ∈ s.hr,z < 65536) (hn:s.n ≤ 16) (hx:s.isIn x = true) (hy:s.isIn y = true) :
    (NetS.setH wth s a b).hears x y = (s.hears x y || (s.setE a b && (decide (x = a∧y = b) || decide (x = b∧y = a)))):=by
  cases he:s.setE a b with
  | false =>
    have:NetS.setH wth s a b = s:=if_neg (by rw [he]; decide)
    rw [this]; simp
  | true =>
    have h1:=isIn_t hx
    have h2:=isIn_t hy
    have he':=he
    unfold NetS.setE at he'
    simp only [Bool.and_eq_true,decide_eq_true_eq] at he'
    obtain ⟨⟨ha,hb'⟩,hab⟩:=he'
    have ha:=isIn_t ha
    have hb':=isIn_t hb'
    unfold NetS.hears
    rw [setH_isIn,hx,setH_get wth hl hn he hx]
    simp only [Bool.true_and]
    by_cases hxb:x = b
    · subst hxb
      rw [if_pos rfl,has_wth (by omega) (by omega) (by omega) (by omega)]
      have:¬ x = a:=fun h => hab h.symm
      simp [this]
    · rw [if_neg hxb]
      by_cases hxa:x = a
      · subst hxa
        rw [if_pos rfl,has_wth (by omega) (by omega) (by omega) (by omega)]
        simp [hxb]
      · rw [if_neg hxa]; simp [hxa,hxb]
theorem setH_hb {f:Nat → Int → Nat} (hf:∀ (x:Nat) (y:Int),x < 65536 → f x y < 65536) (hb:∀ z ∈ s.hr,z < 65536):∀ z ∈ (NetS.setH f s a b).hr,z < 65536:=by
  unfold NetS.setH; split
  · exact set_hb (set_hb hb (hf _ _ (getD_hb hb _))) (hf _ _ (getD_hb hb _))
  · exact hb
theorem hears_new {n:Int} (h1:1 ≤ n) (h2:n ≤ 16) (hx:0 ≤ x∧x < n) (hy:0 ≤ y∧y < n):(netNew n).hears x y = true:=by
  unfold NetS.hears
  rw [show (netNew n).isIn x = true from decide_eq_true hx,Bool.true_and]
  have:(netNew n).hr.getD x.toNat 0 = 2 ^ n.toNat - 1:=by
    show (List.replicate n.toNat (2 ^ n.toNat - 1) ++ List.replicate (16 - n.toNat) 0).getD x.toNat 0 = _
    rw [List.getD_eq_getElem?_getD,List.getElem?_append_left (by simp; omega),List.getElem?_replicate,if_pos (by omega)]
    rfl
  rw [this]
  exact has_all (by omega) hy.1 (by omega)
end
end Go.FM

set_option linter.unusedVariables false
set_option linter.unusedSimpArgs false
namespace Go.FM
structure CutsAt (s:NetS) (K:Int) (ps:List Pk) (l:Int) (deaf:Bool):Prop where
  n:s.n = K
  k2:2 ≤ K
  k16:K ≤ 16
  hl:s.hr.length = 16
  hb:∀ z ∈ s.hr,z < 65536
  ps:s.ps = ps
  lost:s.lost = l
  far:s.hears (K - 1) 0 = !deaf
  near:s.hears 0 0 = true
section
variable {s:NetS} {K l a b k:Int} {ps:List Pk} {d:Bool} {v:Value} {bs:List Nat}
theorem CutsAt.inn (h:CutsAt s K ps l d) (h0:0 ≤ a) (h1:a < K):s.isIn a = true:=decide_eq_true ⟨h0,by rw [h.n]; exact h1⟩
theorem CutsAt.new (h2:2 ≤ K) (h16:K ≤ 16):CutsAt (netNew K) K [] 0 false :=
  ⟨rfl,h2,h16,netNew_len (by omega) h16,netNew_hb h16,rfl,rfl,hears_new (by omega) h16 (by omega) (by omega),hears_new (by omega) h16 (by omega) (by omega)⟩
theorem CutsAt.putE (h:CutsAt s K ps l d) (ha:0 ≤ a∧a < K) (hb:0 ≤ b∧b < K) (hp:ps.length < 4096):s.putE a b = 0 :=
  putE_ok (h.inn ha.1 ha.2) (h.inn hb.1 hb.2) (by rw [h.ps]; omega)
theorem CutsAt.put (h:CutsAt s K ps l d) (ha:0 ≤ a∧a < K) (hb:0 ≤ b∧b < K) (hp:ps.length < 4096):CutsAt (s.putS a b bs k v) K (ps ++ [⟨a,b,v,bs⟩]) l d:=by
  rw [← putS_ok (h.inn ha.1 ha.2) (h.inn hb.1 hb.2) (by rw [h.ps]; omega)]
  exact ⟨h.n,h.k2,h.k16,h.hl,h.hb,by show s.ps ++ _ = _; rw [h.ps],h.lost,h.far,h.near⟩
theorem CutsAt.setE2 (h:CutsAt s K ps l d):s.setE (K - 1) 0 = true:=setE_t (h.inn (by have:=h.k2; omega) (by omega)) (h.inn (by decide) (by have:=h.k2; omega)) (by have:=h.k2; omega)
theorem CutsAt.set {f:Nat → Int → Nat} (h:CutsAt s K ps l d) {d':Bool} (hf:∀ (x:Nat) (y:Int),x < 65536 → f x y < 65536) (h1:(NetS.setH f s a b).hears (K - 1) 0 = !d') (h2:(NetS.setH f s a b).hears 0 0 = true):CutsAt (NetS.setH f s a b) K ps l d' :=
  ⟨by rw [setH_n]; exact h.n,h.k2,h.k16,setH_len f h.hl,setH_hb hf h.hb,by unfold NetS.setH; split <;> exact h.ps,by unfold NetS.setH; split <;> exact h.lost,h1,h2⟩
theorem CutsAt.join (h:CutsAt s K ps l d):CutsAt (NetS.setH wth s (K - 1) 0) K ps l false:=by
  have h2:=h.k2
  refine h.set (fun x y hx => wth_lt hx y) ?_ ?_
  · rw [hears_join h.hl h.hb (by rw [h.n]; exact h.k16) (h.inn (by omega) (by omega)) (h.inn (by decide) (by omega)),h.setE2]; simp
  · rw [hears_join h.hl h.hb (by rw [h.n]; exact h.k16) (h.inn (by decide) (by omega)) (h.inn (by decide) (by omega)),h.near]; rfl
theorem CutsAt.peek {q:Pk} {rest:List Pk} (h:CutsAt s K (q::rest) l d):s.peekP 0 = ⟨q.From,q.To,q.bs⟩:=peek_at (by decide) (by rw [h.ps]; rfl)
theorem CutsAt.take {q:Pk} {rest:List Pk} (h:CutsAt s K (q::rest) l d) (hh:s.hears q.From q.To = true):s.takeE 0 = 0∧s.takeP 0 = ⟨q.From,q.To,q.bs⟩∧CutsAt (s.takeS 0) K rest l d:=by
  have h0:(0:Int) ≤ 0∧(0:Int) < s.ps.length:=by rw [h.ps]; simp
  have:=take_yes h0 (by rw [h.peek]; exact hh)
  refine ⟨this.1,by rw [this.2.1,h.peek],?_⟩
  rw [← this.2.2]
  exact ⟨h.n,h.k2,h.k16,h.hl,h.hb,by show s.ps.eraseIdx 0 = rest; rw [h.ps]; rfl,h.lost,h.far,h.near⟩
end
end Go.FM

set_option linter.unusedVariables false
set_option linter.unusedSimpArgs false
namespace Go.FM
open Go
theorem kPk_any {H H':Hp} {xs:List Pk} {cs:List Value} (h:kPk.toKn.rows H xs cs):kPk.toKn.rows H' xs cs:=h
theorem kI_any {H H':Hp} {xs:List Int} {cs:List Value} (h:kI.toKn.rows H xs cs):kI.toKn.rows H' xs cs:=h
theorem pk_rows_set {H:Hp} {ps:List Pk} {cs:List Value} {i:Nat} {p q:Pk} (h:kPk.toKn.rows H ps cs) (hp:ps[i]? = some p) (h1:q.From = p.From) (h2:q.To = p.To) (h3:q.v = p.v) (h4:q.bs.length = p.bs.length) (h5:Small q.bs):kPk.toKn.rows H (ps.set i q) cs:=by
  refine ⟨by rw [List.length_set]; exact h.1,fun j x hx => ?_⟩
  rw [List.getElem?_set] at hx
  by_cases hij:i = j
  · subst hij
    rw [if_pos rfl] at hx
    split at hx
    · injection hx with hx
      subst hx
      obtain ⟨c,⟨e1,e2,e3,e4,e5,e6⟩,e7⟩:=h.2 i p hp
      refine ⟨c,⟨by rw [h1,h2,h3]; exact e1,by rw [h1]; exact e2,by rw [h2]; exact e3,?_,h5,by rw [h4]; exact e6⟩,e7⟩
      rw [h3]
      exact ⟨by simp,by rw [h4]; exact e4.2.1,by rw [h4]; exact e4.2.2⟩
    · cases hx
  · rw [if_neg hij] at hx
    exact h.2 j x hx
def NetS.doubleE (s:NetS) (i:Int):Int:=if 0 ≤ i∧i < s.ps.length then s.putE (s.peekP i).From (s.peekP i).To else 1
def NetS.doubleS (s:NetS) (i:Int) (v:Value):NetS:=if 0 ≤ i∧i < s.ps.length then s.putS (s.peekP i).From (s.peekP i).To (s.peekP i).Bytes (s.bi.getD i.toNat 0) v else s
theorem double_no {s:NetS} {i:Int} {v:Value} (h:¬ (0 ≤ i∧i < s.ps.length)):s.doubleE i = 1∧s = s.doubleS i v:=⟨if_neg h,(if_neg h).symm⟩
theorem double_yes {s:NetS} {i:Int} {v:Value} (h:0 ≤ i∧i < s.ps.length):s.doubleE i = s.putE (s.peekP i).From (s.peekP i).To∧s.doubleS i v = s.putS (s.peekP i).From (s.peekP i).To (s.peekP i).Bytes (s.bi.getD i.toNat 0) v:=⟨if_pos h,if_pos h⟩
end Go.FM
namespace Go.FM
def turnB (bs:List Nat) (k:Int):List Nat:=bs.set (k.toNat / 8) (bs.getD (k.toNat / 8) 0 ^^^ (1 * 2 ^ (k.toNat % 8) % 256))
def NetS.turnOk (s:NetS) (i k:Int):Prop:=(0 ≤ i∧i < s.ps.length)∧(0 ≤ k∧k < 8 * ((s.peekP i).Bytes.length:Int))
instance (s:NetS) (i k:Int):Decidable (s.turnOk i k):=by unfold NetS.turnOk; exact inferInstance
def NetS.turnE (s:NetS) (i k:Int):Int:=if s.turnOk i k then (if 2 ≤ s.bi.getD i.toNat 0 then 8 else 0) else 1
def NetS.turnS (s:NetS) (i k:Int):NetS:=if s.turnOk i k∧¬ 2 ≤ s.bi.getD i.toNat 0 then (match s.ps[i.toNat]? with | some p => NetS.mk s.n s.hr (s.ps.set i.toNat ⟨p.From,p.To,p.v,turnB p.bs k⟩) (s.bi.set i.toNat (s.bi.getD i.toNat 0 + 1)) s.lost | none => s) else s
section
variable {s:NetS} {i k:Int} {p:Pk}
theorem turnNo (h:¬ s.turnOk i k):s.turnE i k = 1∧s = s.turnS i k:=⟨if_neg h,(if_neg (fun h1 => h h1.1)).symm⟩
theorem turnFull (h:s.turnOk i k) (h2:2 ≤ s.bi.getD i.toNat 0):s.turnE i k = 8∧s = s.turnS i k:=⟨by unfold NetS.turnE; rw [if_pos h,if_pos h2],(if_neg (fun h1 => h1.2 h2)).symm⟩
theorem turnOk1 (h:s.turnOk i k) (h2:¬ 2 ≤ s.bi.getD i.toNat 0) (hp:s.ps[i.toNat]? = some p):s.turnE i k = 0∧NetS.mk s.n s.hr (s.ps.set i.toNat ⟨p.From,p.To,p.v,turnB p.bs k⟩) (s.bi.set i.toNat (s.bi.getD i.toNat 0 + 1)) s.lost = s.turnS i k :=
  ⟨by unfold NetS.turnE; rw [if_pos h,if_neg h2],by unfold NetS.turnS; rw [if_pos ⟨h,h2⟩,hp]⟩
end
end Go.FM

set_option linter.unusedVariables false
set_option linter.unusedSimpArgs false
namespace Go.FM
open Go
structure TurnsAt (s:NetS) (want:List Nat) (k:Int) (m:Nat):Prop where
  n:s.n = 2
  len:s.ps.length = m + 1
  bl:s.bi.length = m + 1
  last:∃ v,s.ps[m]? = some ⟨0,1,v,want⟩
  bit:s.bi.getD m 0 = k
  lost:s.lost = 0
section
variable {s:NetS} {want:List Nat} {k i:Int} {m j:Nat}
theorem TurnsAt.inn (h:TurnsAt s want k m) (hi:i = (m:Int)):0 ≤ i∧i < s.ps.length:=by have:=h.len; omega
theorem TurnsAt.peek (h:TurnsAt s want k m) (hi:i = (m:Int)):s.peekP i = ⟨0,1,want⟩:=by
  obtain ⟨v,hv⟩:=h.last
  exact peek_at (p:=⟨0,1,v,want⟩) (by omega) (by rw [hi,Int.toNat_natCast]; exact hv)
theorem TurnsAt.look (h:TurnsAt s want k m) (hi:i = (m:Int)):s.lookE i = 0:=lookE_0 (h.inn hi)
theorem TurnsAt.ok (h:TurnsAt s want k m) (hi:i = (m:Int)) (hj:j < 8 * want.length):s.turnOk i (j:Int):=⟨h.inn hi,by rw [h.peek hi]; show (0:Int) ≤ (j:Int)∧(j:Int) < 8 * (want.length:Int); omega⟩
theorem TurnsAt.turn (h:TurnsAt s want k m) (hi:i = (m:Int)) (hj:j < 8 * want.length) (hk:k < 2):s.turnE i (j:Int) = 0∧TurnsAt (s.turnS i (j:Int)) (turnB want (j:Int)) (k + 1) m:=by
  obtain ⟨v,hv⟩:=h.last
  have hb:s.bi.getD i.toNat 0 = k:=by rw [hi,Int.toNat_natCast]; exact h.bit
  have:=turnOk1 (p:=⟨0,1,v,want⟩) (h.ok hi hj) (by rw [hb]; omega) (by rw [hi,Int.toNat_natCast]; exact hv)
  refine ⟨this.1,?_⟩
  rw [← this.2,hb,hi,Int.toNat_natCast]
  have h1:=h.len
  have h2:=h.bl
  refine ⟨h.n,by show (s.ps.set m _).length = _; rw [List.length_set]; exact h1,by show (s.bi.set m _).length = _; rw [List.length_set]; exact h2,⟨v,by show (s.ps.set m _)[m]? = _; rw [List.getElem?_set,if_pos rfl,if_pos (by omega)]⟩,?_,h.lost⟩
  show (s.bi.set m (k + 1)).getD m 0 = k + 1
  rw [List.getD_eq_getElem?_getD,List.getElem?_set,if_pos rfl,if_pos (by omega)]; rfl
theorem TurnsAt.double (h:TurnsAt s want k m) (hi:i = (m:Int)) (hm:m + 1 < 4096):s.doubleE i = 0∧∀ v,TurnsAt (s.doubleS i v) want k (m + 1):=by
  have hin:∀ z:Int,0 ≤ z → z < 2 → s.isIn z = true:=fun z h0 h1 => decide_eq_true ⟨h0,by rw [h.n]; exact h1⟩
  have hb:s.bi.getD i.toNat 0 = k:=by rw [hi,Int.toNat_natCast]; exact h.bit
  have h1:=h.len
  have h2:=h.bl
  have hE:=putE_ok (s:=s) (a:=0) (b:=1) (hin 0 (by decide) (by decide)) (hin 1 (by decide) (by decide)) (by omega)
  refine ⟨by rw [(double_yes (v:=.slice none 0 0) (h.inn hi)).1,h.peek hi]; exact hE,fun v => ?_⟩
  rw [(double_yes (v:=v) (h.inn hi)).2,h.peek hi,hb,← putS_ok (hin 0 (by decide) (by decide)) (hin 1 (by decide) (by decide)) (by omega)]
  refine ⟨h.n,by simp [h1],by simp [h2],⟨v,?_⟩,?_,h.lost⟩
  · show (s.ps ++ [_])[m + 1]? = _
    rw [List.getElem?_append_right (by omega),h1]; simp
  · show (s.bi ++ [k]).getD (m + 1) 0 = k
    rw [List.getD_eq_getElem?_getD,List.getElem?_append_right (by omega),h2]; simp
theorem TurnsAt.new (p:List Nat) (v:Value):(netNew 2).putE 0 1 = 0∧TurnsAt ((netNew 2).putS 0 1 p 0 v) p 0 0:=by
  have hin:∀ z:Int,0 ≤ z → z < 2 → (netNew 2).isIn z = true:=fun z h0 h1 => decide_eq_true ⟨h0,h1⟩
  refine ⟨putE_ok (hin 0 (by decide) (by decide)) (hin 1 (by decide) (by decide)) (by decide),?_⟩
  rw [← putS_ok (hin 0 (by decide) (by decide)) (hin 1 (by decide) (by decide)) (by decide)]
  exact ⟨rfl,rfl,rfl,⟨v,rfl⟩,rfl,rfl⟩
end
structure FullAt (s:NetS) (p:List Nat) (m:Nat) (l:Int):Prop where
  n:s.n = 2
  hr:s.hr = (netNew 2).hr
  len:s.ps.length = m
  bl:s.bi.length = m
  all:∀ q ∈ s.ps,q.From = 1∧q.To = 0∧q.bs = p
  lost:s.lost = l
section
variable {s:NetS} {p:List Nat} {m:Nat} {l i:Int}
theorem FullAt.new (p:List Nat):FullAt (netNew 2) p 0 0:=⟨rfl,rfl,rfl,rfl,fun q hq => absurd hq List.not_mem_nil,rfl⟩
theorem FullAt.inn (h:FullAt s p m l) (h0:0 ≤ i) (h1:i < 2):s.isIn i = true:=decide_eq_true ⟨h0,by rw [h.n]; exact h1⟩
theorem FullAt.putE (h:FullAt s p m l) (hm:m < 4096):s.putE 1 0 = 0:=putE_ok (h.inn (by decide) (by decide)) (h.inn (by decide) (by decide)) (by rw [h.len]; omega)
theorem FullAt.put (h:FullAt s p m l) (hm:m < 4096) (k:Int) (v:Value):FullAt (s.putS 1 0 p k v) p (m + 1) l:=by
  rw [← putS_ok (h.inn (by decide) (by decide)) (h.inn (by decide) (by decide)) (by rw [h.len]; omega)]
  refine ⟨h.n,h.hr,by simp [h.len],by simp [h.bl],fun q hq => ?_,h.lost⟩
  rcases List.mem_append.1 hq with hq | hq
  · exact h.all q hq
  · rw [List.mem_singleton.1 hq]; exact ⟨rfl,rfl,rfl⟩
theorem FullAt.at_ (h:FullAt s p m l) (h0:0 ≤ i) (h1:i < m):(0 ≤ i∧i < s.ps.length)∧s.peekP i = ⟨1,0,p⟩:=by
  have hlt:i.toNat < s.ps.length:=by rw [h.len]; omega
  have hq:=h.all _ (List.getElem_mem hlt)
  refine ⟨by rw [h.len]; omega,?_⟩
  rw [peek_at h0 (List.getElem?_eq_getElem hlt),hq.1,hq.2.1,hq.2.2]
theorem FullAt.double (h:FullAt s p m l) (hm:m < 4096) (h0:0 ≤ i) (h1:i < m):s.doubleE i = 0∧∀ v,FullAt (s.doubleS i v) p (m + 1) l:=by
  obtain ⟨hin,hp⟩:=h.at_ h0 h1
  refine ⟨by rw [(double_yes (v:=.slice none 0 0) hin).1,hp]; exact h.putE hm,fun v => ?_⟩
  rw [(double_yes (v:=v) hin).2,hp]; exact h.put hm _ _
theorem FullAt.hears (h:FullAt s p m l):s.hears 1 0 = true:=by
  have:s.hears 1 0 = (netNew 2).hears 1 0:=by unfold NetS.hears NetS.isIn; rw [h.n,h.hr]; rfl
  rw [this]; exact hears_new (by decide) (by decide) (by decide) (by decide)
theorem FullAt.take (h:FullAt s p (m + 1) l) (h0:0 ≤ i) (h1:i < ((m + 1:Nat):Int)):s.takeE i = 0∧s.takeP i = ⟨1,0,p⟩∧FullAt (s.takeS i) p m l:=by
  obtain ⟨hin,hp⟩:=h.at_ h0 h1
  have ht:=take_yes hin (by rw [hp]; exact h.hears)
  refine ⟨ht.1,by rw [ht.2.1,hp],?_⟩
  rw [← ht.2.2]
  refine ⟨h.n,h.hr,?_,?_,fun q hq => h.all q (List.mem_of_mem_eraseIdx hq),h.lost⟩
  · show (s.ps.eraseIdx i.toNat).length = m
    rw [List.length_eraseIdx_of_lt (by rw [h.len]; omega),h.len]; omega
  · show (s.bi.eraseIdx i.toNat).length = m
    rw [List.length_eraseIdx_of_lt (by rw [h.bl]; omega),h.bl]; omega
end
end Go.FM

set_option linter.unusedVariables false
set_option linter.unusedSimpArgs false
namespace Go.FM
open Go
section
variable {H:Hp} {w w':World} {L L':List Res} {e size n:Nat} {v:Value} {xs:List Value}
theorem St.lendRow (h:St H w (row e size v n xs::L)) (ok:RowOk size v n xs):∃ H' A c,H.le H'∧St H' w L∧v = .slice A n c∧n ≤ c∧c ≤ maxLen∧Rd H' A xs∧∀ {w' L'},St H' w' L' → St H w' (row e size v n xs::L'):=by
  rcases ok.2.2 with ⟨rfl,rfl⟩ | ⟨g,cap,rfl,hc⟩
  · have hx:xs = []:=List.eq_nil_of_length_eq_zero (by simpa using ok.1)
    subst hx
    exact ⟨H,none,0,Hp.le.refl H,h.drop,rfl,Nat.le_refl _,Nat.zero_le _,.inl rfl,fun h' => h'.rowNil e size⟩
  · obtain ⟨o,ho,h1,h2⟩:=h.freeze (g:=g) rfl
    have ho':=ho
    obtain ⟨g',cap',cur,e1,rfl,_,hcm,_,h4⟩:=ho
    have hcm':cap ≤ maxLen:=by injection e1 with _ _ e1; omega
    refine ⟨_,_,cap,H.le_add g _ h1,h2,rfl,hc,hcm',.inr ⟨g,0,cur,e,(0,0),rfl,Hp.add_at H g _,fun j u hu => ?_⟩,fun {w' L'} h' => ?_⟩
    · rw [← h4,List.getElem?_take] at hu
      split at hu
      · simpa using hu
      · cases hu
    · have h3:=St.weaken (H.le_add g _ h1) h'
      refine ⟨h3.os,h3.out,h3.tape,h3.fz,fun r hr g2 hk => ?_,List.pairwise_cons.2 ⟨fun s hs g2 hk hk2 => ?_,h3.sep⟩⟩
      · rcases List.mem_cons.1 hr with rfl | hr
        · have hk:some g = some g2:=hk
          injection hk with hk
          subst hk
          exact ⟨h1,_,h'.fz g _ (Hp.add_at H g _),ho'⟩
        · exact h3.own r hr g2 hk
      · have hk:some g = some g2:=hk
        injection hk with hk
        subst hk
        have:=(h'.own s hs g hk2).1
        rw [Hp.add_at] at this
        cases this
theorem St.lendBs {bs:List Nat} (h:St H w (row e 1 v n (bs.map encB)::L)) (ok:RowOk 1 v n (bs.map encB)) (hs:Small bs) (hn:n ≤ 140737488351232):∃ H' A c,H.le H'∧St H' w L∧v = .slice A n c∧By H' A n c bs∧∀ {w' L'},St H' w' L' → St H w' (row e 1 v n (bs.map encB)::L'):=by
  obtain ⟨H',A,c,h1,h2,h3,h4,h4',h5,h6⟩:=h.lendRow ok
  have hl:bs.length = n:=by have:=ok.1; simpa using this
  refine ⟨H',A,c,h1,h2,h3,⟨⟨h5,hl,h4,h4',hs⟩,hn⟩,h6⟩
theorem NetOk.any {H H':Hp} {s:NetS} {vb:Value} {cb:List Value} {vt:Value} {ct:List Value} (h:NetOk H s vb cb vt ct):NetOk H' s vb cb vt ct :=
  ⟨h.n1,h.n16,h.hl,h.hb,h.okb,kPk_any h.hkb,h.okt,kI_any h.hkt,h.len,h.max,h.l0⟩
end
def enP (q:Pk):Int × Int × List Nat:=(q.From,q.To,q.bs)
def en01 (b:List Nat):Int × Int × List Nat:=(0,1,b)
structure TwoAt (s:NetS) (l:List (List Nat)) (k:List Int):Prop where
  n:s.n = 2
  hr:s.hr = (netNew 2).hr
  ps:s.ps.map enP = l.map en01
  bi:s.bi = k
  kl:k.length = l.length
  lost:s.lost = 0
section
variable {s:NetS} {l:List (List Nat)} {k:List Int} {i:Int} {b:List Nat} {m j:Nat}
theorem TwoAt.new:TwoAt (netNew 2) [] []:=⟨rfl,rfl,rfl,rfl,rfl,rfl⟩
theorem TwoAt.len (h:TwoAt s l k):s.ps.length = l.length:=by have:=congrArg List.length h.ps; simpa using this
theorem TwoAt.inn (h:TwoAt s l k) (h0:0 ≤ i) (h1:i < 2):s.isIn i = true:=decide_eq_true ⟨h0,by rw [h.n]; exact h1⟩
theorem TwoAt.putE (h:TwoAt s l k) (hl:l.length < 4096):s.putE 0 1 = 0:=putE_ok (h.inn (by decide) (by decide)) (h.inn (by decide) (by decide)) (by rw [h.len]; omega)
theorem TwoAt.put (h:TwoAt s l k) (hl:l.length < 4096) (b:List Nat) (z:Int) (v:Value):TwoAt (s.putS 0 1 b z v) (l ++ [b]) (k ++ [z]):=by
  rw [← putS_ok (h.inn (by decide) (by decide)) (h.inn (by decide) (by decide)) (by rw [h.len]; omega)]
  refine ⟨h.n,h.hr,?_,?_,by simp [h.kl],h.lost⟩
  · show (s.ps ++ [_]).map enP = _
    rw [List.map_append,List.map_append,h.ps]; rfl
  · show s.bi ++ [z] = _
    rw [h.bi]
theorem TwoAt.get (h:TwoAt s l k) (hb:l[m]? = some b):∃ v,s.ps[m]? = some ⟨0,1,v,b⟩:=by
  have h1:(s.ps.map enP)[m]? = some (0,1,b):=by rw [h.ps,List.getElem?_map,hb]; rfl
  rw [List.getElem?_map] at h1
  cases hq:s.ps[m]? with
  | none => rw [hq] at h1; cases h1
  | some q =>
    rw [hq] at h1
    obtain ⟨f,t,v,bs⟩:=q
    have h2:(f,t,bs) = ((0:Int),(1:Int),b):=Option.some.inj h1
    injection h2 with h3 h4
    injection h4 with h4 h5
    subst h3 h4 h5
    exact ⟨v,rfl⟩
theorem TwoAt.at_ (h:TwoAt s l k) (hi:i = (m:Int)) (hb:l[m]? = some b):(0 ≤ i∧i < s.ps.length)∧s.peekP i = ⟨0,1,b⟩:=by
  obtain ⟨v,hv⟩:=h.get hb
  have:=(List.getElem?_eq_some_iff.1 hv).1
  exact ⟨by omega,peek_at (p:=⟨0,1,v,b⟩) (by omega) (by rw [hi,Int.toNat_natCast]; exact hv)⟩
theorem TwoAt.look (h:TwoAt s l k) (hi:i = (m:Int)) (hb:l[m]? = some b):s.lookE i = 0:=lookE_0 (h.at_ hi hb).1
theorem TwoAt.double (h:TwoAt s l k) (hl:l.length < 4096) (hi:i = (m:Int)) (hb:l[m]? = some b):s.doubleE i = 0∧∀ v,TwoAt (s.doubleS i v) (l ++ [b]) (k ++ [k.getD m 0]):=by
  obtain ⟨hin,hp⟩:=h.at_ hi hb
  refine ⟨by rw [(double_yes (v:=.slice none 0 0) hin).1,hp]; exact h.putE hl,fun v => ?_⟩
  rw [(double_yes (v:=v) hin).2,hp,hi,Int.toNat_natCast,h.bi]; exact h.put hl _ _ _
theorem TwoAt.turn (h:TwoAt s l k) (hi:i = (m:Int)) (hb:l[m]? = some b) (hj:j < 8 * b.length) (hk:k.getD m 0 < 2):s.turnE i (j:Int) = 0∧TwoAt (s.turnS i (j:Int)) (l.set m (turnB b (j:Int))) (k.set m (k.getD m 0 + 1)):=by
  obtain ⟨v,hv⟩:=h.get hb
  obtain ⟨hin,hp⟩:=h.at_ hi hb
  have hok:s.turnOk i (j:Int):=⟨hin,by rw [hp]; show (0:Int) ≤ (j:Int)∧(j:Int) < 8 * (b.length:Int); omega⟩
  have hbi:s.bi.getD i.toNat 0 = k.getD m 0:=by rw [hi,Int.toNat_natCast,h.bi]
  have:=turnOk1 (p:=⟨0,1,v,b⟩) hok (by rw [hbi]; omega) (by rw [hi,Int.toNat_natCast]; exact hv)
  refine ⟨this.1,?_⟩
  rw [← this.2,hbi,hi,Int.toNat_natCast]
  refine ⟨h.n,h.hr,?_,?_,by simp [h.kl],h.lost⟩
  · show (s.ps.set m _).map enP = _
    rw [List.map_set,List.map_set,h.ps]; rfl
  · show s.bi.set m _ = _
    rw [h.bi]
theorem TwoAt.hears (h:TwoAt s l k):s.hears 0 1 = true:=by
  have:s.hears 0 1 = (netNew 2).hears 0 1:=by unfold NetS.hears NetS.isIn; rw [h.n,h.hr]; rfl
  rw [this]; exact hears_new (by decide) (by decide) (by decide) (by decide)
theorem map_eraseIdx' {α β:Type} (f:α → β) (l:List α) (m:Nat):(l.eraseIdx m).map f = (l.map f).eraseIdx m:=by
  rw [List.eraseIdx_eq_take_drop_succ,List.eraseIdx_eq_take_drop_succ,List.map_append,List.map_take,List.map_drop]
theorem TwoAt.take (h:TwoAt s l k) (hi:i = (m:Int)) (hb:l[m]? = some b):s.takeE i = 0∧s.takeP i = ⟨0,1,b⟩∧TwoAt (s.takeS i) (l.eraseIdx m) (k.eraseIdx m):=by
  obtain ⟨hin,hp⟩:=h.at_ hi hb
  have ht:=take_yes hin (by rw [hp]; exact h.hears)
  refine ⟨ht.1,by rw [ht.2.1,hp],?_⟩
  rw [← ht.2.2,hi,Int.toNat_natCast]
  have hm:=(List.getElem?_eq_some_iff.1 hb).1
  refine ⟨h.n,h.hr,?_,?_,?_,h.lost⟩
  · show (s.ps.eraseIdx m).map enP = _
    rw [map_eraseIdx',map_eraseIdx',h.ps]
  · show s.bi.eraseIdx m = _
    rw [h.bi]
  · rw [List.length_eraseIdx_of_lt (by rw [h.kl]; omega),List.length_eraseIdx_of_lt hm,h.kl]
end
structure PicksAt (J:List Nat) (seen:List Bool) (n i:Nat):Prop where
  len:J.length = n - i
  nod:J.Nodup
  lt:∀ z ∈ J,z < n
  new:∀ z ∈ J,seen.getD z false = false
  sl:seen.length = n
section
variable {J:List Nat} {seen:List Bool} {n i m z:Nat}
theorem PicksAt.next (h:PicksAt J seen n i) (hz:J[m]? = some z):PicksAt (J.eraseIdx m) (seen.set z true) n (i + 1):=by
  have hm:=(List.getElem?_eq_some_iff.1 hz)
  obtain ⟨hm,rfl⟩:=hm
  refine ⟨by rw [List.length_eraseIdx_of_lt hm,h.len]; omega,h.nod.sublist (List.eraseIdx_sublist ..),fun z hz => h.lt z (List.mem_of_mem_eraseIdx hz),fun z hz => ?_,by rw [List.length_set]; exact h.sl⟩
  have hne:J[m] ≠ z:=by
    intro e
    subst e
    obtain ⟨q,hq,hqe⟩:=List.mem_eraseIdx_iff_getElem.1 hz
    exact hqe.1 ((List.getElem?_inj hq h.nod).1 (by rw [List.getElem?_eq_getElem hq,List.getElem?_eq_getElem hm,hqe.2]))
  rw [List.getD_eq_getElem?_getD,List.getElem?_set,if_neg hne,← List.getD_eq_getElem?_getD]
  exact h.new z (List.mem_of_mem_eraseIdx hz)
end
end Go.FM

set_option linter.unusedVariables false
set_option linter.unusedSimpArgs false
namespace Go.FM
open Go
structure RS where
  n:Int
  df:List Bool
  ps:List Pk
  bi:List Int
  lost:Int
def rCells (n:Int) (vb vt:Value) (df:List Bool) (lost:Int):List Value:=.int .i64 n::vb::vt::(df.map Value.bool ++ [.int .i64 lost])
structure RSOk (H:Hp) (s:RS) (vb:Value) (cb:List Value) (vt:Value) (ct:List Value):Prop where
  n1:1 ≤ s.n
  n16:s.n ≤ 16
  dl:s.df.length = 256
  okb:RowOk 3 vb s.ps.length cb
  hkb:kPk.toKn.rows H s.ps cb
  okt:RowOk 1 vt s.bi.length ct
  hkt:kI.toKn.rows H s.bi ct
  len:s.bi.length = s.ps.length
  max:s.ps.length ≤ 4096
  l0:0 ≤ s.lost
  pin:∀ p ∈ s.ps,(0 ≤ p.From∧p.From < s.n)∧(0 ≤ p.To∧p.To < s.n)
theorem RSOk.any {H H':Hp} {s:RS} {vb:Value} {cb:List Value} {vt:Value} {ct:List Value} (h:RSOk H s vb cb vt ct):RSOk H' s vb cb vt ct :=
  ⟨h.n1,h.n16,h.dl,h.okb,kPk_any h.hkb,h.okt,kI_any h.hkt,h.len,h.max,h.l0,h.pin⟩
section
variable {n lost:Int} {vb vt:Value} {df:List Bool} {i:Nat} {x:Bool}
theorem rn_df (hl:df.length = 256) (hi:i < 256):(rCells n vb vt df lost)[3 + i]? = some (.bool (df.getD i false)):=by
  unfold rCells
  rw [show 3 + i = i + 1 + 1 + 1 by omega]
  simp only [List.getElem?_cons_succ]
  rw [List.getElem?_append_left (by simp; omega),List.getElem?_map,List.getD_eq_getElem?_getD,List.getElem?_eq_getElem (by omega)]
  rfl
theorem rn_lost (hl:df.length = 256):(rCells n vb vt df lost)[259]? = some (.int .i64 lost):=by
  unfold rCells
  simp only [List.getElem?_cons_succ]
  rw [List.getElem?_append_right (by simp; omega)]
  simp [hl]
theorem rn_len (hl:df.length = 256):(rCells n vb vt df lost).length = 260:=by simp [rCells,hl]
theorem rn_setD (hl:df.length = 256) (hi:i < 256):splice (rCells n vb vt df lost) (3 + i) [.bool x] = rCells n vb vt (df.set i x) lost:=by
  apply List.ext_getElem?
  intro j
  rw [splice_get (by rw [rn_len hl]; simp; omega)]
  by_cases h1:j < 3
  · rw [if_neg (by omega)]
    match j,h1 with
    | 0,_ => rfl
    | 1,_ => rfl
    | 2,_ => rfl
  · obtain ⟨k,rfl⟩:∃ k,j = k + 1 + 1 + 1:=⟨j - 3,by omega⟩
    unfold rCells
    simp only [List.getElem?_cons_succ,List.length_singleton]
    by_cases h2:k < 256
    · rw [List.getElem?_append_left (by simp; omega),List.getElem?_append_left (by simp; omega),List.getElem?_map,List.getElem?_map,List.getElem?_set]
      by_cases h3:i = k
      · subst h3
        rw [if_pos (by omega),if_pos rfl,if_pos (by omega),show i + 1 + 1 + 1 - (3 + i) = 0 by omega]; rfl
      · rw [if_neg (by omega),if_neg h3]
    · rw [if_neg (by omega),List.getElem?_append_right (by simp; omega),List.getElem?_append_right (by simp; omega)]
      simp
theorem rn_setL (hl:df.length = 256) (y:Int):splice (rCells n vb vt df lost) 259 [.int .i64 y] = rCells n vb vt df y:=by
  apply List.ext_getElem?
  intro j
  rw [splice_get (by rw [rn_len hl]; simp)]
  by_cases h1:j < 3
  · rw [if_neg (by omega)]
    match j,h1 with
    | 0,_ => rfl
    | 1,_ => rfl
    | 2,_ => rfl
  · obtain ⟨k,rfl⟩:∃ k,j = k + 1 + 1 + 1:=⟨j - 3,by omega⟩
    unfold rCells
    simp only [List.getElem?_cons_succ,List.length_singleton]
    by_cases h2:k < 256
    · rw [if_neg (by omega),List.getElem?_append_left (by simp; omega),List.getElem?_append_left (by simp; omega)]
    · by_cases h3:k = 256
      · subst h3
        rw [if_pos (by omega),List.getElem?_append_right (by simp; omega)]
        simp [hl]
      · rw [if_neg (by omega),List.getElem?_eq_none (by simp; omega),List.getElem?_eq_none (by simp; omega)]
end
def RS.isIn (s:RS) (i:Int):Bool:=decide (0 ≤ i∧i < s.n)
def RS.deaf (s:RS) (a b:Int):Bool:=s.df.getD (a.toNat * 16 + b.toNat) false
def RS.hears (s:RS) (a b:Int):Bool:=s.isIn a && s.isIn b && !s.deaf a b
def RS.setE (s:RS) (a b:Int):Bool:=s.isIn a && s.isIn b && decide (a ≠ b)
def RS.setD (s:RS) (a b:Int) (d:Bool):RS:=if s.setE a b = true then RS.mk s.n ((s.df.set (a.toNat * 16 + b.toNat) d).set (b.toNat * 16 + a.toNat) d) s.ps s.bi s.lost else s
def RS.putE (s:RS) (a b:Int):Int:=if s.isIn a = true∧s.isIn b = true then (if 4096 ≤ s.ps.length then 7 else 0) else 1
def RS.putS (s:RS) (a b:Int) (bs:List Nat) (k:Int) (v:Value):RS :=
  if s.isIn a = true∧s.isIn b = true then (if 4096 ≤ s.ps.length then RS.mk s.n s.df s.ps s.bi (s.lost + 1) else RS.mk s.n s.df (s.ps ++ [⟨a,b,v,bs⟩]) (s.bi ++ [k]) s.lost) else s
def RS.putR (s:RS) (TB:Nat) (a b:Int) (bs:List Nat) (v:Value):List Res:=if s.putE a b = 0 then [row TB 1 v bs.length (bs.map encB)] else []
def RS.outS (s:RS) (m:Nat):RS:=RS.mk s.n s.df (s.ps.eraseIdx m) (s.bi.eraseIdx m) s.lost
def RS.lose (s:RS):RS:=RS.mk s.n s.df s.ps s.bi (s.lost + 1)
def RS.inn (s:RS) (i:Int):Prop:=0 ≤ i∧i < s.ps.length
instance (s:RS) (i:Int):Decidable (s.inn i):=inferInstanceAs (Decidable (_∧_))
def pk0:Pk:=⟨0,0,.slice none 0 0,[]⟩
def RS.at_ (s:RS) (i:Int):Pk:=s.ps.getD i.toNat pk0
def RS.dropS (s:RS) (i:Int):RS:=if s.inn i then (s.outS i.toNat).lose else s
def RS.dropE (s:RS) (i:Int):Int:=if s.inn i then 0 else 1
def RS.takeE (s:RS) (i:Int):Int:=if s.inn i then (if s.deaf (s.at_ i).From (s.at_ i).To = true then 10 else 0) else 1
def RS.takeP (s:RS) (i:Int):Pk:=if s.inn i∧s.deaf (s.at_ i).From (s.at_ i).To = false then s.at_ i else pk0
def RS.takeS (s:RS) (i:Int):RS:=if s.inn i then (if s.deaf (s.at_ i).From (s.at_ i).To = true then (s.outS i.toNat).lose else s.outS i.toNat) else s
def RS.doubleE (s:RS) (i:Int):Int:=if s.inn i then s.putE (s.at_ i).From (s.at_ i).To else 1
def RS.doubleS (s:RS) (i:Int) (v:Value):RS:=if s.inn i then s.putS (s.at_ i).From (s.at_ i).To (s.at_ i).bs (s.bi.getD i.toNat 0) v else s
def RS.turnOk (s:RS) (i k:Int):Prop:=s.inn i∧0 ≤ k∧k < 8 * ((s.at_ i).bs.length:Int)
instance (s:RS) (i k:Int):Decidable (s.turnOk i k):=inferInstanceAs (Decidable (_∧_))
def RS.turnE (s:RS) (i k:Int):Int:=if s.turnOk i k then (if 2 ≤ s.bi.getD i.toNat 0 then 8 else 0) else 1
def Pk.turn (p:Pk) (k:Int):Pk:=⟨p.From,p.To,p.v,turnB p.bs k⟩
def RS.turnS (s:RS) (i k:Int):RS:=if s.turnOk i k∧¬ 2 ≤ s.bi.getD i.toNat 0 then RS.mk s.n s.df (s.ps.set i.toNat ((s.at_ i).turn k)) (s.bi.set i.toNat (s.bi.getD i.toNat 0 + 1)) s.lost else s
def RS.clsTo (s:RS) (i:Int):Nat → Nat
  | 0 => 0
  | k + 1 => s.clsTo i k + (if s.hears i (k:Int) = true then 2 ^ k else 0)
def RS.sameTo (s:RS) (i:Int) (k:Nat):Prop:=∀ q:Nat,q < k → s.hears i (q:Int) = true → ∀ j:Nat,(j:Int) < s.n → s.hears i (j:Int) = s.hears (q:Int) (j:Int)
instance (s:RS) (i:Int) (k:Nat):Decidable (s.sameTo i k):=by
  unfold RS.sameTo
  have:∀ q:Nat,Decidable (s.hears i (q:Int) = true → ∀ j:Nat,(j:Int) < s.n → s.hears i (j:Int) = s.hears (q:Int) (j:Int)):=fun q => by
    have e:(∀ j:Nat,(j:Int) < s.n → s.hears i (j:Int) = s.hears (q:Int) (j:Int)) ↔ ∀ j:Nat,j < s.n.toNat → s.hears i (j:Int) = s.hears (q:Int) (j:Int):=⟨fun h j hj => h j (by omega),fun h j hj => h j (by omega)⟩
    have:Decidable (∀ j:Nat,(j:Int) < s.n → s.hears i (j:Int) = s.hears (q:Int) (j:Int)):=decidable_of_iff _ e.symm
    exact inferInstance
  exact inferInstance
def RS.cls (s:RS) (i:Int):Nat:=if s.isIn i = true then (if s.sameTo i s.n.toNat then s.clsTo i s.n.toNat else 0) else 0
section
variable {s:RS} {a b i k:Int} {bs:List Nat} {v:Value} {d:Bool} {p:Pk} {m q j:Nat} {TB:Nat}
theorem rIn_t (h:s.isIn i = true):0 ≤ i∧i < s.n:=of_decide_eq_true h
theorem rhears_no1 (h:s.isIn a = false):s.hears a b = false:=by unfold RS.hears; rw [h]; rfl
theorem rhears_no2 (h:s.isIn b = false):s.hears a b = false:=by unfold RS.hears; rw [h]; simp
theorem rhears_is (h1:s.isIn a = true) (h2:s.isIn b = true):s.hears a b = !s.deaf a b:=by unfold RS.hears; rw [h1,h2]; rfl
theorem rsetE_f (h:s.isIn a = false ∨ s.isIn b = false ∨ a = b):s.setE a b = false:=by
  unfold RS.setE
  rcases h with h | h | h
  · rw [h]; rfl
  · rw [h]; simp
  · subst h; simp
theorem rsetE_t (h1:s.isIn a = true) (h2:s.isIn b = true) (h3:¬ a = b):s.setE a b = true:=by unfold RS.setE; rw [h1,h2]; simp [h3]
theorem rset_no (h:s.setE a b = false):s.setD a b d = s:=if_neg (by rw [h]; decide)
theorem rset_yes (h:s.setE a b = true):s.setD a b d = RS.mk s.n ((s.df.set (a.toNat * 16 + b.toNat) d).set (b.toNat * 16 + a.toNat) d) s.ps s.bi s.lost:=if_pos h
theorem rput_no (h:s.isIn a = false ∨ s.isIn b = false):s.putE a b = 1∧s.putS a b bs k v = s∧s.putR TB a b bs v = []:=by
  have e:¬ (s.isIn a = true∧s.isIn b = true):=by rcases h with h | h <;> simp [h]
  have e1:s.putE a b = 1:=if_neg e
  exact ⟨e1,if_neg e,if_neg (by rw [e1]; decide)⟩
theorem rput_full (h1:s.isIn a = true) (h2:s.isIn b = true) (h:4096 ≤ s.ps.length):s.putE a b = 7∧s.putS a b bs k v = RS.mk s.n s.df s.ps s.bi (s.lost + 1)∧s.putR TB a b bs v = []:=by
  have e1:s.putE a b = 7:=by unfold RS.putE; rw [if_pos ⟨h1,h2⟩,if_pos h]
  exact ⟨e1,by unfold RS.putS; rw [if_pos ⟨h1,h2⟩,if_pos h],if_neg (by rw [e1]; decide)⟩
theorem rput_ok (h1:s.isIn a = true) (h2:s.isIn b = true) (h:¬ 4096 ≤ s.ps.length):s.putE a b = 0∧s.putS a b bs k v = RS.mk s.n s.df (s.ps ++ [⟨a,b,v,bs⟩]) (s.bi ++ [k]) s.lost∧s.putR TB a b bs v = [row TB 1 v bs.length (bs.map encB)]:=by
  have e1:s.putE a b = 0:=by unfold RS.putE; rw [if_pos ⟨h1,h2⟩,if_neg h]
  exact ⟨e1,by unfold RS.putS; rw [if_pos ⟨h1,h2⟩,if_neg h],if_pos e1⟩
theorem rat_is (h:s.ps[i.toNat]? = some p):s.at_ i = p:=by unfold RS.at_; rw [List.getD_eq_getElem?_getD,h]; rfl
theorem rdrop_no (h:¬ s.inn i):s.dropE i = 1∧s.dropS i = s:=⟨if_neg h,if_neg h⟩
theorem rdrop_yes (h:s.inn i):s.dropE i = 0∧s.dropS i = (s.outS i.toNat).lose:=⟨if_pos h,if_pos h⟩
theorem rtake_no (h:¬ s.inn i):s.takeE i = 1∧s.takeP i = pk0∧s.takeS i = s:=⟨if_neg h,if_neg fun h2 => h h2.1,if_neg h⟩
theorem rtake_deaf (h:s.inn i) (hd:s.deaf (s.at_ i).From (s.at_ i).To = true):s.takeE i = 10∧s.takeP i = pk0∧s.takeS i = (s.outS i.toNat).lose:=by
  refine ⟨by unfold RS.takeE; rw [if_pos h,if_pos hd],if_neg fun h2 => by rw [hd] at h2; exact absurd h2.2 (by decide),by unfold RS.takeS; rw [if_pos h,if_pos hd]⟩
theorem rtake_ok (h:s.inn i) (hd:s.deaf (s.at_ i).From (s.at_ i).To = false):s.takeE i = 0∧s.takeP i = s.at_ i∧s.takeS i = s.outS i.toNat:=by
  refine ⟨by unfold RS.takeE; rw [if_pos h,if_neg (by rw [hd]; decide)],if_pos ⟨h,hd⟩,by unfold RS.takeS; rw [if_pos h,if_neg (by rw [hd]; decide)]⟩
theorem rdouble_no (h:¬ s.inn i):s.doubleE i = 1∧s.doubleS i v = s:=⟨if_neg h,if_neg h⟩
theorem rdouble_yes (h:s.inn i):s.doubleE i = s.putE (s.at_ i).From (s.at_ i).To∧s.doubleS i v = s.putS (s.at_ i).From (s.at_ i).To (s.at_ i).bs (s.bi.getD i.toNat 0) v:=⟨if_pos h,if_pos h⟩
theorem rturn_no (h:¬ s.turnOk i k):s.turnE i k = 1∧s.turnS i k = s:=⟨if_neg h,if_neg fun h2 => h h2.1⟩
theorem rturn_full (h:s.turnOk i k) (h2:2 ≤ s.bi.getD i.toNat 0):s.turnE i k = 8∧s.turnS i k = s:=⟨by unfold RS.turnE; rw [if_pos h,if_pos h2],if_neg fun h3 => h3.2 h2⟩
theorem rturn_yes (h:s.turnOk i k) (h2:¬ 2 ≤ s.bi.getD i.toNat 0):s.turnE i k = 0∧s.turnS i k = RS.mk s.n s.df (s.ps.set i.toNat ((s.at_ i).turn k)) (s.bi.set i.toNat (s.bi.getD i.toNat 0 + 1)) s.lost :=
  ⟨by unfold RS.turnE; rw [if_pos h,if_neg h2],if_pos ⟨h,h2⟩⟩
theorem clsTo_lt:∀ (k:Nat),s.clsTo i k < 2 ^ k
  | 0 => by show 0 < 1; decide
  | k + 1 => by
    have:=clsTo_lt k
    show s.clsTo i k + (if s.hears i (k:Int) = true then 2 ^ k else 0) < 2 ^ (k + 1)
    rw [Nat.pow_succ]
    split <;> omega
theorem cls_no1 (h:s.isIn i = false):s.cls i = 0:=if_neg (by rw [h]; decide)
theorem rcls_no (h:s.isIn i = true) (hq:(q:Int) < s.n) (h2:s.hears i (q:Int) = true) (hj:(j:Int) < s.n) (h3:s.hears i (j:Int) ≠ s.hears (q:Int) (j:Int)):s.cls i = 0:=by
  unfold RS.cls
  rw [if_pos h,if_neg fun h4 => h3 (h4 q (by omega) h2 j hj)]
theorem rcls_yes (h:s.isIn i = true) (hk:s.n ≤ (q:Int)) (hq:(q:Int) ≤ s.n) (h2:s.sameTo i q):s.cls i = s.clsTo i q:=by
  have e:s.n.toNat = q:=by omega
  unfold RS.cls
  rw [if_pos h,e,if_pos h2]
theorem sameTo_next (h:s.sameTo i q) (h2:s.hears i (q:Int) = true → ∀ j:Nat,(j:Int) < s.n → s.hears i (j:Int) = s.hears (q:Int) (j:Int)):s.sameTo i (q + 1):=fun r hr h3 => by
  rcases Nat.lt_succ_iff_lt_or_eq.1 hr with h4 | rfl
  · exact h r h4 h3
  · exact h2 h3
theorem clsTo_yes (h:s.hears i (q:Int) = true):s.clsTo i q + 2 ^ q = s.clsTo i (q + 1):=by show _ = s.clsTo i q + _; rw [if_pos h]
theorem clsTo_no (h:s.hears i (q:Int) = false):s.clsTo i q = s.clsTo i (q + 1):=by show _ = s.clsTo i q + _; rw [h]; rfl
theorem rpin_at (h:∀ p ∈ s.ps,(0 ≤ p.From∧p.From < s.n)∧(0 ≤ p.To∧p.To < s.n)) (hp:s.ps[m]? = some p):(0 ≤ p.From∧p.From < s.n)∧(0 ≤ p.To∧p.To < s.n):=h p (List.mem_of_getElem? hp)
theorem rpin_erase (h:∀ p ∈ s.ps,(0 ≤ p.From∧p.From < s.n)∧(0 ≤ p.To∧p.To < s.n)):∀ p ∈ s.ps.eraseIdx m,(0 ≤ p.From∧p.From < s.n)∧(0 ≤ p.To∧p.To < s.n):=fun p hp => h p (List.mem_of_mem_eraseIdx hp)
theorem rpin_snoc (h:∀ p ∈ s.ps,(0 ≤ p.From∧p.From < s.n)∧(0 ≤ p.To∧p.To < s.n)) (h1:s.isIn a = true) (h2:s.isIn b = true):∀ p ∈ s.ps ++ [⟨a,b,v,bs⟩],(0 ≤ p.From∧p.From < s.n)∧(0 ≤ p.To∧p.To < s.n):=fun p hp => by
  rcases List.mem_append.1 hp with hp | hp
  · exact h p hp
  · rw [List.mem_singleton.1 hp]; exact ⟨rIn_t h1,rIn_t h2⟩
theorem rpin_set (h:∀ p ∈ s.ps,(0 ≤ p.From∧p.From < s.n)∧(0 ≤ p.To∧p.To < s.n)) {q:Pk} (hp:s.ps[m]? = some p) (h1:q.From = p.From) (h2:q.To = p.To):∀ p ∈ s.ps.set m q,(0 ≤ p.From∧p.From < s.n)∧(0 ≤ p.To∧p.To < s.n):=fun p' hp' => by
  rcases List.mem_or_eq_of_mem_set hp' with h3 | rfl
  · exact h p' h3
  · rw [h1,h2]; exact rpin_at h hp
def RS.pkR (s:RS) (TB:Nat) (i:Int):List Res:=if s.inn i then [pkRes TB (s.at_ i)] else []
def RS.rest (s:RS) (i:Int):List Pk:=if s.inn i then s.ps.eraseIdx i.toNat else s.ps
def RS.pks (s:RS) (TB:Nat):List Res:=s.ps.map (pkRes TB)
theorem pkR_yes (h:s.inn i):s.pkR TB i = [pkRes TB (s.at_ i)]:=if_pos h
theorem pkR_no (h:¬ s.inn i):s.pkR TB i = []:=if_neg h
theorem rest_yes (h:s.inn i):s.rest i = s.ps.eraseIdx i.toNat:=if_pos h
theorem rest_no (h:¬ s.inn i):s.rest i = s.ps:=if_neg h
theorem inn_get (h:s.inn i):s.ps[i.toNat]? = some (s.at_ i):=by
  have h2:i.toNat < s.ps.length:=by have:=h.1; have:=h.2; omega
  unfold RS.at_
  rw [List.getD_eq_getElem?_getD,List.getElem?_eq_getElem h2]; rfl
theorem pks_perm:(s.pks TB).Perm (s.pkR TB i ++ (s.rest i).map (pkRes TB)):=by
  by_cases h:s.inn i
  · rw [pkR_yes h,rest_yes h]
    have h2:=inn_get h
    obtain ⟨hi,e⟩:=List.getElem?_eq_some_iff.1 h2
    have:=(perm_pickG s.ps i.toNat hi).map (pkRes TB)
    rw [e] at this
    exact this
  · rw [pkR_no h,rest_no h]; exact List.Perm.refl _
theorem put_pks:(s.putR TB a b bs v ++ s.pks TB).Perm ((s.putS a b bs k v).pks TB):=by
  by_cases h1:s.isIn a = true∧s.isIn b = true
  · by_cases h2:4096 ≤ s.ps.length
    · have:=rput_full (bs:=bs) (k:=k) (v:=v) (TB:=TB) h1.1 h1.2 h2
      rw [this.2.1,this.2.2]; exact List.Perm.refl _
    · have:=rput_ok (bs:=bs) (k:=k) (v:=v) (TB:=TB) h1.1 h1.2 h2
      rw [this.2.1,this.2.2]
      unfold RS.pks
      rw [List.map_append]
      exact List.perm_append_comm
  · have h3:s.isIn a = false ∨ s.isIn b = false:=by
      cases ha:s.isIn a with
      | false => exact .inl rfl
      | true =>
        cases hb:s.isIn b with
        | false => exact .inr rfl
        | true => exact absurd ⟨ha,hb⟩ h1
    have:=rput_no (bs:=bs) (k:=k) (v:=v) (TB:=TB) h3
    rw [this.2.1,this.2.2]; exact List.Perm.refl _
theorem take_rest:(s.takeS i).ps = s.rest i:=by
  by_cases h:s.inn i
  · rw [rest_yes h]
    unfold RS.takeS
    rw [if_pos h]
    split <;> rfl
  · rw [rest_no h]; unfold RS.takeS; rw [if_neg h]
theorem drop_rest:(s.dropS i).ps = s.rest i:=by
  by_cases h:s.inn i
  · rw [rest_yes h]; unfold RS.dropS; rw [if_pos h]; rfl
  · rw [rest_no h]; unfold RS.dropS; rw [if_neg h]
theorem turn_rest:(s.turnS i k).rest i = s.rest i:=by
  unfold RS.turnS
  split
  · rename_i h
    have h1:=h.1.1
    have e:(RS.mk s.n s.df (s.ps.set i.toNat ((s.at_ i).turn k)) (s.bi.set i.toNat (s.bi.getD i.toNat 0 + 1)) s.lost).inn i:=⟨h1.1,by show i < ((s.ps.set _ _).length:Int); rw [List.length_set]; exact h1.2⟩
    rw [rest_yes e,rest_yes h1]
    apply List.ext_getElem?
    intro j
    show ((s.ps.set _ _).eraseIdx _)[j]? = _
    rw [List.getElem?_eraseIdx,List.getElem?_eraseIdx]
    split
    · rw [List.getElem?_set,if_neg (by omega)]
    · rw [List.getElem?_set,if_neg (by omega)]
  · rfl
def RS.doubleR (s:RS) (TB:Nat) (i:Int) (v:Value):List Res:=if s.inn i then s.putR TB (s.at_ i).From (s.at_ i).To (s.at_ i).bs v else []
theorem doubleR_yes (h:s.inn i):s.doubleR TB i v = s.putR TB (s.at_ i).From (s.at_ i).To (s.at_ i).bs v:=if_pos h
theorem doubleR_no (h:¬ s.inn i):s.doubleR TB i v = []:=if_neg h
theorem double_pks:(s.doubleR TB i v ++ s.pks TB).Perm ((s.doubleS i v).pks TB):=by
  by_cases h:s.inn i
  · rw [doubleR_yes h,(rdouble_yes h).2]; exact put_pks
  · rw [doubleR_no h,(rdouble_no h).2]; exact List.Perm.refl _
theorem St.xDown {H:Hp} {w:World} {X L:List Res} (r1 r2:List Res) (h:St H w (r1 ++ (X ++ (r2 ++ L)))):St H w (r1 ++ (r2 ++ (X ++ L))):=by
  refine h.perm (List.Perm.append_left r1 ?_)
  rw [← List.append_assoc,← List.append_assoc]
  exact List.Perm.append_right L List.perm_append_comm
end
end Go.FM
namespace Go.FM
theorem bit_next {bt k:Nat} (h:bt = 2 ^ k % 65536):bt * 2 % 65536 = 2 ^ (k + 1) % 65536:=by rw [h,Nat.pow_succ]; omega
theorem pow16 {k:Nat} (h:k < 16):2 ^ k % 65536 = 2 ^ k∧2 ^ k ≤ 32768:=by
  have:2 ^ k ≤ 2 ^ 15:=Nat.pow_le_pow_right (by omega) (by omega)
  have e:(2:Nat) ^ 15 = 32768:=by decide
  exact ⟨Nat.mod_eq_of_lt (by omega),by omega⟩
theorem hears_next {s:RS} {i:Int} {k j:Nat} (h:∀ q:Nat,q < j → s.hears i ((q:Nat):Int) = s.hears ((k:Nat):Int) ((q:Nat):Int)) (h2:s.hears i ((j:Nat):Int) = s.hears ((k:Nat):Int) ((j:Nat):Int)):∀ q:Nat,q < j + 1 → s.hears i ((q:Nat):Int) = s.hears ((k:Nat):Int) ((q:Nat):Int):=fun q hq => by
  rcases Nat.lt_succ_iff_lt_or_eq.1 hq with h3 | rfl
  · exact h q h3
  · exact h2
end Go.FM
namespace Go.FM
theorem St.eqL {H:Hp} {w:World} {L L':List Res} (h:St H w L) (e:L = L'):St H w L':=e ▸ h
end Go.FM

set_option linter.unusedVariables false
set_option linter.unusedSimpArgs false
namespace Go.FM
open Go
structure NRel (s:NetS) (m:RS) (c:Int):Prop where
  n:s.n = m.n
  n16:m.n ≤ 16
  ps:s.ps.map enP = m.ps.map enP
  bi:s.bi = m.bi
  lost:s.lost = m.lost
  lc:m.lost ≤ c
  hl:s.hr.length = 16
  hb:∀ z ∈ s.hr,z < 65536
  hear:∀ x y:Int,s.isIn x = true → s.isIn y = true → s.hears x y = !m.deaf x y
  hsub:∀ x:Int,s.isIn x = true → s.hr.getD x.toNat 0 < 2 ^ s.n.toNat
  dl:m.df.length = 256
  pin:∀ p ∈ m.ps,(0 ≤ p.From∧p.From < m.n)∧(0 ≤ p.To∧p.To < m.n)
def RS.new (n:Int):RS:=⟨n,List.replicate 256 false,[],[],0⟩
theorem NRel.up {s:NetS} {m:RS} {c d:Int} (h:NRel s m c) (hc:c ≤ d):NRel s m d:=⟨h.n,h.n16,h.ps,h.bi,h.lost,by have:=h.lc; omega,h.hl,h.hb,h.hear,h.hsub,h.dl,h.pin⟩
section
variable {s:NetS} {m:RS} {c:Int} {a b i k x y:Int} {bs:List Nat} {v v':Value} {j q:Nat}
theorem NRel.isIn (h:NRel s m c):s.isIn i = m.isIn i:=by unfold NetS.isIn RS.isIn; rw [h.n]
theorem NRel.len (h:NRel s m c):s.ps.length = m.ps.length:=by have:=congrArg List.length h.ps; simpa using this
theorem NRel.inn (h:NRel s m c):(0 ≤ i∧i < s.ps.length) ↔ m.inn i:=by rw [h.len]; exact Iff.rfl
theorem pow_mono {n i:Nat} (h:i < n):2 ^ i < 2 ^ n:=Nat.pow_lt_pow_right (by omega) h
theorem has_below {t n:Nat} {y:Int} (ht:t < 2 ^ n) (h0:0 ≤ y) (h:has t y = true):y < n:=by
  have h3:=has_le h
  rcases Int.lt_or_le y n with h4 | h4
  · exact h4
  · have h5:2 ^ n ≤ 2 ^ y.toNat:=Nat.pow_le_pow_right (by omega) (by omega)
    omega
theorem NRel.hears (h:NRel s m c):s.hears x y = m.hears x y:=by
  cases hx:s.isIn x with
  | false =>
    rw [rhears_no1 (h.isIn ▸ hx)]
    unfold NetS.hears; rw [hx]; rfl
  | true =>
    cases hy:s.isIn y with
    | false =>
      rw [rhears_no2 (h.isIn ▸ hy)]
      unfold NetS.hears
      rw [hx,Bool.true_and]
      cases hh:has (s.hr.getD x.toNat 0) y with
      | false => rfl
      | true =>
        have h0:=(has_in hh).1
        have:=has_below (h.hsub x hx) h0 hh
        have hn:=isIn_f hy
        omega
    | true => rw [h.hear x y hx hy,rhears_is (h.isIn ▸ hx) (h.isIn ▸ hy)]
theorem NRel.at_ (h:NRel s m c) (hi:m.inn i):∃ p,s.ps[i.toNat]? = some p∧enP p = enP (m.at_ i):=by
  have h1:=inn_get hi
  have h2:(s.ps.map enP)[i.toNat]? = some (enP (m.at_ i)):=by rw [h.ps,List.getElem?_map,h1]; rfl
  rw [List.getElem?_map] at h2
  cases hp:s.ps[i.toNat]? with
  | none => rw [hp] at h2; cases h2
  | some p => rw [hp] at h2; exact ⟨p,rfl,Option.some.inj h2⟩
def Pk.g (p:Pk):GPacket:=⟨p.From,p.To,p.bs⟩
theorem enP_g {p r:Pk} (h:enP p = enP r):p.g = r.g:=by
  unfold enP at h
  injection h with h1 h2
  injection h2 with h2 h3
  unfold Pk.g; rw [h1,h2,h3]
theorem NRel.peek (h:NRel s m c) (hi:m.inn i):s.peekP i = (m.at_ i).g:=by
  obtain ⟨p,hp,he⟩:=h.at_ hi
  rw [peek_at hi.1 hp,← enP_g he]; rfl
theorem NRel.look (h:NRel s m c):s.lookE i = m.dropE i:=by
  by_cases hi:m.inn i
  · rw [lookE_0 (h.inn.2 hi),(rdrop_yes hi).1]
  · rw [lookE_1 fun h2 => hi (h.inn.1 h2),(rdrop_no hi).1]
theorem erase_map {α β:Type} (f:α → β):∀ (l:List α) (i:Nat),(l.eraseIdx i).map f = (l.map f).eraseIdx i
  | [],_ => rfl
  | _::_,0 => rfl
  | x::l,i + 1 => by simp [erase_map f l i]
theorem NRel.put (h:NRel s m c):s.putE a b = m.putE a b∧NRel (s.putS a b bs k v) (m.putS a b bs k v') (c + 1):=by
  have hl:=h.len
  by_cases h1:m.isIn a = true∧m.isIn b = true
  · have h1':s.isIn a = true∧s.isIn b = true:=by rw [h.isIn,h.isIn]; exact h1
    by_cases h2:4096 ≤ m.ps.length
    · have hr:=rput_full (bs:=bs) (k:=k) (v:=v') (TB:=0) h1.1 h1.2 h2
      refine ⟨by rw [putE_full h1'.1 h1'.2 (by omega),hr.1],?_⟩
      rw [hr.2.1,← putS_full h1'.1 h1'.2 (by omega)]
      exact ⟨h.n,h.n16,h.ps,h.bi,by show s.lost + 1 = m.lost + 1; rw [h.lost],by show m.lost + 1 ≤ c + 1; have:=h.lc; omega,h.hl,h.hb,h.hear,h.hsub,h.dl,h.pin⟩
    · have hr:=rput_ok (bs:=bs) (k:=k) (v:=v') (TB:=0) h1.1 h1.2 h2
      refine ⟨by rw [putE_ok h1'.1 h1'.2 (by omega),hr.1],?_⟩
      rw [hr.2.1,← putS_ok h1'.1 h1'.2 (by omega)]
      refine ⟨h.n,h.n16,?_,by show s.bi ++ [k] = m.bi ++ [k]; rw [h.bi],h.lost,by show m.lost ≤ c + 1; have:=h.lc; omega,h.hl,h.hb,h.hear,h.hsub,h.dl,rpin_snoc h.pin h1.1 h1.2⟩
      show (s.ps ++ [_]).map enP = (m.ps ++ [_]).map enP
      rw [List.map_append,List.map_append,h.ps]; rfl
  · have h3:m.isIn a = false ∨ m.isIn b = false:=by
      cases ha:m.isIn a with
      | false => exact .inl rfl
      | true =>
        cases hb:m.isIn b with
        | false => exact .inr rfl
        | true => exact absurd ⟨ha,hb⟩ h1
    have h3':s.isIn a = false ∨ s.isIn b = false:=by rw [h.isIn,h.isIn]; exact h3
    have hr:=rput_no (bs:=bs) (k:=k) (v:=v') (TB:=0) h3
    refine ⟨by rw [putE_no h3',hr.1],?_⟩
    rw [hr.2.1,← putS_no h3']
    exact h.up (by omega)
theorem NRel.out (h:NRel s m c):NRel (s.outS q) (m.outS q) c :=
  ⟨h.n,h.n16,by show (s.ps.eraseIdx q).map enP = (m.ps.eraseIdx q).map enP; rw [erase_map,erase_map,h.ps],by show s.bi.eraseIdx q = m.bi.eraseIdx q; rw [h.bi],h.lost,h.lc,h.hl,h.hb,h.hear,h.hsub,h.dl,rpin_erase h.pin⟩
theorem NRel.lose (h:NRel s m c):NRel s.lose m.lose (c + 1) :=
  ⟨h.n,h.n16,h.ps,h.bi,by show s.lost + 1 = m.lost + 1; rw [h.lost],by show m.lost + 1 ≤ c + 1; have:=h.lc; omega,h.hl,h.hb,h.hear,h.hsub,h.dl,h.pin⟩
theorem NRel.drop (h:NRel s m c):NRel (s.dropS i) (m.dropS i) (c + 1):=by
  by_cases hi:m.inn i
  · rw [(rdrop_yes hi).2,← drop_yes (h.inn.2 hi)]; exact h.out.lose
  · rw [(rdrop_no hi).2,← drop_no fun h2 => hi (h.inn.1 h2)]; exact h.up (by omega)
theorem NRel.heard (h:NRel s m c) (hi:m.inn i):s.hears (s.peekP i).From (s.peekP i).To = !m.deaf (m.at_ i).From (m.at_ i).To:=by
  rw [h.peek hi,h.hears]
  have hp:=rpin_at h.pin (inn_get hi)
  exact rhears_is (decide_eq_true hp.1) (decide_eq_true hp.2)
theorem NRel.take (h:NRel s m c):s.takeE i = m.takeE i∧s.takeP i = (m.takeP i).g∧NRel (s.takeS i) (m.takeS i) (c + 1):=by
  by_cases hi:m.inn i
  · have hh:=h.heard hi
    cases hd:m.deaf (m.at_ i).From (m.at_ i).To with
    | true =>
      rw [hd] at hh
      have h1:=take_cut (h.inn.2 hi) hh
      have h2:=rtake_deaf hi hd
      rw [h1.1,h1.2.1,← h1.2.2,h2.1,h2.2.1,h2.2.2]
      exact ⟨rfl,rfl,h.out.lose⟩
    | false =>
      rw [hd] at hh
      have h1:=take_yes (h.inn.2 hi) hh
      have h2:=rtake_ok hi hd
      rw [h1.1,h1.2.1,← h1.2.2,h2.1,h2.2.1,h2.2.2]
      exact ⟨rfl,h.peek hi,h.out.up (by omega)⟩
  · have h1:=take_no (s:=s) (i:=i) fun h2 => hi (h.inn.1 h2)
    have h2:=rtake_no hi
    rw [h1.1,h1.2.1,← h1.2.2,h2.1,h2.2.1,h2.2.2]
    exact ⟨rfl,rfl,h.up (by omega)⟩
theorem NRel.double (h:NRel s m c):s.doubleE i = m.doubleE i∧NRel (s.doubleS i v) (m.doubleS i v') (c + 1):=by
  by_cases hi:m.inn i
  · have h1:=double_yes (s:=s) (v:=v) (h.inn.2 hi)
    have h2:=rdouble_yes (s:=m) (v:=v') hi
    rw [h1.1,h1.2,h2.1,h2.2,h.peek hi,h.bi]
    exact h.put
  · have h1:=double_no (s:=s) (i:=i) (v:=v) fun h2 => hi (h.inn.1 h2)
    have h2:=rdouble_no (v:=v') hi
    rw [h1.1,← h1.2,h2.1,h2.2]
    exact ⟨rfl,h.up (by omega)⟩
theorem NRel.turnOk (h:NRel s m c):s.turnOk i k ↔ m.turnOk i k:=by
  constructor
  · rintro ⟨h1,h2⟩
    have hi:=h.inn.1 h1
    rw [h.peek hi] at h2
    exact ⟨hi,h2⟩
  · rintro ⟨hi,h2⟩
    refine ⟨h.inn.2 hi,?_⟩
    rw [h.peek hi]; exact h2
theorem NRel.turn (h:NRel s m c):s.turnE i k = m.turnE i k∧NRel (s.turnS i k) (m.turnS i k) (c + 1):=by
  by_cases ho:m.turnOk i k
  · by_cases h2:2 ≤ m.bi.getD i.toNat 0
    · have h3:=rturn_full ho h2
      have h4:=turnFull (h.turnOk.2 ho) (by rw [h.bi]; exact h2)
      rw [h3.1,h3.2,h4.1,← h4.2]
      exact ⟨rfl,h.up (by omega)⟩
    · have h3:=rturn_yes ho h2
      obtain ⟨p,hp,he⟩:=h.at_ ho.1
      have h4:=turnOk1 (h.turnOk.2 ho) (by rw [h.bi]; exact h2) hp
      rw [h3.1,h3.2,h4.1,← h4.2]
      refine ⟨rfl,h.n,h.n16,?_,by show s.bi.set _ _ = m.bi.set _ _; rw [h.bi],h.lost,by show m.lost ≤ c + 1; have:=h.lc; omega,h.hl,h.hb,h.hear,h.hsub,h.dl,?_⟩
      · show (s.ps.set _ _).map enP = (m.ps.set _ _).map enP
        rw [List.map_set,List.map_set,h.ps]
        congr 1
        have hg:=he
        unfold enP at hg
        injection hg with g1 g2
        injection g2 with g2 g3
        show (p.From,p.To,turnB p.bs k) = ((m.at_ i).From,(m.at_ i).To,turnB (m.at_ i).bs k)
        rw [g1,g2,g3]
      · exact rpin_set h.pin (inn_get ho.1) rfl rfl
  · have h3:=rturn_no ho
    have h4:=turnNo (s:=s) (i:=i) (k:=k) fun h5 => ho (h.turnOk.1 h5)
    rw [h3.1,h3.2,h4.1,← h4.2]
    exact ⟨rfl,h.up (by omega)⟩
theorem NRel.setE (h:NRel s m c):s.setE a b = m.setE a b:=by unfold NetS.setE RS.setE; rw [h.isIn,h.isIn]
theorem deaf_set {d:Bool} (hdl:m.df.length = 256) (hn:m.n ≤ 16) (he:m.setE a b = true) (hx:0 ≤ x∧x < m.n) (hy:0 ≤ y∧y < m.n):(m.setD a b d).deaf x y = if (x = a∧y = b) ∨ (x = b∧y = a) then d else m.deaf x y:=by
  rw [rset_yes he]
  unfold RS.setE at he
  simp only [Bool.and_eq_true,decide_eq_true_eq] at he
  obtain ⟨⟨ha,hb⟩,hab⟩:=he
  have ha:=rIn_t ha
  have hb:=rIn_t hb
  unfold RS.deaf
  simp only []
  rw [List.getD_eq_getElem?_getD,List.getElem?_set,List.getElem?_set,List.length_set,hdl]
  by_cases h1:b.toNat * 16 + a.toNat = x.toNat * 16 + y.toNat
  · rw [if_pos h1,if_pos (by omega),if_pos (by omega)]; rfl
  · rw [if_neg h1]
    by_cases h2:a.toNat * 16 + b.toNat = x.toNat * 16 + y.toNat
    · rw [if_pos h2,if_pos (by omega),if_pos (by omega)]; rfl
    · rw [if_neg h2,if_neg (by omega),List.getD_eq_getElem?_getD]
theorem setD_n {d:Bool}:(m.setD a b d).n = m.n:=by unfold RS.setD; split <;> rfl
theorem wth_lt2 {t n:Nat} (h:t < 2 ^ n) (hb:0 ≤ b∧b < n):wth t b < 2 ^ n:=by
  unfold wth
  split
  · exact Nat.or_lt_two_pow h (pow_mono (by omega))
  · exact h
theorem wto_lt2 {t n:Nat} (h:t < 2 ^ n):wto t b < 2 ^ n:=by
  unfold wto
  split
  · exact Nat.lt_of_le_of_lt Nat.and_le_left h
  · exact h
theorem NRel.setGen (h:NRel s m c) {f:Nat → Int → Nat} {d:Bool} (hf:∀ (x:Nat) (y:Int),x < 65536 → f x y < 65536) (hf2:∀ (t:Nat) (y:Int),t < 2 ^ s.n.toNat → (0 ≤ y∧y < s.n) → f t y < 2 ^ s.n.toNat)
    (hh:∀ x y,s.isIn x = true → s.isIn y = true → s.setE a b = true → (NetS.setH f s a b).hears x y = if (x = a∧y = b) ∨ (x = b∧y = a) then !d else s.hears x y):NRel (NetS.setH f s a b) (m.setD a b d) (c + 1):=by
  cases he:s.setE a b with
  | false =>
    have e1:NetS.setH f s a b = s:=if_neg (by rw [he]; decide)
    rw [e1,rset_no (h.setE ▸ he)]
    exact h.up (by omega)
  | true =>
    have he2:m.setE a b = true:=h.setE ▸ he
    refine ⟨by rw [setH_n,setD_n]; exact h.n,by rw [setD_n]; exact h.n16,?_,?_,?_,?_,setH_len f h.hl,setH_hb hf h.hb,fun x y hx hy => ?_,fun x hx => ?_,by rw [rset_yes he2]; show ((m.df.set _ _).set _ _).length = 256; rw [List.length_set,List.length_set]; exact h.dl,?_⟩
    · unfold NetS.setH; rw [if_pos he,rset_yes he2]; exact h.ps
    · unfold NetS.setH; rw [if_pos he,rset_yes he2]; exact h.bi
    · unfold NetS.setH; rw [if_pos he,rset_yes he2]; exact h.lost
    · rw [rset_yes he2]; show m.lost ≤ c + 1; have:=h.lc; omega
    · rw [setH_isIn] at hx hy
      have hx':=isIn_t hx
      have hy':=isIn_t hy
      rw [hh x y hx hy he,deaf_set h.dl h.n16 he2 (by rw [← h.n]; exact hx') (by rw [← h.n]; exact hy'),h.hear x y hx hy]
      split <;> rfl
    · rw [setH_isIn] at hx
      rw [setH_n,setH_get f h.hl (by rw [h.n]; exact h.n16) he hx]
      have he':=he
      unfold NetS.setE at he'
      simp only [Bool.and_eq_true,decide_eq_true_eq] at he'
      obtain ⟨⟨ha,hb⟩,hab⟩:=he'
      split
      · exact hf2 _ _ (h.hsub b hb) (isIn_t ha)
      · split
        · exact hf2 _ _ (h.hsub a ha) (isIn_t hb)
        · exact h.hsub x hx
    · rw [rset_yes he2]; exact h.pin
theorem NRel.cut (h:NRel s m c):NRel (NetS.setH wto s a b) (m.setD a b true) (c + 1) :=
  h.setGen (fun x y hx => wto_lt hx y) (fun t y ht hy => wto_lt2 ht) fun x y hx hy he => by
    rw [hears_cut h.hl h.hb (by rw [h.n]; exact h.n16) hx hy,he]
    by_cases h1:(x = a∧y = b) ∨ (x = b∧y = a)
    · rw [if_pos h1]
      rcases h1 with h1 | h1 <;> simp [h1]
    · rw [if_neg h1]
      have h2:¬ (x = a∧y = b):=fun h3 => h1 (.inl h3)
      have h3:¬ (x = b∧y = a):=fun h3 => h1 (.inr h3)
      rw [decide_eq_false h2,decide_eq_false h3]; simp
theorem NRel.join (h:NRel s m c):NRel (NetS.setH wth s a b) (m.setD a b false) (c + 1) :=
  h.setGen (fun x y hx => wth_lt hx y) (fun t y ht hy => wth_lt2 ht ⟨hy.1,by have:=hy.2; omega⟩) fun x y hx hy he => by
    rw [hears_join h.hl h.hb (by rw [h.n]; exact h.n16) hx hy,he]
    by_cases h1:(x = a∧y = b) ∨ (x = b∧y = a)
    · rw [if_pos h1]
      rcases h1 with h1 | h1 <;> simp [h1]
    · rw [if_neg h1]
      have h2:¬ (x = a∧y = b):=fun h3 => h1 (.inl h3)
      have h3:¬ (x = b∧y = a):=fun h3 => h1 (.inr h3)
      rw [decide_eq_false h2,decide_eq_false h3]; simp
theorem NRel.new (h1:1 ≤ i) (h2:i ≤ 16):NRel (netNew i) (RS.new i) 0 where
  n:=rfl
  n16:=h2
  ps:=rfl
  bi:=rfl
  lost:=rfl
  lc:=Int.le_refl 0
  hl:=by show (List.replicate i.toNat (2 ^ i.toNat - 1) ++ List.replicate (16 - i.toNat) 0).length = 16; simp; omega
  hb:=fun z hz => by
    have hz:z ∈ List.replicate i.toNat (2 ^ i.toNat - 1) ++ List.replicate (16 - i.toNat) 0:=hz
    rcases List.mem_append.1 hz with hz | hz
    · rw [List.eq_of_mem_replicate hz]
      have:2 ^ i.toNat ≤ 2 ^ 16:=Nat.pow_le_pow_right (by omega) (by omega)
      have e:(2:Nat) ^ 16 = 65536:=by decide
      have h3:0 < 2 ^ i.toNat:=Nat.pow_pos (by omega)
      omega
    · rw [List.eq_of_mem_replicate hz]; decide
  hear:=fun x y hx hy => by
    rw [hears_new h1 h2 (isIn_t hx) (isIn_t hy)]
    unfold RS.deaf RS.new
    rw [List.getD_eq_getElem?_getD,List.getElem?_replicate]
    split <;> rfl
  hsub:=fun x hx => by
    have hx:=isIn_t hx
    have hx:0 ≤ x∧x < i:=hx
    show (List.replicate i.toNat (2 ^ i.toNat - 1) ++ List.replicate (16 - i.toNat) 0).getD x.toNat 0 < 2 ^ i.toNat
    rw [List.getD_eq_getElem?_getD,List.getElem?_append_left (by simp; omega),List.getElem?_replicate,if_pos (by omega)]
    show 2 ^ i.toNat - 1 < 2 ^ i.toNat
    have h3:0 < 2 ^ i.toNat:=Nat.pow_pos (by omega)
    omega
  dl:=List.length_replicate
  pin:=fun p hp => by cases hp
theorem clsTo_mod (h:NRel s m c) (hi:s.isIn i = true):∀ (k:Nat),(k:Int) ≤ s.n → m.clsTo i k = s.hr.getD i.toNat 0 % 2 ^ k
  | 0,_ => by rw [Nat.pow_zero,Nat.mod_one]; rfl
  | k + 1,hk => by
    show m.clsTo i k + (if m.hears i (k:Int) = true then 2 ^ k else 0) = _
    rw [clsTo_mod h hi k (by omega),← h.hears,Nat.mod_pow_succ]
    congr 1
    unfold NetS.hears
    rw [hi,Bool.true_and]
    have hk16:k < 16:=by have:=h.n16; have:=h.n; omega
    by_cases hb:s.hr.getD i.toNat 0 / 2 ^ k % 2 = 1
    · rw [if_pos ((has_bit (by omega) (by omega)).2 hb),hb,Nat.mul_one]
    · rw [if_neg fun h2 => hb ((has_bit (by omega) (by omega)).1 h2),show s.hr.getD i.toNat 0 / 2 ^ k % 2 = 0 by omega,Nat.mul_zero]
theorem has_ext {t u n:Nat} (hn:n ≤ 16) (ht:t < 2 ^ n) (hu:u < 2 ^ n) (h:∀ j:Nat,j < n → has t (j:Int) = has u (j:Int)):t = u:=by
  apply Nat.eq_of_testBit_eq
  intro j
  by_cases hj:j < n
  · have h1:=h j hj
    rw [Nat.testBit_eq_decide_div_mod_eq,Nat.testBit_eq_decide_div_mod_eq]
    have a:=has_bit (s:=t) (j:=(j:Int)) (by omega) (by omega)
    have b:=has_bit (s:=u) (j:=(j:Int)) (by omega) (by omega)
    rw [h1] at a
    exact decide_eq_decide.2 (a.symm.trans b)
  · rw [Nat.testBit_lt_two_pow (Nat.lt_of_lt_of_le ht (Nat.pow_le_pow_right (by omega) (by omega))),Nat.testBit_lt_two_pow (Nat.lt_of_lt_of_le hu (Nat.pow_le_pow_right (by omega) (by omega)))]
theorem NRel.cls (h:NRel s m c):s.cls i = m.cls i:=by
  cases hi:s.isIn i with
  | false =>
    rw [cls_no1 (h.isIn ▸ hi)]
    unfold NetS.cls; rw [if_neg (by rw [hi]; decide)]
  | true =>
    have hi2:m.isIn i = true:=h.isIn ▸ hi
    have hn0:=isIn_t hi
    have hn:((s.n.toNat:Nat):Int) = s.n:=Int.toNat_of_nonneg (by omega)
    have hnn:s.n.toNat = m.n.toNat:=by rw [h.n]
    have hcl:=clsTo_mod h hi s.n.toNat (by omega)
    rw [Nat.mod_eq_of_lt (h.hsub i hi),hnn] at hcl
    unfold NetS.cls RS.cls
    rw [if_pos hi,if_pos hi2,hcl]
    have hiff:(lst (s.hr.getD i.toNat 0)).all (fun k => decide (s.hr.getD k 0 = s.hr.getD i.toNat 0)) = true ↔ m.sameTo i m.n.toNat:=by
      constructor
      · intro hall q hq hh j hj
        rw [← h.hears] at hh
        rw [← h.hears,← h.hears]
        have hqi:s.isIn (q:Int) = true:=decide_eq_true ⟨by omega,by omega⟩
        have hhq:has (s.hr.getD i.toNat 0) (q:Int) = true:=by
          unfold NetS.hears at hh; rw [hi,Bool.true_and] at hh; exact hh
        have h4:=of_decide_eq_true (List.all_eq_true.1 hall q (has_lst.2 hhq))
        unfold NetS.hears
        rw [hi,hqi,show ((q:Nat):Int).toNat = q from rfl,h4]
      · intro hsame
        refine List.all_eq_true.2 fun q hq => decide_eq_true ?_
        have hhq:=has_lst.1 hq
        have hqn:=has_below (h.hsub i hi) (by omega) hhq
        have hqi:s.isIn (q:Int) = true:=decide_eq_true ⟨by omega,by omega⟩
        have hh:m.hears i (q:Int) = true:=by rw [← h.hears]; unfold NetS.hears; rw [hi,hhq]; rfl
        have h5:=hsame q (by omega) hh
        refine has_ext (n:=s.n.toNat) (by have:=h.n16; have:=h.n; omega) (h.hsub (q:Int) hqi) (h.hsub i hi) fun j hj => ?_
        have h6:=h5 j (by rw [← h.n]; omega)
        rw [← h.hears,← h.hears] at h6
        unfold NetS.hears at h6
        rw [hi,hqi,Bool.true_and,Bool.true_and] at h6
        exact h6.symm
    by_cases hc:m.sameTo i m.n.toNat
    · rw [if_pos hc,if_pos (hiff.2 hc)]
    · rw [if_neg hc,if_neg fun h2 => hc (hiff.1 h2)]
end
end Go.FM

set_option linter.unusedVariables false
set_option linter.unusedSimpArgs false
namespace Go.FM
open Go
section
variable {TN TP TI TB g:Nat} {s:NetS} {vb vt:Value} {cb ct:List Value} {H H':Hp} {w:World} {L X P:List Res} {m:RS} {i k a b:Int} {v:Value} {bs:List Nat} {vbm vtm:Value} {cbm ctm:List Value} {q r:Res}
theorem St.intoG {Y:List Res} (rs:List Res) (h:St H w (rs ++ (X ++ netG TN TP TI TB g s vb cb vt ct (Y ++ L)))) (hp:(X ++ Y).Perm P):St H w (rs ++ netG TN TP TI TB g s vb cb vt ct (P ++ L)):=by
  refine h.perm (List.Perm.append_left rs ?_)
  refine (netG_perm X).trans (netG_congr ?_)
  rw [← List.append_assoc]
  exact hp.append_right L
theorem St.outG {Y:List Res} (rs:List Res) (h:St H w (rs ++ netG TN TP TI TB g s vb cb vt ct (P ++ L))) (hp:P.Perm (X ++ Y)):St H w (rs ++ (X ++ netG TN TP TI TB g s vb cb vt ct (Y ++ L))):=by
  refine h.perm (List.Perm.append_left rs ?_)
  refine (netG_congr (hp.append_right L)).trans ?_
  rw [List.append_assoc]
  exact (netG_perm X).symm
theorem St.headG (rs:List Res) (h:St H w (rs ++ (q::L))):St H w (q::(rs ++ L)):=h.perm List.perm_middle
theorem St.backG (rs:List Res) (h:St H w (q::(rs ++ L))):St H w (rs ++ (q::L)):=h.perm List.perm_middle.symm
theorem St.midG {X:List Res} (r1 r2:List Res) (h:St H w (r1 ++ (r2 ++ (X ++ L)))):St H w (r1 ++ (X ++ (r2 ++ L))):=by
  refine h.perm (List.Perm.append_left r1 ?_)
  rw [← List.append_assoc,← List.append_assoc]
  exact List.Perm.append_right L List.perm_append_comm
theorem St.takeRow (rs:List Res) (h:St H w (rs ++ netG TN TP TI TB g s vb cb vt ct (m.pks TB ++ L))) (i:Int):St H w (pkRes TB (m.takeP i)::(rs ++ netG TN TP TI TB g s vb cb vt ct ((m.takeS i).pks TB ++ L))):=by
  have e:(m.takeS i).pks TB = (m.rest i).map (pkRes TB):=by unfold RS.pks; rw [take_rest]
  rw [e]
  by_cases hi:m.inn i
  · have h1:=St.outG rs h (pks_perm (i:=i))
    rw [pkR_yes hi] at h1
    cases hd:m.deaf (m.at_ i).From (m.at_ i).To with
    | false => rw [(rtake_ok hi hd).2.1]; exact St.headG rs h1
    | true =>
      rw [(rtake_deaf hi hd).2.1]
      exact (St.headG rs h1).drop.rowNil TB 1
  · rw [(rtake_no hi).2.1,rest_no hi]
    exact h.rowNil TB 1
theorem St.dropRow (rs:List Res) (h:St H w (rs ++ netG TN TP TI TB g s vb cb vt ct (m.pks TB ++ L))) (i:Int):St H w (rs ++ netG TN TP TI TB g s vb cb vt ct ((m.dropS i).pks TB ++ L)):=by
  have e:(m.dropS i).pks TB = (m.rest i).map (pkRes TB):=by unfold RS.pks; rw [drop_rest]
  rw [e]
  by_cases hi:m.inn i
  · have h1:=St.outG rs h (pks_perm (i:=i))
    rw [pkR_yes hi] at h1
    exact (St.headG rs h1).drop
  · rw [rest_no hi]; exact h
theorem St.pkAway (rs:List Res) (h:St H w (rs ++ netG TN TP TI TB g s vb cb vt ct (m.pks TB ++ L))) (hi:m.inn i):St H w (pkRes TB (m.at_ i)::(rs ++ netG TN TP TI TB g s vb cb vt ct ((m.rest i).map (pkRes TB) ++ L))):=by
  have h1:=St.outG rs h (pks_perm (i:=i))
  rw [pkR_yes hi] at h1
  exact St.headG rs h1
theorem St.pkHome (rs:List Res) (h:St H w (pkRes TB (m.at_ i)::(rs ++ netG TN TP TI TB g s vb cb vt ct ((m.rest i).map (pkRes TB) ++ L)))) (hi:m.inn i):St H w (rs ++ netG TN TP TI TB g s vb cb vt ct (m.pks TB ++ L)):=by
  have h1:=St.backG rs h
  have h2:=(pks_perm (s:=m) (i:=i) (TB:=TB)).symm
  rw [pkR_yes hi] at h2
  exact St.intoG (X:=[pkRes TB (m.at_ i)]) rs h1 h2
theorem St.pkHomeX (rs X:List Res) (h:St H w (pkRes TB (m.at_ i)::(rs ++ (X ++ netG TN TP TI TB g s vb cb vt ct ((m.rest i).map (pkRes TB) ++ L))))) (hi:m.inn i):St H w (rs ++ (X ++ netG TN TP TI TB g s vb cb vt ct (m.pks TB ++ L))):=by
  have h1:=St.pkHome (rs ++ X) (by rw [List.append_assoc]; exact h) hi
  rwa [List.append_assoc] at h1
theorem St.pksOpen (r1 r2:List Res) (h:St H w (r1 ++ (r2 ++ netG TN TP TI TB g s vb cb vt ct (m.pks TB ++ L)))) (i:Int):St H w (r1 ++ (m.pkR TB i ++ (r2 ++ netG TN TP TI TB g s vb cb vt ct ((m.rest i).map (pkRes TB) ++ L)))):=by
  have h1:=St.outG (r1 ++ r2) (by rw [List.append_assoc]; exact h) (pks_perm (i:=i))
  rw [List.append_assoc] at h1
  exact St.midG r1 r2 h1
theorem St.turnIn (rs:List Res) (h:St H w (rs ++ ((m.turnS i k).pkR TB i ++ netG TN TP TI TB g s vb cb vt ct ((m.rest i).map (pkRes TB) ++ L)))):St H w (rs ++ netG TN TP TI TB g s vb cb vt ct ((m.turnS i k).pks TB ++ L)):=by
  refine St.intoG rs h ?_
  have h2:=(pks_perm (s:=m.turnS i k) (i:=i) (TB:=TB)).symm
  rwa [turn_rest] at h2
theorem St.allUp (r1 r2:List Res) (h:St H w (r1 ++ (r2 ++ netG TN TP TI TB g s vb cb vt ct (P ++ L)))):St H w (netG TN TP TI TB g s vb cb vt ct (r1 ++ (P ++ (r2 ++ L)))):=by
  have h1:St H w ((r1 ++ r2) ++ netG TN TP TI TB g s vb cb vt ct (P ++ L)):=by rw [List.append_assoc]; exact h
  refine (h1.perm (netG_perm _)).perm (netG_congr ?_)
  rw [List.append_assoc]
  refine List.Perm.append_left r1 ?_
  rw [← List.append_assoc,← List.append_assoc]
  exact List.Perm.append_right L List.perm_append_comm
theorem St.allDown (r1 r2:List Res) (h:St H w (netG TN TP TI TB g s vb cb vt ct (r1 ++ (P ++ (r2 ++ L))))):St H w (r1 ++ (r2 ++ netG TN TP TI TB g s vb cb vt ct (P ++ L))):=by
  have h1:St H w ((r1 ++ r2) ++ netG TN TP TI TB g s vb cb vt ct (P ++ L)):=by
    refine (h.perm (netG_congr ?_)).perm (netG_perm _).symm
    rw [List.append_assoc]
    refine List.Perm.append_left r1 ?_
    rw [← List.append_assoc,← List.append_assoc]
    exact List.Perm.append_right L List.perm_append_comm
  rwa [List.append_assoc] at h1
theorem rtake_pk (ok:RSOk H m vbm cbm vtm ctm) (i:Int):RowOk 1 (m.takeP i).v (m.takeP i).bs.length ((m.takeP i).bs.map encB)∧Small (m.takeP i).bs∧IB (m.takeP i).From∧IB (m.takeP i).To:=by
  have h0:RowOk 1 pk0.v pk0.bs.length (pk0.bs.map encB)∧Small pk0.bs∧IB pk0.From∧IB pk0.To:=⟨RowOk.nil 1,Small.nil,⟨by decide,by decide⟩,⟨by decide,by decide⟩⟩
  by_cases hi:m.inn i
  · cases hd:m.deaf (m.at_ i).From (m.at_ i).To with
    | false =>
      rw [(rtake_ok hi hd).2.1]
      obtain ⟨c,h1,_⟩:=ok.hkb.2 i.toNat _ (inn_get hi)
      exact ⟨h1.2.2.2.1,h1.2.2.2.2.1,h1.2.1,h1.2.2.1⟩
    | true => rw [(rtake_deaf hi hd).2.1]; exact h0
  · rw [(rtake_no hi).2.1]; exact h0
theorem at_pk (ok:RSOk H m vbm cbm vtm ctm) (hi:m.inn i):RowOk 1 (m.at_ i).v (m.at_ i).bs.length ((m.at_ i).bs.map encB)∧Small (m.at_ i).bs∧IB (m.at_ i).From∧IB (m.at_ i).To∧(m.at_ i).bs.length ≤ 140737488351232:=by
  obtain ⟨c,h1,_⟩:=ok.hkb.2 i.toNat _ (inn_get hi)
  exact ⟨h1.2.2.2.1,h1.2.2.2.2.1,h1.2.1,h1.2.2.1,h1.2.2.2.2.2⟩
theorem gp_same {p q:GPacket} (h1:Small p.Bytes) (h2:Small q.Bytes):decide (p = q) = ((decide (p.From = q.From) && decide (p.To = q.To)) && decide (bstr p.Bytes = bstr q.Bytes)):=by
  obtain ⟨a,b,c⟩:=p
  obtain ⟨d,e,f⟩:=q
  rw [Bool.eq_iff_iff]
  simp only [Bool.and_eq_true,decide_eq_true_eq,GPacket.mk.injEq]
  have h3:bstr c = bstr f ↔ c = f:=bstr_inj h1 h2
  rw [h3,and_assoc]
end
end Go.FM
namespace Go.FM
theorem set_pks {m:RS} {a b:Int} {d:Bool} {TB:Nat}:(m.setD a b d).pks TB = m.pks TB:=by unfold RS.setD; split <;> rfl
end Go.FM
namespace Go.FM
theorem St.dropG {H:Hp} {w:World} {A L:List Res} (rs:List Res) (h:St H w (rs ++ (A ++ L))):St H w (rs ++ L):=by
  refine St.tail (L':=A) (h.perm ?_)
  rw [← List.append_assoc,← List.append_assoc]
  exact List.Perm.append_right L List.perm_append_comm
end Go.FM
namespace Go.FM
theorem RSOk.new {H:Hp} {n:Int} (h1:1 ≤ n) (h2:n ≤ 16):RSOk H (RS.new n) (.slice none 0 0) [] (.slice none 0 0) [] :=
  ⟨h1,h2,List.length_replicate,RowOk.nil 3,Kn.rows_nil _ _,RowOk.nil 1,Kn.rows_nil _ _,rfl,Nat.zero_le _,Int.le_refl 0,fun p hp => by cases hp⟩
end Go.FM

set_option linter.unusedVariables false
set_option linter.unusedSimpArgs false
namespace Go.FM
open Go
section
variable {P:Program} {ops:Array Oper} {Q:Exit → Act → World → Prop} {md:Region.Mode} {S S':World → Prop} {Z F:List Nat}
def depT (md:Region.Mode) (ops:Array Oper):Nat → Nat → Nat → Bool
  | 0,_,_ => false
  | f + 1,k,j => ((ops[k]?).map fun o => (o.after.any fun e => Region.binds md e && Nat.beq e.on j) || (o.after.any fun e => Region.binds md e && depT md ops f e.on j)).getD false
def depB (md:Region.Mode) (ops:Array Oper) (k j:Nat):Bool:=depT md ops 4 k j
def Closed (md:Region.Mode) (ops:Array Oper) (listed:Array Bool):Prop:=∀ m o,ops[m]? = some o → listed.getD m false = true → ∀ e ∈ o.after,Region.binds md e = true → listed.getD e.on false = true
theorem set_mono {listed:Array Bool} {j m:Nat} (h:listed.getD m false = true):(listed.setIfInBounds j true).getD m false = true:=by
  by_cases hjm:j = m
  · subst hjm
    rcases Nat.lt_or_ge j listed.size with h' | h'
    · simp [h']
    · simp [Array.getElem?_eq_none h'] at h
  · rw [getD_set_ne false hjm]; exact h
theorem Closed.set {listed:Array Bool} {j:Nat} (hc:Closed md ops listed) (hj:j ∈ Region.ready md ops listed):Closed md ops (listed.setIfInBounds j true):=by
  obtain ⟨_,oj,hoj,hall⟩:=mem_ready.1 hj
  intro m o ho hm e he hb
  by_cases hjm:j = m
  · subst hjm
    rw [ho] at hoj; injection hoj with hoj; subst hoj
    exact set_mono (hall e he hb)
  · rw [getD_set_ne false hjm] at hm
    exact set_mono (hc m o ho hm e he hb)
theorem depT_listed {listed:Array Bool} (hc:Closed md ops listed) {j:Nat}:∀ (f k:Nat),depT md ops f k j = true → (∀ o,ops[k]? = some o → ∀ e ∈ o.after,Region.binds md e = true → listed.getD e.on false = true) → listed.getD j false = true
  | 0,_,h,_ => by cases h
  | f + 1,k,h,hl => by
    unfold depT at h
    cases ho:ops[k]? with
    | none => rw [ho] at h; cases h
    | some o =>
      rw [ho] at h
      simp only [Option.map_some,Option.getD_some,Bool.or_eq_true] at h
      rcases h with h | h
      · obtain ⟨e,he,hb⟩:=Array.any_eq_true'.1 h
        simp only [Bool.and_eq_true] at hb
        have:=hl o ho e he hb.1
        rwa [Nat.eq_of_beq_eq_true hb.2] at this
      · obtain ⟨e,he,hb⟩:=Array.any_eq_true'.1 h
        simp only [Bool.and_eq_true] at hb
        exact depT_listed hc f e.on hb.2 fun o' ho' => hc e.on o' ho' (hl o ho e he hb.1)
theorem depB_spec {k j:Nat} (h:depB md ops k j = true) {listed:Array Bool} (hc:Closed md ops listed) (hr:k ∈ Region.ready md ops listed):listed.getD j false = true:=by
  obtain ⟨_,o,ho,hall⟩:=mem_ready.1 hr
  exact depT_listed hc 4 k h fun o' ho' => by rw [ho] at ho'; injection ho' with ho'; subst ho'; exact hall
def wpG2 (P:Program) (md:Region.Mode) (ops:Array Oper) (Z:List Nat) (Q:Exit → Act → World → Prop):Nat → Array Bool → (World → Prop) → Act → World → Prop
  | 0,listed,_,a,w => Region.ready md ops listed = []∧Q .normal a w
  | fuel + 1,listed,S,a,w =>
    (Region.ready md ops listed = [] → Q .normal a w) ∧
    ∀ i ∈ Region.ready md ops listed,wpOp P ops Q i (fun a' w' => ∃ S':World → Prop,((Z.contains i = false → ∀ u,S' u → S u)∧S' w')∧wpG2 P md ops Z Q fuel (listed.setIfInBounds i true) S' a' w') a w
theorem wpAny_of_g2:∀ (fuel:Nat) (listed:Array Bool) (S:World → Prop) (a:Act) (w:World),wpG2 P md ops Z Q fuel listed S a w → wpAny P md ops Q fuel listed a w
  | 0,_,_,_,_,h => h
  | fuel + 1,_,_,_,_,h => ⟨h.1,fun i hi => wpOp_mono (fun a' w' ⟨_,_,h'⟩ => wpAny_of_g2 fuel _ _ a' w' h') (h.2 i hi)⟩
def SS (free:Bool) (S:World → Prop):World → Prop:=if free then fun _ => True else S
theorem SS.of {free:Bool} {w:World} (h:S w):SS free S w:=by cases free <;> simp [SS,h]
theorem wpG2_first {free:Bool} {i:Nat} {oi:Oper} {v:Value} (hi:ops[i]? = some oi) (hsel:∀ (j:Nat) (o:Oper) cs b,ops[j]? = some o → o.op ≠ .select cs b)
    (hQ:∀ c a w,Q (.panic c) (a.put oi.dst v) w → Q (.panic c) a w) :
    ∀ (fuel:Nat) (listed:Array Bool) (S:World → Prop) (a:Act) (w:World),Closed md ops listed → (free = false → ∀ k,Z.contains k = true → listed.getD k false = true ∨ depB md ops k i = true) →
      (∀ j oj,ops[j]? = some oj → j ≠ i → listed.getD j true = false → (∀ e ∈ oj.after,Region.binds md e = true → e.on ≠ i) → oi.apart ops oj = true) →
      i ∈ Region.ready md ops listed → YieldsIf P ops (SS free S) oi v a → S w →
      wpG2 P md ops Z Q fuel (listed.setIfInBounds i true) S (a.put oi.dst v) w → wpG2 P md ops Z Q (fuel + 1) listed S a w:=by
  intro fuel
  induction fuel with
  | zero =>
    intro listed S a w hcl hz _ hr hy hS H
    refine ⟨fun h => (by rw [h] at hr; cases hr),fun j hj => ?_⟩
    by_cases hji:j = i
    · subst hji; exact hy.wpOp hi (SS.of hS) ⟨S,⟨fun _ _ h => h,hS⟩,H⟩
    · have:=ready_mono hj hji
      rw [H.1] at this
      cases this
  | succ fuel ih =>
    intro listed S a w hcl hz hfree hr hy hS H
    refine ⟨fun h => (by rw [h] at hr; cases hr),fun j hj => ?_⟩
    by_cases hji:j = i
    · subst hji; exact hy.wpOp hi (SS.of hS) ⟨S,⟨fun _ _ h => h,hS⟩,H⟩
    · have h1:=H.2 j (ready_mono hj hji)
      obtain ⟨hjun,oj,hoj,hall⟩:=mem_ready.1 hj
      have hnot:∀ e ∈ oj.after,Region.binds md e = true → e.on ≠ i:=fun e he hb heq => by
        have h1:=hall e he hb
        have h0:=(mem_ready.1 hr).1
        rw [heq] at h1
        rcases Nat.lt_or_ge i listed.size with h' | h'
        · simp [h'] at h0 h1; rw [h0] at h1; cases h1
        · simp [Array.getElem?_eq_none h'] at h1
      have h2:=wpOp_putIf hoj (hfree j oj hoj hji hjun hnot) (fun cs b => hsel i oi cs b hi) (fun cs b => hsel j oj cs b hoj) hQ hy h1
      have hfree':∀ k ok,ops[k]? = some ok → k ≠ i → (listed.setIfInBounds j true).getD k true = false →
          (∀ e ∈ ok.after,Region.binds md e = true → e.on ≠ i) → oi.apart ops ok = true:=fun k ok hk hki hun hno => by
        refine hfree k ok hk hki ?_ hno
        by_cases hjk:j = k
        · subst hjk; exact hjun
        · rw [getD_set_ne true hjk] at hun; exact hun
      have hiu:listed.getD i false = false:=by
        have hil:=(mem_ready.1 hr).1
        rcases Nat.lt_or_ge i listed.size with h' | h'
        · simp [h'] at hil ⊢; exact hil
        · simp [Array.getElem?_eq_none h']
      have hju:listed.getD j false = false:=by
        rcases Nat.lt_or_ge j listed.size with h' | h'
        · simp [h'] at hjun ⊢; exact hjun
        · simp [Array.getElem?_eq_none h']
      have hzj:free = false → Z.contains j = false:=fun hf => by
        cases hc:Z.contains j with
        | false => rfl
        | true =>
          rcases hz hf j hc with h5 | h5
          · rw [hju] at h5; cases h5
          · have:=depB_spec h5 hcl hj
            rw [hiu] at this; cases this
      have hz':free = false → ∀ k,Z.contains k = true → (listed.setIfInBounds j true).getD k false = true ∨ depB md ops k i = true:=fun hf k hk => by
        rcases hz hf k hk with h5 | h5
        · left
          by_cases hjk:j = k
          · subst hjk; rw [hju] at h5; cases h5
          · rw [getD_set_ne false hjk]; exact h5
        · exact .inr h5
      refine wpOp_mono (fun a' w' h3 => ?_) h2
      obtain ⟨hy',S',hs,H'⟩:=h3
      have hs1:∀ u,SS free S' u → SS free S u:=by
        cases free with
        | true => exact fun _ h => h
        | false => exact hs.1 (hzj rfl)
      refine ⟨S',hs,ih (listed.setIfInBounds j true) S' a' w' (hcl.set hj) hz' hfree' (ready_mono hr (Ne.symm hji)) (yieldsIf_mono hy' hs1) hs.2 ?_⟩
      rw [Array.setIfInBounds_comm _ _ hji]
      exact H'
inductive Pl where
  | done
  | q (k:Nat) (r:Pl)
  | e (k:Nat) (r:Pl)
  | two (k₁:Nat) (r₁:Pl) (k₂:Nat) (r₂:Pl)
def Pl.len:Pl → Nat
  | .done => 0
  | .q _ r => r.len + 1
  | .e _ r => r.len + 1
  | .two _ r₁ _ _ => r₁.len + 1
def wpT (P:Program) (ops:Array Oper) (Z F:List Nat) (K:Act → World → Prop):Pl → (World → Prop) → Act → World → Prop
  | .done,_,a,w => K a w
  | .q k r,S,a,w => ∃ o v,ops[k]? = some o∧YieldsIf P ops (SS (F.contains k) S) o v a∧wpT P ops Z F K r S (a.put o.dst v) w
  | .e k r,S,a,w => ∃ o,ops[k]? = some o∧wpList P ops (Qn fun a' w' => ∃ S':World → Prop,((Z.contains k = false → ∀ u,S' u → S u)∧S' w')∧wpT P ops Z F K r S' a' w') [o] a w
  | .two k₁ r₁ k₂ r₂,S,a,w => (∃ o,ops[k₁]? = some o∧wpList P ops (Qn fun a' w' => ∃ S':World → Prop,((Z.contains k₁ = false → ∀ u,S' u → S u)∧S' w')∧wpT P ops Z F K r₁ S' a' w') [o] a w)∧(∃ o,ops[k₂]? = some o∧wpList P ops (Qn fun a' w' => ∃ S':World → Prop,((Z.contains k₂ = false → ∀ u,S' u → S u)∧S' w')∧wpT P ops Z F K r₂ S' a' w') [o] a w)
def planT (md:Region.Mode) (ops:Array Oper) (Z F:List Nat):Pl → Array Bool → Bool
  | .done,listed => (Region.ready md ops listed).isEmpty
  | .q k r,listed => (Region.ready md ops listed).contains k && Region.free md ops listed k && (F.contains k || Z.all fun z => listed.getD z false || depB md ops z k) && planT md ops Z F r (listed.setIfInBounds k true)
  | .e k r,listed => decide (Region.ready md ops listed = [k]) && planT md ops Z F r (listed.setIfInBounds k true)
  | .two k₁ r₁ k₂ r₂,listed => decide (Region.ready md ops listed = [k₁,k₂]) && Nat.beq r₁.len r₂.len && planT md ops Z F r₁ (listed.setIfInBounds k₁ true) && planT md ops Z F r₂ (listed.setIfInBounds k₂ true)
theorem closed_none (n:Nat):Closed md ops (Array.replicate n false):=fun m o _ h => by
  rcases Nat.lt_or_ge m n with h' | h'
  · simp [h'] at h
  · simp [h'] at h
theorem wpT_sound (hsel:Region.noSelect ops = true) {K:Act → World → Prop}:∀ (pl:Pl) (listed:Array Bool) (S:World → Prop) (a:Act) (w:World),
    Closed md ops listed → planT md ops Z F pl listed = true → S w → wpT P ops Z F K pl S a w → wpG2 P md ops Z (Qn K) pl.len listed S a w
  | .done,listed,S,a,w,hc,hB,hS,h => ⟨by simpa [planT] using hB,rfl,h⟩
  | .q k r,listed,S,a,w,hc,hB,hS,h => by
    simp only [planT,Bool.and_eq_true] at hB
    obtain ⟨o,v,ho,hy,h⟩:=h
    refine wpG2_first ho (Region.noSelect_spec hsel) (fun c a w h => absurd h.1 (by intro e; cases e)) r.len listed S a w hc (fun hf z hz => ?_) (Region.free_spec ho hB.1.1.2) (by simpa using hB.1.1.1) hy hS (wpT_sound hsel r _ S _ w (hc.set (by simpa using hB.1.1.1)) hB.2 hS h)
    rw [hf,Bool.false_or] at hB
    have:=List.all_eq_true.1 hB.1.2 z (by simpa using hz)
    simpa using this
  | .e k r,listed,S,a,w,hc,hB,hS,h => by
    simp only [planT,Bool.and_eq_true,decide_eq_true_eq] at hB
    obtain ⟨o,ho,h⟩:=h
    refine ⟨fun h0 => (by rw [hB.1] at h0; cases h0),fun i hi => ?_⟩
    have hi':=hi
    rw [hB.1] at hi
    obtain rfl:i = k:=by simpa using hi
    have h1:=wpOp_of_one (K':=K) ho h
    exact wpOp_mono (fun a' w' ⟨S',hs,h'⟩ => ⟨S',hs,wpT_sound hsel r _ S' a' w' (hc.set hi') hB.2 hs.2 h'⟩) h1
  | .two k₁ r₁ k₂ r₂,listed,S,a,w,hc,hB,hS,h => by
    simp only [planT,Bool.and_eq_true,decide_eq_true_eq] at hB
    obtain ⟨⟨⟨hB0,hBl⟩,hB1⟩,hB2⟩:=hB
    have hl:r₂.len = r₁.len:=(Nat.eq_of_beq_eq_true hBl).symm
    obtain ⟨⟨o₁,ho₁,h₁⟩,o₂,ho₂,h₂⟩:=h
    refine ⟨fun h0 => (by rw [hB0] at h0; cases h0),fun i hi => ?_⟩
    have hi':=hi
    rw [hB0] at hi
    have hi:i = k₁ ∨ i = k₂:=by simpa using hi
    rcases hi with rfl | rfl
    · have h1:=wpOp_of_one (K':=K) ho₁ h₁
      exact wpOp_mono (fun a' w' ⟨S',hs,h'⟩ => ⟨S',hs,wpT_sound hsel r₁ _ S' a' w' (hc.set hi') hB1 hs.2 h'⟩) h1
    · have h1:=wpOp_of_one (K':=K) ho₂ h₂
      refine wpOp_mono (fun a' w' ⟨S',hs,h'⟩ => ⟨S',hs,?_⟩) h1
      have:=wpT_sound hsel r₂ _ S' a' w' (hc.set hi') hB2 hs.2 h'
      rw [hl] at this
      exact this
end
section
variable {P:Program} {Q:Exit → Act → World → Prop} {N:Nat} {ρ:Nat → Value} {w:World} {S:World → Prop}
theorem t_region {id:Nat} {l:List Oper} {H:Hp} {L L':List Res} (Z F:List Nat) (pl:Pl) (hm:P.follows .mixedOrders = true) (hs:St H w L) (hk:∀ u,St H u L → St H u L')
    (hB:(Region.noSelect l.toArray && Nat.beq pl.len l.length && planT .any l.toArray Z F pl (Array.replicate l.length false)) = true)
    (h:∀ w,St H w L → wpT P l.toArray Z F (Q .normal) pl (fun u => St H u L') (en N ρ) w):(Code.region id l.toArray true).wp P Q (en N ρ) w:=by
  simp only [Bool.and_eq_true] at hB
  obtain ⟨⟨hB1,hB2⟩,hB3⟩:=hB
  have hlen:pl.len = l.length:=Nat.eq_of_beq_eq_true hB2
  refine Code.wp_mono (Q:=Qn (Q .normal)) (fun e a w hq => by rw [hq.1]; exact hq.2) (wp_region_any hm (wpAny_of_g2 (Z:=Z) _ _ (fun u => St H u L') _ _ ?_))
  have:=wpT_sound (md:=.any) (Z:=Z) hB1 pl _ _ (en N ρ) _ (closed_none _) hB3 (hk _ (hs.drawn (w.drawn + 1))) (h _ (hs.drawn (w.drawn + 1)))
  rw [hlen] at this
  simpa using this
variable {ops:Array Oper} {Z F:List Nat} {K:Act → World → Prop} {r r₁ r₂:Pl} {k d ty:Nat} {pos:String} {aft:Array Edge} {op:Op} {v:Value}
theorem t_nil (h:K (en N ρ) w):wpT P ops Z F K .done S (en N ρ) w:=h
theorem t_st (hf:F.contains k = false) (ho:ops[k]? = some ⟨some d,op,ty,pos,aft,none⟩) (hr:∀ w,S w → Ex P N ρ w op ty v w) (h:wpT P ops Z F K r S (en N (up ρ d v)) w):wpT P ops Z F K (.q k r) S (en N ρ) w:=by
  refine ⟨_,v,ho,.inl ⟨by simp [Region.wanted],fun u hu => hr u (by rw [hf] at hu; exact hu) _ _ _ _⟩,?_⟩
  rw [en_put]; exact h
theorem t_fr (ho:ops[k]? = some ⟨some d,op,ty,pos,aft,none⟩) (hr:∀ w,True → Ex P N ρ w op ty v w) (h:wpT P ops Z F K r S (en N (up ρ d v)) w):wpT P ops Z F K (.q k r) S (en N ρ) w:=by
  refine ⟨_,v,ho,.inl ⟨by simp [Region.wanted],fun u hu => hr u trivial _ _ _ _⟩,?_⟩
  rw [en_put]; exact h
theorem t_yes {j:Nat} {b:Bool} (hf:F.contains k = false) (ho:ops[k]? = some ⟨some d,op,ty,pos,aft,some (j,b)⟩) (hy:yielded ops (en N ρ).tmps j = some b) (hr:∀ w,S w → Ex P N ρ w op ty v w) (h:wpT P ops Z F K r S (en N (up ρ d v)) w):wpT P ops Z F K (.q k r) S (en N ρ) w:=by
  refine ⟨_,v,ho,.inl ⟨by simp [Region.wanted,hy],fun u hu => hr u (by rw [hf] at hu; exact hu) _ _ _ _⟩,?_⟩
  rw [en_put]; exact h
theorem t_eff {o:Oper} (ho:ops[k]? = some o) (h:wpList P ops (Qn fun a' w' => ∃ S':World → Prop,((Z.contains k = false → ∀ u,S' u → S u)∧S' w')∧wpT P ops Z F K r S' a' w') [o] (en N ρ) w):wpT P ops Z F K (.e k r) S (en N ρ) w:=⟨o,ho,h⟩
theorem t_on {S':World → Prop} (hs:∀ u,S' u → S u) (hw:S' w) (h:wpT P ops Z F K r S' (en N ρ) w) :
    wpList P ops (Qn fun a' w' => ∃ S':World → Prop,((Z.contains k = false → ∀ u,S' u → S u)∧S' w')∧wpT P ops Z F K r S' a' w') [] (en N ρ) w:=⟨rfl,S',⟨fun _ => hs,hw⟩,h⟩
theorem t_two {k₁ k₂:Nat} (h₁:wpT P ops Z F K (.e k₁ r₁) S (en N ρ) w) (h₂:wpT P ops Z F K (.e k₂ r₂) S (en N ρ) w):wpT P ops Z F K (.two k₁ r₁ k₂ r₂) S (en N ρ) w:=⟨h₁,h₂⟩
theorem t_new {S':World → Prop} (hz:Z.contains k = true) (hw:S' w) (h:wpT P ops Z F K r S' (en N ρ) w) :
    wpList P ops (Qn fun a' w' => ∃ S':World → Prop,((Z.contains k = false → ∀ u,S' u → S u)∧S' w')∧wpT P ops Z F K r S' a' w') [] (en N ρ) w:=⟨rfl,S',⟨fun e => (by rw [hz] at e; cases e),hw⟩,h⟩
end
end Go.FM

set_option linter.unusedVariables false
set_option linter.unusedSimpArgs false
namespace Go.FM
open Go
section
variable {P:Program} {ops:Array Oper} {Q:Exit → Act → World → Prop} {md:Region.Mode} {S S' W:World → Prop} {Z F:List Nat}
def SW (W:World → Prop) (free:Bool) (S:World → Prop):World → Prop:=if free then W else S
theorem SW.of {W:World → Prop} {free:Bool} {w:World} (h:S w) (k:∀ u,S u → W u):SW W free S w:=by cases free; exact h; exact k w h
end
section
variable {P:Program} {Q:Exit → Act → World → Prop} {N:Nat} {ρ:Nat → Value} {w:World} {S:World → Prop}
variable {ops:Array Oper} {W:World → Prop} {Z F:List Nat} {K:Act → World → Prop} {r r₁ r₂:Pl} {k d ty:Nat} {pos:String} {aft:Array Edge} {op:Op} {v:Value}
end
end Go.FM

set_option linter.unusedVariables false
set_option linter.unusedSimpArgs false
namespace Go.Proofs.YtojlmilkdijiaaaDoor
open Go Go.FM Go.Proofs
attribute [local irreducible] wpList wpQuiet wpS Code.wp Calls
set_option maxHeartbeats 8000000 in
theorem has_spec {H:Hp} {w:World} {L:List Res} (hs:St H w L) (s:Nat) (i:Int) (b_s:s < 65536) (b_i:-9223372036854775808 ≤ i∧i ≤ 9223372036854775807):Calls Tryd.prog 33 #[.int .u16 ((s:Nat):Int),.int .i64 i] w (fun e w' => e = .returned (.bool (has s i))∧St H w' L):=by
 refine enter (args:=[.int .u16 ((s:Nat):Int),.int .i64 i]) (N:=18) Tryd.func33 rfl rfl rfl ?_
 refine c_seq ?_
 refine c_region ?_
 refine st (v:=.bool false) (x_assign .const) ?_
 refine c_nil ?_
 refine n_then ?_
 refine c_seq ?_
 refine c_region ?_
 refine st (v:=.int .i64 i) (x_move (.tmp rfl rfl)) ?_
 refine st (v:=.bool (decide ((0:Int) ≤ i))) (x_geq (k:=.i64) (a:=i) (b:=0) (.tmp rfl rfl) .const) ?_
 refine st (v:=.bool (decide ((0:Int) ≤ i))) (x_move (.tmp rfl rfl)) ?_
 rcases Bool.eq_false_or_eq_true (decide ((0:Int) ≤ i)) with hc1 | hc1
 have hp1:(0:Int) ≤ i:=of_decide_eq_true hc1
 refine g_yes (yl (dj:=7) (b:=true) rfl rfl (congrArg Value.bool hc1)) ?_
 refine st (v:=.int .i64 i) (x_move (.tmp rfl rfl)) ?_
 refine g_yes (yl (dj:=7) (b:=true) rfl rfl (congrArg Value.bool hc1)) ?_
 refine st (v:=.bool (decide ((i:Int) < 16))) (x_lss (k:=.i64) (a:=i) (b:=16) (.tmp rfl rfl) .const) ?_
 refine st (v:=.bool (decide ((i:Int) < 16))) (x_pick_t (.tmp rfl (congrArg Value.bool hc1)) (.tmp rfl rfl)) ?_
 refine st (v:=.bool (decide ((i:Int) < 16))) (x_move (.tmp rfl rfl)) ?_
 rcases Bool.eq_false_or_eq_true (decide ((i:Int) < 16)) with hc2 | hc2
 have hp2:(i:Int) < 16:=of_decide_eq_true hc2
 refine g_yes (yl (dj:=11) (b:=true) rfl rfl (congrArg Value.bool hc2)) ?_
 refine st (v:=.int .u16 ((s:Nat):Int)) (x_move (.tmp rfl rfl)) ?_
 refine g_yes (yl (dj:=11) (b:=true) rfl rfl (congrArg Value.bool hc2)) ?_
 refine st (v:=.int .i64 i) (x_move (.tmp rfl rfl)) ?_
 refine g_yes (yl (dj:=11) (b:=true) rfl rfl (congrArg Value.bool hc2)) ?_
 have hb3:(s / 2 ^ i.toNat) < 65536:=Nat.lt_of_le_of_lt (Nat.div_le_self _ _) b_s
 refine st (v:=.int .u16 (((s / 2 ^ i.toNat):Nat):Int)) (x_shr (k:=.u16) (m:=s) (b:=i) rfl (.tmp rfl rfl) (.tmp rfl rfl) (by omega) (show _ < 2 ^ 16 from b_s)) ?_
 refine g_yes (yl (dj:=11) (b:=true) rfl rfl (congrArg Value.bool hc2)) ?_
 have hb4:((s / 2 ^ i.toNat) &&& 1) < 65536:=Nat.lt_of_le_of_lt Nat.and_le_left hb3
 refine st (v:=.int .u16 ((((s / 2 ^ i.toNat) &&& 1):Nat):Int)) (x_and (k:=.u16) (m:=(s / 2 ^ i.toNat)) (n:=1) rfl (.tmp rfl rfl) .const (show _ < 2 ^ 16 from hb3) (show _ < 2 ^ 16 from (by decide))) ?_
 refine g_yes (yl (dj:=11) (b:=true) rfl rfl (congrArg Value.bool hc2)) ?_
 refine st (v:=.bool (decide ((((((s / 2 ^ i.toNat) &&& 1):Nat):Int):Int) = 1))) (x_eql (k:=.u16) (a:=((((s / 2 ^ i.toNat) &&& 1):Nat):Int)) (b:=1) (.tmp rfl rfl) .const) ?_
 refine st (v:=.bool (decide ((((((s / 2 ^ i.toNat) &&& 1):Nat):Int):Int) = 1))) (x_pick_t (.tmp rfl (congrArg Value.bool hc2)) (.tmp rfl rfl)) ?_
 refine st (v:=.bool (decide ((((((s / 2 ^ i.toNat) &&& 1):Nat):Int):Int) = 1))) (x_assign (.tmp rfl rfl)) ?_
 refine c_nil ?_
 refine n_then ?_
 refine c_ret ?_
 refine leave_ret (res_one (v:=.bool (decide ((((((s / 2 ^ i.toNat) &&& 1):Nat):Int):Int) = 1))) rfl (.mk rfl rfl)) ?_
 exact ⟨congrArg (fun b => Ending.returned (.bool b)) (has_yes (by omega) (by omega)),hs⟩
 have hp2:¬ ((i:Int) < 16):=of_decide_eq_false hc2
 refine g_no (yl (dj:=11) (b:=false) rfl rfl (congrArg Value.bool hc2)) rfl ?_
 refine g_no (yl (dj:=11) (b:=false) rfl rfl (congrArg Value.bool hc2)) rfl ?_
 refine g_no (yl (dj:=11) (b:=false) rfl rfl (congrArg Value.bool hc2)) rfl ?_
 refine g_no (yl (dj:=11) (b:=false) rfl rfl (congrArg Value.bool hc2)) rfl ?_
 refine g_no (yl (dj:=11) (b:=false) rfl rfl (congrArg Value.bool hc2)) rfl ?_
 refine st (v:=.bool false) (x_pick_f (.tmp rfl (congrArg Value.bool hc2)) .const) ?_
 refine st (v:=.bool false) (x_assign (.tmp rfl rfl)) ?_
 refine c_nil ?_
 refine n_then ?_
 refine c_ret ?_
 refine leave_ret (res_one (v:=.bool false) rfl (.mk rfl rfl)) ?_
 exact ⟨congrArg (fun b => Ending.returned (.bool b)) (has_no (by omega)),hs⟩
 have hp1:¬ ((0:Int) ≤ i):=of_decide_eq_false hc1
 refine g_no (yl (dj:=7) (b:=false) rfl rfl (congrArg Value.bool hc1)) rfl ?_
 refine g_no (yl (dj:=7) (b:=false) rfl rfl (congrArg Value.bool hc1)) rfl ?_
 refine st (v:=.bool false) (x_pick_f (.tmp rfl (congrArg Value.bool hc1)) .const) ?_
 refine st (v:=.bool false) (x_move (.tmp rfl rfl)) ?_
 refine g_no (yl (dj:=11) (b:=false) rfl rfl rfl) rfl ?_
 refine g_no (yl (dj:=11) (b:=false) rfl rfl rfl) rfl ?_
 refine g_no (yl (dj:=11) (b:=false) rfl rfl rfl) rfl ?_
 refine g_no (yl (dj:=11) (b:=false) rfl rfl rfl) rfl ?_
 refine g_no (yl (dj:=11) (b:=false) rfl rfl rfl) rfl ?_
 refine st (v:=.bool false) (x_pick_f (.tmp rfl rfl) .const) ?_
 refine st (v:=.bool false) (x_assign (.tmp rfl rfl)) ?_
 refine c_nil ?_
 refine n_then ?_
 refine c_ret ?_
 refine leave_ret (res_one (v:=.bool false) rfl (.mk rfl rfl)) ?_
 exact ⟨congrArg (fun b => Ending.returned (.bool b)) (has_no (by omega)),hs⟩
set_option maxHeartbeats 8000000 in
theorem with_spec {H:Hp} {w:World} {L:List Res} (hs:St H w L) (s:Nat) (i:Int) (b_s:s < 65536) (b_i:-9223372036854775808 ≤ i∧i ≤ 9223372036854775807):Calls Tryd.prog 39 #[.int .u16 ((s:Nat):Int),.int .i64 i] w (fun e w' => e = .returned (.int .u16 ((wth s i:Nat):Int))∧St H w' L):=by
 refine enter (args:=[.int .u16 ((s:Nat):Int),.int .i64 i]) (N:=16) Tryd.func39 rfl rfl rfl ?_
 refine c_seq ?_
 refine c_region ?_
 refine st (v:=.int .u16 0) (x_assign .const) ?_
 refine c_nil ?_
 refine n_then ?_
 refine c_seq ?_
 refine c_seq ?_
 refine c_region ?_
 refine st (v:=.int .i64 i) (x_move (.tmp rfl rfl)) ?_
 refine st (v:=.bool (decide ((0:Int) ≤ i))) (x_geq (k:=.i64) (a:=i) (b:=0) (.tmp rfl rfl) .const) ?_
 refine st (v:=.bool (decide ((0:Int) ≤ i))) (x_move (.tmp rfl rfl)) ?_
 rcases Bool.eq_false_or_eq_true (decide ((0:Int) ≤ i)) with hc1 | hc1
 have hp1:(0:Int) ≤ i:=of_decide_eq_true hc1
 refine g_yes (yl (dj:=7) (b:=true) rfl rfl (congrArg Value.bool hc1)) ?_
 refine st (v:=.int .i64 i) (x_move (.tmp rfl rfl)) ?_
 refine g_yes (yl (dj:=7) (b:=true) rfl rfl (congrArg Value.bool hc1)) ?_
 refine st (v:=.bool (decide ((i:Int) < 16))) (x_lss (k:=.i64) (a:=i) (b:=16) (.tmp rfl rfl) .const) ?_
 refine st (v:=.bool (decide ((i:Int) < 16))) (x_pick_t (.tmp rfl (congrArg Value.bool hc1)) (.tmp rfl rfl)) ?_
 refine c_nil ?_
 refine n_then ?_
 rcases Bool.eq_false_or_eq_true (decide ((i:Int) < 16)) with hc2 | hc2
 have hp2:(i:Int) < 16:=of_decide_eq_true hc2
 refine c_cond_t (t:=true) (.tmp rfl (congrArg Value.bool hc2)) rfl ?_
 refine c_region ?_
 refine st (v:=.int .u16 ((s:Nat):Int)) (x_move (.tmp rfl rfl)) ?_
 refine st (v:=.int .i64 i) (x_move (.tmp rfl rfl)) ?_
 have hb3:(1 * 2 ^ i.toNat % 65536) < 65536:=Nat.mod_lt _ (by decide)
 refine st (v:=.int .u16 (((1 * 2 ^ i.toNat % 65536):Nat):Int)) (x_shl (k:=.u16) (m:=1) (b:=i) rfl .const (.tmp rfl rfl) (by omega)) ?_
 have hb4:(s ||| (1 * 2 ^ i.toNat % 65536)) < 65536:=Nat.or_lt_two_pow (n:=16) b_s hb3
 refine st (v:=.int .u16 (((s ||| (1 * 2 ^ i.toNat % 65536)):Nat):Int)) (x_or (k:=.u16) (m:=s) (n:=(1 * 2 ^ i.toNat % 65536)) rfl (.tmp rfl rfl) (.tmp rfl rfl) (show _ < 2 ^ 16 from b_s) (show _ < 2 ^ 16 from hb3)) ?_
 refine st (v:=.int .u16 (((s ||| (1 * 2 ^ i.toNat % 65536)):Nat):Int)) (x_assign (.tmp rfl rfl)) ?_
 refine c_nil ?_
 refine n_then ?_
 refine c_seq ?_
 refine c_region ?_
 refine st (v:=.int .u16 (((s ||| (1 * 2 ^ i.toNat % 65536)):Nat):Int)) (x_move (.tmp rfl rfl)) ?_
 refine st (v:=.int .u16 (((s ||| (1 * 2 ^ i.toNat % 65536)):Nat):Int)) (x_assign (.tmp rfl rfl)) ?_
 refine c_nil ?_
 refine n_then ?_
 refine c_ret ?_
 refine leave_ret (res_one (v:=.int .u16 (((s ||| (1 * 2 ^ i.toNat % 65536)):Nat):Int)) rfl (.mk rfl rfl)) ?_
 exact ⟨by simp only [wth]; first | (rw [if_neg (by omega)]) | (rw [if_pos (by omega),Nat.one_mul,Nat.mod_eq_of_lt (bit_lt (by omega))]),hs⟩
 have hp2:¬ ((i:Int) < 16):=of_decide_eq_false hc2
 refine c_cond_f (t:=false) (.tmp rfl (congrArg Value.bool hc2)) rfl ?_
 refine c_skip ?_
 refine n_then ?_
 refine c_seq ?_
 refine c_region ?_
 refine st (v:=.int .u16 ((s:Nat):Int)) (x_move (.tmp rfl rfl)) ?_
 refine st (v:=.int .u16 ((s:Nat):Int)) (x_assign (.tmp rfl rfl)) ?_
 refine c_nil ?_
 refine n_then ?_
 refine c_ret ?_
 refine leave_ret (res_one (v:=.int .u16 ((s:Nat):Int)) rfl (.mk rfl rfl)) ?_
 exact ⟨by simp only [wth]; first | (rw [if_neg (by omega)]) | (rw [if_pos (by omega),Nat.one_mul,Nat.mod_eq_of_lt (bit_lt (by omega))]),hs⟩
 have hp1:¬ ((0:Int) ≤ i):=of_decide_eq_false hc1
 refine g_no (yl (dj:=7) (b:=false) rfl rfl (congrArg Value.bool hc1)) rfl ?_
 refine g_no (yl (dj:=7) (b:=false) rfl rfl (congrArg Value.bool hc1)) rfl ?_
 refine st (v:=.bool false) (x_pick_f (.tmp rfl (congrArg Value.bool hc1)) .const) ?_
 refine c_nil ?_
 refine n_then ?_
 refine c_cond_f (t:=false) (.tmp rfl rfl) rfl ?_
 refine c_skip ?_
 refine n_then ?_
 refine c_seq ?_
 refine c_region ?_
 refine st (v:=.int .u16 ((s:Nat):Int)) (x_move (.tmp rfl rfl)) ?_
 refine st (v:=.int .u16 ((s:Nat):Int)) (x_assign (.tmp rfl rfl)) ?_
 refine c_nil ?_
 refine n_then ?_
 refine c_ret ?_
 refine leave_ret (res_one (v:=.int .u16 ((s:Nat):Int)) rfl (.mk rfl rfl)) ?_
 exact ⟨by simp only [wth]; first | (rw [if_neg (by omega)]) | (rw [if_pos (by omega),Nat.one_mul,Nat.mod_eq_of_lt (bit_lt (by omega))]),hs⟩
set_option maxHeartbeats 8000000 in
theorem without_spec {H:Hp} {w:World} {L:List Res} (hs:St H w L) (s:Nat) (i:Int) (b_s:s < 65536) (b_i:-9223372036854775808 ≤ i∧i ≤ 9223372036854775807):Calls Tryd.prog 30 #[.int .u16 ((s:Nat):Int),.int .i64 i] w (fun e w' => e = .returned (.int .u16 ((wto s i:Nat):Int))∧St H w' L):=by
 refine enter (args:=[.int .u16 ((s:Nat):Int),.int .i64 i]) (N:=16) Tryd.func30 rfl rfl rfl ?_
 refine c_seq ?_
 refine c_region ?_
 refine st (v:=.int .u16 0) (x_assign .const) ?_
 refine c_nil ?_
 refine n_then ?_
 refine c_seq ?_
 refine c_seq ?_
 refine c_region ?_
 refine st (v:=.int .i64 i) (x_move (.tmp rfl rfl)) ?_
 refine st (v:=.bool (decide ((0:Int) ≤ i))) (x_geq (k:=.i64) (a:=i) (b:=0) (.tmp rfl rfl) .const) ?_
 refine st (v:=.bool (decide ((0:Int) ≤ i))) (x_move (.tmp rfl rfl)) ?_
 rcases Bool.eq_false_or_eq_true (decide ((0:Int) ≤ i)) with hc1 | hc1
 have hp1:(0:Int) ≤ i:=of_decide_eq_true hc1
 refine g_yes (yl (dj:=7) (b:=true) rfl rfl (congrArg Value.bool hc1)) ?_
 refine st (v:=.int .i64 i) (x_move (.tmp rfl rfl)) ?_
 refine g_yes (yl (dj:=7) (b:=true) rfl rfl (congrArg Value.bool hc1)) ?_
 refine st (v:=.bool (decide ((i:Int) < 16))) (x_lss (k:=.i64) (a:=i) (b:=16) (.tmp rfl rfl) .const) ?_
 refine st (v:=.bool (decide ((i:Int) < 16))) (x_pick_t (.tmp rfl (congrArg Value.bool hc1)) (.tmp rfl rfl)) ?_
 refine c_nil ?_
 refine n_then ?_
 rcases Bool.eq_false_or_eq_true (decide ((i:Int) < 16)) with hc2 | hc2
 have hp2:(i:Int) < 16:=of_decide_eq_true hc2
 refine c_cond_t (t:=true) (.tmp rfl (congrArg Value.bool hc2)) rfl ?_
 refine c_region ?_
 refine st (v:=.int .u16 ((s:Nat):Int)) (x_move (.tmp rfl rfl)) ?_
 refine st (v:=.int .i64 i) (x_move (.tmp rfl rfl)) ?_
 have hb3:(1 * 2 ^ i.toNat % 65536) < 65536:=Nat.mod_lt _ (by decide)
 refine st (v:=.int .u16 (((1 * 2 ^ i.toNat % 65536):Nat):Int)) (x_shl (k:=.u16) (m:=1) (b:=i) rfl .const (.tmp rfl rfl) (by omega)) ?_
 have hb4:(s &&& (65535 - (1 * 2 ^ i.toNat % 65536))) < 65536:=Nat.lt_of_le_of_lt Nat.and_le_left b_s
 refine st (v:=.int .u16 (((s &&& (65535 - (1 * 2 ^ i.toNat % 65536))):Nat):Int)) (x_andNot (k:=.u16) (m:=s) (n:=(1 * 2 ^ i.toNat % 65536)) rfl (.tmp rfl rfl) (.tmp rfl rfl) (show _ < 2 ^ 16 from b_s) (show _ < 2 ^ 16 from hb3)) ?_
 refine st (v:=.int .u16 (((s &&& (65535 - (1 * 2 ^ i.toNat % 65536))):Nat):Int)) (x_assign (.tmp rfl rfl)) ?_
 refine c_nil ?_
 refine n_then ?_
 refine c_seq ?_
 refine c_region ?_
 refine st (v:=.int .u16 (((s &&& (65535 - (1 * 2 ^ i.toNat % 65536))):Nat):Int)) (x_move (.tmp rfl rfl)) ?_
 refine st (v:=.int .u16 (((s &&& (65535 - (1 * 2 ^ i.toNat % 65536))):Nat):Int)) (x_assign (.tmp rfl rfl)) ?_
 refine c_nil ?_
 refine n_then ?_
 refine c_ret ?_
 refine leave_ret (res_one (v:=.int .u16 (((s &&& (65535 - (1 * 2 ^ i.toNat % 65536))):Nat):Int)) rfl (.mk rfl rfl)) ?_
 exact ⟨by simp only [wto]; first | (rw [if_neg (by omega)]) | (rw [if_pos (by omega),Nat.one_mul,Nat.mod_eq_of_lt (bit_lt (by omega))]),hs⟩
 have hp2:¬ ((i:Int) < 16):=of_decide_eq_false hc2
 refine c_cond_f (t:=false) (.tmp rfl (congrArg Value.bool hc2)) rfl ?_
 refine c_skip ?_
 refine n_then ?_
 refine c_seq ?_
 refine c_region ?_
 refine st (v:=.int .u16 ((s:Nat):Int)) (x_move (.tmp rfl rfl)) ?_
 refine st (v:=.int .u16 ((s:Nat):Int)) (x_assign (.tmp rfl rfl)) ?_
 refine c_nil ?_
 refine n_then ?_
 refine c_ret ?_
 refine leave_ret (res_one (v:=.int .u16 ((s:Nat):Int)) rfl (.mk rfl rfl)) ?_
 exact ⟨by simp only [wto]; first | (rw [if_neg (by omega)]) | (rw [if_pos (by omega),Nat.one_mul,Nat.mod_eq_of_lt (bit_lt (by omega))]),hs⟩
 have hp1:¬ ((0:Int) ≤ i):=of_decide_eq_false hc1
 refine g_no (yl (dj:=7) (b:=false) rfl rfl (congrArg Value.bool hc1)) rfl ?_
 refine g_no (yl (dj:=7) (b:=false) rfl rfl (congrArg Value.bool hc1)) rfl ?_
 refine st (v:=.bool false) (x_pick_f (.tmp rfl (congrArg Value.bool hc1)) .const) ?_
 refine c_nil ?_
 refine n_then ?_
 refine c_cond_f (t:=false) (.tmp rfl rfl) rfl ?_
 refine c_skip ?_
 refine n_then ?_
 refine c_seq ?_
 refine c_region ?_
 refine st (v:=.int .u16 ((s:Nat):Int)) (x_move (.tmp rfl rfl)) ?_
 refine st (v:=.int .u16 ((s:Nat):Int)) (x_assign (.tmp rfl rfl)) ?_
 refine c_nil ?_
 refine n_then ?_
 refine c_ret ?_
 refine leave_ret (res_one (v:=.int .u16 ((s:Nat):Int)) rfl (.mk rfl rfl)) ?_
 exact ⟨by simp only [wto]; first | (rw [if_neg (by omega)]) | (rw [if_pos (by omega),Nat.one_mul,Nat.mod_eq_of_lt (bit_lt (by omega))]),hs⟩
theorem least_spec2 {H:Hp} {w:World} {L:List Res} (hs:St H w L) (htab:Tab H) (s:Nat) (b_s:s < 65536) (h0:s ≠ 0):Calls Tryd.prog 48 #[.int .u16 ((s:Nat):Int)] w (fun e w' => e = .returned (.int .i64 ((low 16 s:Nat):Int))∧St H w' L):=by
  have:=least_spec hs htab s b_s
  simp only [least,if_neg h0] at this
  exact this
set_option maxHeartbeats 8000000 in
theorem list_spec {H:Hp} {w:World} {L:List Res} (hs:St H w L) (htab:Tab H) (s:Nat) (b_s:s < 65536):Calls Tryd.prog 32 #[.int .u16 ((s:Nat):Int)] w (fun e w' => ∃ v,e = .returned v∧RowOk 1 v (lst s).length ((lst s).map encI)∧St H w' (row 3 1 v (lst s).length ((lst s).map encI)::L)):=by
 refine enter (args:=[.int .u16 ((s:Nat):Int)]) (N:=16) Tryd.func32 rfl rfl rfl ?_
 refine c_seq ?_
 refine c_region ?_
 refine st (v:=.slice none 0 0) (x_assign .const) ?_
 refine c_nil ?_
 refine n_then ?_
 refine c_seq ?_
 refine c_region ?_
 refine st (v:=.slice none 0 0) (x_assign .const) ?_
 refine c_nil ?_
 refine n_then ?_
 refine c_seq ?_
 refine c_block ?_
 have hs0:=hs.rowNil 3 1
 refine c_loop (fun ρ w mm => ∃ (r:Nat) (v:Value) (pre:List Nat),ρ 0 = .int .u16 ((r:Nat):Int)∧ρ 3 = v∧(r < 65536)∧(lst s = pre ++ lst r)∧(RowOk 1 v pre.length (pre.map encI))∧St H w (row 3 1 v pre.length (pre.map encI)::L)∧mm = (lst r).length) _ ⟨s,(.slice none 0 0),[],rfl,rfl,b_s,(by simp),(RowOk.nil 1),hs0,rfl⟩ ?_
 rintro ρ w mm ⟨r,v,pre,hρ2,hρ3,hr,hl,ok,hs4,rfl⟩
 refine c_seq ?_
 refine c_seq ?_
 refine c_region ?_
 refine st (v:=.int .u16 ((r:Nat):Int)) (x_move (.tmp rfl hρ2)) ?_
 refine st (v:=.bool (decide ((((r:Nat):Int):Int) ≠ 0))) (x_neq (k:=.u16) (a:=((r:Nat):Int)) (b:=0) (.tmp rfl rfl) .const) ?_
 refine c_nil ?_
 refine n_then ?_
 rcases Bool.eq_false_or_eq_true (decide ((((r:Nat):Int):Int) ≠ 0)) with hc5 | hc5
 have hp5:(((r:Nat):Int):Int) ≠ 0:=of_decide_eq_true hc5
 refine c_cond_t (t:=true) (.tmp rfl (congrArg Value.bool hc5)) rfl ?_
 refine c_skip ?_
 refine n_then ?_
 refine c_block ?_
 refine c_seq ?_
 refine c_region ?_
 refine st (v:=v) (x_move (.tmp rfl hρ3)) ?_
 refine st (v:=.int .u16 ((r:Nat):Int)) (x_move (.tmp rfl hρ2)) ?_
 refine st_c cb48 .func (evs1 (.tmp rfl rfl)) (least_spec2 hs4 htab r hr (by omega)) ?_
 rintro e w6 ⟨rfl,hs7⟩
 refine ⟨_,rfl,?_⟩
 refine st_m (m_lit (n:=1) (ps:=[(0,.int .i64 ((low 16 r:Nat):Int))]) (cs:=[.int .i64 ((low 16 r:Nat):Int)]) Tryd.underlying52 inf3 (.cons (.tmp rfl rfl) Evp.nil) (by decide) (by decide) rfl rfl hs7) ?_
 rintro _ w9 ⟨g8,rfl,hs11⟩
 have hln:=lst_pred r (by omega) hr
 have hll:(lst s).length ≤ 16:=by rw [lst_length]; exact pc_le 16 s
 have hl2:pre.length + (lst r).length ≤ 16:=by rw [hl] at hll; simpa using hll
 have hl3:1 ≤ (lst r).length:=by rw [hln]; simp
 have hs12:=hs11.p1
 refine st_m (m_app (news:=[.int .i64 ((low 16 r:Nat):Int)]) (m:=1) Tryd.underlying52 inf3 rfl (by decide) hs12 ok (.tmp rfl rfl) (.tmp rfl rfl) rfl (hs12.at_ 1 rfl 0 rfl) (by simp [Value.oneCell']) (by omega) (by decide)) ?_
 rintro v13 w14 ⟨ok16,hs17⟩
 refine st (v:=v13) (x_assign (.tmp rfl rfl)) ?_
 refine c_nil ?_
 refine n_then ?_
 refine c_region ?_
 refine st (v:=.int .u16 ((r:Nat):Int)) (x_move (.tmp rfl hρ2)) ?_
 refine st (v:=.int .u16 ((r:Nat):Int)) (x_move (.tmp rfl hρ2)) ?_
 have hb18:(r - 1) < 65536:=by omega
 refine st (v:=.int .u16 (((r - 1):Nat):Int)) (x_sub (k:=.u16) (a:=((r:Nat):Int)) (b:=1) (.tmp rfl rfl) .const (wU rfl (by omega) hb18)) ?_
 have hb19:(r &&& (r - 1)) < 65536:=Nat.lt_of_le_of_lt Nat.and_le_left hr
 refine st (v:=.int .u16 (((r &&& (r - 1)):Nat):Int)) (x_and (k:=.u16) (m:=r) (n:=(r - 1)) rfl (.tmp rfl rfl) (.tmp rfl rfl) (show _ < 2 ^ 16 from hr) (show _ < 2 ^ 16 from hb18)) ?_
 refine st (v:=.int .u16 (((r &&& (r - 1)):Nat):Int)) (x_assign (.tmp rfl rfl)) ?_
 refine c_nil ?_
 refine n_block ?_
 refine n_then ⟨_,_,rfl,?_,(r &&& (r - 1)),v13,(pre ++ [low 16 r]),rfl,rfl,(Nat.lt_of_le_of_lt Nat.and_le_left hr),(by rw [hl,lst_pred r (by omega) hr]; simp),(RowOk.snoc (enc:=encI) ok16),(St.rowSnoc (enc:=encI) hs17.drop2),rfl⟩
 exact (by rw [lst_pred r (by omega) hr]; simp)
 have hp5:¬ ((((r:Nat):Int):Int) ≠ 0):=of_decide_eq_false hc5
 refine c_cond_f (t:=false) (.tmp rfl (congrArg Value.bool hc5)) rfl ?_
 refine c_exit ?_
 refine x_then ?_
 refine x_then ?_
 refine x_here ?_
 refine n_then ?_
 refine c_seq ?_
 refine c_region ?_
 refine st (v:=v) (x_move (.tmp rfl hρ3)) ?_
 refine st (v:=v) (x_assign (.tmp rfl rfl)) ?_
 refine c_nil ?_
 refine n_then ?_
 refine c_ret ?_
 refine leave_ret (res_one (v:=v) rfl (.mk rfl rfl)) ?_
 have er:r = 0:=by omega
 have e:lst s = pre:=by rw [hl,er,lst,els_zero,List.append_nil]
 exact ⟨v,rfl,by rw [e]; exact ok,by rw [e]; exact hs4⟩
end Go.Proofs.YtojlmilkdijiaaaDoor

set_option linter.unusedVariables false
set_option linter.unusedSimpArgs false
namespace Go.Proofs.YtojlmilkdijiaaaDoor
open Go Go.FM Go.Proofs
attribute [local irreducible] wpList wpQuiet wpS Code.wp Calls
theorem with_cl {H:Hp} {w:World} {L:List Res} (hs:St H w L) (s:Nat) (b_s:s < 65536) (i:Int) (b_i:IB i):Calls Tryd.prog 39 #[.int .u16 ((s:Nat):Int),.int .i64 i] w (fun e w' => e = .returned (.int .u16 ((wth s i:Nat):Int))∧St H w' L):=with_spec hs s i b_s b_i
theorem without_cl {H:Hp} {w:World} {L:List Res} (hs:St H w L) (s:Nat) (b_s:s < 65536) (i:Int) (b_i:IB i):Calls Tryd.prog 30 #[.int .u16 ((s:Nat):Int),.int .i64 i] w (fun e w' => e = .returned (.int .u16 ((wto s i:Nat):Int))∧St H w' L):=without_spec hs s i b_s b_i
end Go.Proofs.YtojlmilkdijiaaaDoor

set_option linter.unusedVariables false
set_option linter.unusedSimpArgs false
namespace Go.Proofs.YtojlmilkdijiaaaDoor
open Go Go.FM Go.Proofs
attribute [local irreducible] wpList wpQuiet wpS Code.wp Calls
set_option maxHeartbeats 8000000 in
theorem delete_pk {H:Hp} {w:World} {L:List Res} {v_s:Value} {c_s:List Value} {s:(List Pk)} (hs:St H w (row 37 3 v_s s.length c_s::L)) (ok_s:RowOk kPk.sz v_s s.length c_s) (hk_s:kPk.toKn.rows H s c_s) (m:Nat)  (hm:m < s.length):Calls Tryd.prog 49 #[v_s,.int .i64 ((m:Nat):Int),.int .i64 ((m + 1:Nat):Int)] w (fun e w' => ∃ (v0:Value) (cs0:List Value),e = .returned (v0)∧RowOk kPk.sz v0 (s.eraseIdx m).length cs0∧kPk.toKn.rows H (s.eraseIdx m) cs0∧St H w' (row 37 kPk.sz v0 (s.eraseIdx m).length cs0::L)):=by
 have:s.length ≤ 9223372036854775807:=ok_s.2.1
 refine enter (args:=[v_s,.int .i64 ((m:Nat):Int),.int .i64 (((m + 1):Nat):Int)]) (N:=33) Tryd.func49 rfl rfl rfl ?_
 obtain ⟨g1,cap2,rfl⟩:=ok_s.pos (by omega)
 have hcl:c_s.length = s.length * 3:=ok_s.1
 have hcp:s.length ≤ cap2:=by obtain ⟨A,c,h1,h2⟩:=ok_s.slice; injection h1 with _ _ h1; rw [h1]; exact h2
 refine c_seq ?_
 refine c_region ?_
 refine st (v:=.slice none 0 0) (x_assign .const) ?_
 refine c_nil ?_
 refine n_then ?_
 refine c_seq ?_
 refine c_region ?_
 refine st (v:=.slice (some ⟨g1,0,none⟩) s.length cap2) (x_move (.tmp rfl rfl)) ?_
 refine st (v:=.int .i64 ((m:Nat):Int)) (x_move (.tmp rfl rfl)) ?_
 refine st (v:=.int .i64 (((m + 1):Nat):Int)) (x_move (.tmp rfl rfl)) ?_
 refine st (v:=.slice (some ⟨g1,0,none⟩) s.length cap2) (x_move (.tmp rfl rfl)) ?_
 refine st (v:=.int .i64 ((s.length:Nat):Int)) (x_len (n:=s.length) Tryd.underlying51 (.tmp rfl rfl)) ?_
 refine st (v:=.slice (cutA (some ⟨g1,0,none⟩) s.length m kPk.sz) (m + 1 - m) (s.length - m)) (sl_lhm (d:=kPk) Tryd.underlying51 inf37 (a:=((m:Nat):Int)) (b:=(((m + 1):Nat):Int)) (mc:=s.length) (.tmp rfl rfl) (.tmp rfl rfl) (.tmp rfl rfl) (.tmp rfl rfl) (by omega) (by omega) (by omega) (by omega)) ?_
 refine c_nil ?_
 refine n_then ?_
 refine c_seq ?_
 refine c_seq ?_
 refine c_region ?_
 refine st (v:=.int .i64 ((m:Nat):Int)) (x_move (.tmp rfl rfl)) ?_
 refine st (v:=.int .i64 (((m + 1):Nat):Int)) (x_move (.tmp rfl rfl)) ?_
 refine st (v:=.bool (decide ((((m:Nat):Int):Int) = (((m + 1):Nat):Int)))) (x_eql (k:=.i64) (a:=((m:Nat):Int)) (b:=(((m + 1):Nat):Int)) (.tmp rfl rfl) (.tmp rfl rfl)) ?_
 refine c_nil ?_
 refine n_then ?_
 have hc3:(decide ((((m:Nat):Int):Int) = (((m + 1):Nat):Int))) = false:=decide_eq_false (by omega)
 refine c_cond_f (t:=false) (.tmp rfl (congrArg Value.bool hc3)) rfl ?_
 refine c_skip ?_
 refine n_then ?_
 refine c_seq ?_
 refine c_region ?_
 refine st (v:=.slice (some ⟨g1,0,none⟩) s.length cap2) (x_move (.tmp rfl rfl)) ?_
 refine st (v:=.int .i64 ((s.length:Nat):Int)) (x_len (n:=s.length) Tryd.underlying51 (.tmp rfl rfl)) ?_
 refine st (v:=.int .i64 ((s.length:Nat):Int)) (x_assign (.tmp rfl rfl)) ?_
 refine c_nil ?_
 refine n_then ?_
 refine c_seq ?_
 refine s_region (L:=row 37 3 (.slice (some ⟨g1,0,none⟩) s.length cap2) s.length c_s::L) (L':=L) none [(0,true),(1,true),(2,true),(3,true),(4,true),(5,true),(6,false),(7,true)] mixed hs (fun u hu => hu.drop) (by kernel_rfl) ?_
 intro w4 hs5
 refine s_st (k:=0) (v:=.slice (some ⟨g1,0,none⟩) s.length cap2) rfl (fun w hs => (x_move (.tmp rfl rfl))) ?_
 refine s_st (k:=1) (v:=.int .i64 ((m:Nat):Int)) rfl (fun w hs => (x_move (.tmp rfl rfl))) ?_
 refine s_st (k:=2) (v:=.slice (some ⟨g1,0,none⟩) m cap2) rfl (fun w hs => (sl_h (d:=kPk) Tryd.underlying51 inf37 (a:=((m:Nat):Int)) (.tmp rfl rfl) (.tmp rfl rfl) (by omega) (by omega))) ?_
 refine s_st (k:=3) (v:=.slice (some ⟨g1,0,none⟩) s.length cap2) rfl (fun w hs => (x_move (.tmp rfl rfl))) ?_
 refine s_st (k:=4) (v:=.int .i64 (((m + 1):Nat):Int)) rfl (fun w hs => (x_move (.tmp rfl rfl))) ?_
 refine s_st (k:=5) (v:=.slice (cutA (some ⟨g1,0,none⟩) cap2 (m + 1) kPk.sz) (s.length - (m + 1)) (cap2 - (m + 1))) rfl (fun w hs => (sl_l (d:=kPk) Tryd.underlying51 inf37 (a:=(((m + 1):Nat):Int)) (.tmp rfl rfl) (.tmp rfl rfl) (by omega) (by omega) (by omega))) ?_
 refine s_eff (k:=6) rfl ?_
 obtain ⟨a,hca,hat⟩:=cutA_at (l:=m + 1) hs5 ok_s (by omega)
 refine st_m (m_appSelf Tryd.underlying51 inf37 hs5 ok_s rfl (.tmp rfl rfl) (.tmp rfl (congrArg (fun A => Value.slice A (s.length - (m + 1)) (cap2 - (m + 1))) hca)) hat (by rw [List.length_drop,hcl,Nat.sub_mul]) (fun u hu => Kn.rows_one_cell hk_s u (List.mem_of_mem_drop hu)) (by omega)) ?_
 rintro _ w6 ⟨rfl,hs7⟩
 have hs7:St H _ (row 37 3 (.slice (some ⟨g1,0,none⟩) s.length cap2) s.length (splice c_s (m * 3) (c_s.drop ((m + 1) * 3)))::L):=hs7
 refine s_on (S':=fun u => St H u (L)) (fun u hu => hu) hs7.drop ?_
 refine s_st (k:=7) (v:=.slice (some ⟨g1,0,none⟩) (s.length - 1) cap2) rfl (fun w hs => (x_assign (.tmp rfl (congrArg (fun q => Value.slice (some ⟨g1,0,none⟩) q cap2) (show m + (s.length - (m + 1)) = s.length - 1 by omega))))) ?_
 refine s_nil ?_
 refine n_then ?_
 refine c_seq ?_
 refine c_region ?_
 refine st (v:=.slice (some ⟨g1,0,none⟩) (s.length - 1) cap2) (x_move (.tmp rfl rfl)) ?_
 refine st (v:=.slice (some ⟨g1,0,none⟩) (s.length - 1) cap2) (x_move (.tmp rfl rfl)) ?_
 refine st (v:=.int .i64 (((s.length - 1):Nat):Int)) (x_len (n:=(s.length - 1)) Tryd.underlying51 (.tmp rfl rfl)) ?_
 refine st (v:=.int .i64 ((s.length:Nat):Int)) (x_move (.tmp rfl rfl)) ?_
 refine st (v:=.slice (cutA (some ⟨g1,0,none⟩) cap2 (s.length - 1) kPk.sz) (s.length - (s.length - 1)) (cap2 - (s.length - 1))) (sl_lh (d:=kPk) Tryd.underlying51 inf37 (a:=(((s.length - 1):Nat):Int)) (b:=((s.length:Nat):Int)) (.tmp rfl rfl) (.tmp rfl rfl) (.tmp rfl rfl) (by omega) (by omega) (by omega)) ?_
 have hln:(splice c_s (m * 3) (c_s.drop ((m + 1) * 3))).length = s.length * 3:=by rw [splice_length (by rw [List.length_drop,hcl]; omega),hcl]
 refine st_mv0 (m_clearRow (dn:=s.length - (s.length - 1)) (o:=(s.length - 1) * 3) Tryd.underlying51 inf37 rfl (by decide) hs7 rfl (.tmp rfl (congrArg (fun A => Value.slice A (s.length - (s.length - 1)) (cap2 - (s.length - 1))) (cutA_some (size:=3) (by omega)))) (by rw [hln]; omega) (oneA rfl)) ?_
 rintro _ w8 hs9
 have hs9:St H _ (row 37 3 (.slice (some ⟨g1,0,none⟩) s.length cap2) s.length (splice (splice c_s (m * 3) (c_s.drop ((m + 1) * 3))) ((s.length - 1) * 3) ((List.replicate (s.length - (s.length - 1)) ([.int .i64 0,.int .i64 0,.slice none 0 0]:List Value)).flatten))::L):=hs9
 refine c_nil ?_
 refine n_then ?_
 refine c_seq ?_
 refine c_region ?_
 refine st (v:=.slice (some ⟨g1,0,none⟩) (s.length - 1) cap2) (x_move (.tmp rfl rfl)) ?_
 refine st (v:=.slice (some ⟨g1,0,none⟩) (s.length - 1) cap2) (x_assign (.tmp rfl rfl)) ?_
 refine c_nil ?_
 refine n_then ?_
 refine c_ret ?_
 refine leave_ret (res_one (v:=.slice (some ⟨g1,0,none⟩) (s.length - 1) cap2) rfl (.mk rfl rfl)) ?_
 have hs9:=hs9.shrink (k:=s.length - 1) (by omega)
 rw [del_cells hcl hm (by rw [show s.length - (s.length - 1) = 1 by omega]; rfl)] at hs9
 have ok9:=del_ok ok_s hm
 have hrw:=Kn.rows_append (Kn.rows_take hk_s m (by omega)) (Kn.rows_drop hk_s (m + 1) (by omega))
 have hl9:(s.eraseIdx m).length = s.length - 1:=List.length_eraseIdx_of_lt hm
 exact ⟨_,_,rfl,by rw [hl9]; exact ok9,by rw [erase_split]; exact hrw,by rw [hl9]; exact hs9⟩
set_option maxHeartbeats 8000000 in
theorem delete_int {H:Hp} {w:World} {L:List Res} {v_s:Value} {c_s:List Value} {s:(List Int)} (hs:St H w (row 3 1 v_s s.length c_s::L)) (ok_s:RowOk kI.sz v_s s.length c_s) (hk_s:kI.toKn.rows H s c_s) (m:Nat)  (hm:m < s.length):Calls Tryd.prog 50 #[v_s,.int .i64 ((m:Nat):Int),.int .i64 ((m + 1:Nat):Int)] w (fun e w' => ∃ (v0:Value) (cs0:List Value),e = .returned (v0)∧RowOk kI.sz v0 (s.eraseIdx m).length cs0∧kI.toKn.rows H (s.eraseIdx m) cs0∧St H w' (row 3 kI.sz v0 (s.eraseIdx m).length cs0::L)):=by
 have:s.length ≤ 9223372036854775807:=ok_s.2.1
 refine enter (args:=[v_s,.int .i64 ((m:Nat):Int),.int .i64 (((m + 1):Nat):Int)]) (N:=33) Tryd.func50 rfl rfl rfl ?_
 obtain ⟨g1,cap2,rfl⟩:=ok_s.pos (by omega)
 have hcl:c_s.length = s.length * 1:=ok_s.1
 have hcp:s.length ≤ cap2:=by obtain ⟨A,c,h1,h2⟩:=ok_s.slice; injection h1 with _ _ h1; rw [h1]; exact h2
 refine c_seq ?_
 refine c_region ?_
 refine st (v:=.slice none 0 0) (x_assign .const) ?_
 refine c_nil ?_
 refine n_then ?_
 refine c_seq ?_
 refine c_region ?_
 refine st (v:=.slice (some ⟨g1,0,none⟩) s.length cap2) (x_move (.tmp rfl rfl)) ?_
 refine st (v:=.int .i64 ((m:Nat):Int)) (x_move (.tmp rfl rfl)) ?_
 refine st (v:=.int .i64 (((m + 1):Nat):Int)) (x_move (.tmp rfl rfl)) ?_
 refine st (v:=.slice (some ⟨g1,0,none⟩) s.length cap2) (x_move (.tmp rfl rfl)) ?_
 refine st (v:=.int .i64 ((s.length:Nat):Int)) (x_len (n:=s.length) Tryd.underlying52 (.tmp rfl rfl)) ?_
 refine st (v:=.slice (cutA (some ⟨g1,0,none⟩) s.length m kI.sz) (m + 1 - m) (s.length - m)) (sl_lhm (d:=kI) Tryd.underlying52 inf3 (a:=((m:Nat):Int)) (b:=(((m + 1):Nat):Int)) (mc:=s.length) (.tmp rfl rfl) (.tmp rfl rfl) (.tmp rfl rfl) (.tmp rfl rfl) (by omega) (by omega) (by omega) (by omega)) ?_
 refine c_nil ?_
 refine n_then ?_
 refine c_seq ?_
 refine c_seq ?_
 refine c_region ?_
 refine st (v:=.int .i64 ((m:Nat):Int)) (x_move (.tmp rfl rfl)) ?_
 refine st (v:=.int .i64 (((m + 1):Nat):Int)) (x_move (.tmp rfl rfl)) ?_
 refine st (v:=.bool (decide ((((m:Nat):Int):Int) = (((m + 1):Nat):Int)))) (x_eql (k:=.i64) (a:=((m:Nat):Int)) (b:=(((m + 1):Nat):Int)) (.tmp rfl rfl) (.tmp rfl rfl)) ?_
 refine c_nil ?_
 refine n_then ?_
 have hc3:(decide ((((m:Nat):Int):Int) = (((m + 1):Nat):Int))) = false:=decide_eq_false (by omega)
 refine c_cond_f (t:=false) (.tmp rfl (congrArg Value.bool hc3)) rfl ?_
 refine c_skip ?_
 refine n_then ?_
 refine c_seq ?_
 refine c_region ?_
 refine st (v:=.slice (some ⟨g1,0,none⟩) s.length cap2) (x_move (.tmp rfl rfl)) ?_
 refine st (v:=.int .i64 ((s.length:Nat):Int)) (x_len (n:=s.length) Tryd.underlying52 (.tmp rfl rfl)) ?_
 refine st (v:=.int .i64 ((s.length:Nat):Int)) (x_assign (.tmp rfl rfl)) ?_
 refine c_nil ?_
 refine n_then ?_
 refine c_seq ?_
 refine s_region (L:=row 3 1 (.slice (some ⟨g1,0,none⟩) s.length cap2) s.length c_s::L) (L':=L) none [(0,true),(1,true),(2,true),(3,true),(4,true),(5,true),(6,false),(7,true)] mixed hs (fun u hu => hu.drop) (by kernel_rfl) ?_
 intro w4 hs5
 refine s_st (k:=0) (v:=.slice (some ⟨g1,0,none⟩) s.length cap2) rfl (fun w hs => (x_move (.tmp rfl rfl))) ?_
 refine s_st (k:=1) (v:=.int .i64 ((m:Nat):Int)) rfl (fun w hs => (x_move (.tmp rfl rfl))) ?_
 refine s_st (k:=2) (v:=.slice (some ⟨g1,0,none⟩) m cap2) rfl (fun w hs => (sl_h (d:=kI) Tryd.underlying52 inf3 (a:=((m:Nat):Int)) (.tmp rfl rfl) (.tmp rfl rfl) (by omega) (by omega))) ?_
 refine s_st (k:=3) (v:=.slice (some ⟨g1,0,none⟩) s.length cap2) rfl (fun w hs => (x_move (.tmp rfl rfl))) ?_
 refine s_st (k:=4) (v:=.int .i64 (((m + 1):Nat):Int)) rfl (fun w hs => (x_move (.tmp rfl rfl))) ?_
 refine s_st (k:=5) (v:=.slice (cutA (some ⟨g1,0,none⟩) cap2 (m + 1) kI.sz) (s.length - (m + 1)) (cap2 - (m + 1))) rfl (fun w hs => (sl_l (d:=kI) Tryd.underlying52 inf3 (a:=(((m + 1):Nat):Int)) (.tmp rfl rfl) (.tmp rfl rfl) (by omega) (by omega) (by omega))) ?_
 refine s_eff (k:=6) rfl ?_
 obtain ⟨a,hca,hat⟩:=cutA_at (l:=m + 1) hs5 ok_s (by omega)
 refine st_m (m_appSelf Tryd.underlying52 inf3 hs5 ok_s rfl (.tmp rfl rfl) (.tmp rfl (congrArg (fun A => Value.slice A (s.length - (m + 1)) (cap2 - (m + 1))) hca)) hat (by rw [List.length_drop,hcl,Nat.sub_mul]) (fun u hu => Kn.rows_one_cell hk_s u (List.mem_of_mem_drop hu)) (by omega)) ?_
 rintro _ w6 ⟨rfl,hs7⟩
 have hs7:St H _ (row 3 1 (.slice (some ⟨g1,0,none⟩) s.length cap2) s.length (splice c_s (m * 1) (c_s.drop ((m + 1) * 1)))::L):=hs7
 refine s_on (S':=fun u => St H u (L)) (fun u hu => hu) hs7.drop ?_
 refine s_st (k:=7) (v:=.slice (some ⟨g1,0,none⟩) (s.length - 1) cap2) rfl (fun w hs => (x_assign (.tmp rfl (congrArg (fun q => Value.slice (some ⟨g1,0,none⟩) q cap2) (show m + (s.length - (m + 1)) = s.length - 1 by omega))))) ?_
 refine s_nil ?_
 refine n_then ?_
 refine c_seq ?_
 refine c_region ?_
 refine st (v:=.slice (some ⟨g1,0,none⟩) (s.length - 1) cap2) (x_move (.tmp rfl rfl)) ?_
 refine st (v:=.slice (some ⟨g1,0,none⟩) (s.length - 1) cap2) (x_move (.tmp rfl rfl)) ?_
 refine st (v:=.int .i64 (((s.length - 1):Nat):Int)) (x_len (n:=(s.length - 1)) Tryd.underlying52 (.tmp rfl rfl)) ?_
 refine st (v:=.int .i64 ((s.length:Nat):Int)) (x_move (.tmp rfl rfl)) ?_
 refine st (v:=.slice (cutA (some ⟨g1,0,none⟩) cap2 (s.length - 1) kI.sz) (s.length - (s.length - 1)) (cap2 - (s.length - 1))) (sl_lh (d:=kI) Tryd.underlying52 inf3 (a:=(((s.length - 1):Nat):Int)) (b:=((s.length:Nat):Int)) (.tmp rfl rfl) (.tmp rfl rfl) (.tmp rfl rfl) (by omega) (by omega) (by omega)) ?_
 have hln:(splice c_s (m * 1) (c_s.drop ((m + 1) * 1))).length = s.length * 1:=by rw [splice_length (by rw [List.length_drop,hcl]; omega),hcl]
 refine st_mv0 (m_clearRow (dn:=s.length - (s.length - 1)) (o:=(s.length - 1) * 1) Tryd.underlying52 inf3 rfl (by decide) hs7 rfl (.tmp rfl (congrArg (fun A => Value.slice A (s.length - (s.length - 1)) (cap2 - (s.length - 1))) (cutA_some (size:=1) (by omega)))) (by rw [hln]; omega) (oneA rfl)) ?_
 rintro _ w8 hs9
 have hs9:St H _ (row 3 1 (.slice (some ⟨g1,0,none⟩) s.length cap2) s.length (splice (splice c_s (m * 1) (c_s.drop ((m + 1) * 1))) ((s.length - 1) * 1) ((List.replicate (s.length - (s.length - 1)) ([.int .i64 0]:List Value)).flatten))::L):=hs9
 refine c_nil ?_
 refine n_then ?_
 refine c_seq ?_
 refine c_region ?_
 refine st (v:=.slice (some ⟨g1,0,none⟩) (s.length - 1) cap2) (x_move (.tmp rfl rfl)) ?_
 refine st (v:=.slice (some ⟨g1,0,none⟩) (s.length - 1) cap2) (x_assign (.tmp rfl rfl)) ?_
 refine c_nil ?_
 refine n_then ?_
 refine c_ret ?_
 refine leave_ret (res_one (v:=.slice (some ⟨g1,0,none⟩) (s.length - 1) cap2) rfl (.mk rfl rfl)) ?_
 have hs9:=hs9.shrink (k:=s.length - 1) (by omega)
 rw [del_cells hcl hm (by rw [show s.length - (s.length - 1) = 1 by omega]; rfl)] at hs9
 have ok9:=del_ok ok_s hm
 have hrw:=Kn.rows_append (Kn.rows_take hk_s m (by omega)) (Kn.rows_drop hk_s (m + 1) (by omega))
 have hl9:(s.eraseIdx m).length = s.length - 1:=List.length_eraseIdx_of_lt hm
 exact ⟨_,_,rfl,by rw [hl9]; exact ok9,by rw [erase_split]; exact hrw,by rw [hl9]; exact hs9⟩
set_option maxHeartbeats 8000000 in
theorem clone_bs {H:Hp} {w:World} {L:List Res} {v_b:Value} {b:List Nat} (hs:St H w (row 5 1 v_b b.length (b.map encB)::L)) (sm_b:Small b) (ok_b:RowOk 1 v_b b.length (b.map encB)) (lb_b:b.length ≤ 140737488351232):Calls Tryd.prog 37 #[v_b] w (fun e w' => ∃ (v0:Value),e = .returned (v0)∧Small (b)∧RowOk 1 v0 (b).length ((b).map encB)∧St H w' (row 5 1 v0 (b).length ((b).map encB)::row 5 1 v_b b.length (b.map encB)::L)):=by
 refine enter (args:=[v_b]) (N:=8) Tryd.func37 rfl rfl rfl ?_
 obtain ⟨A1,c2,rfl,hc3⟩:=ok_b.slice
 refine c_seq ?_
 refine c_region ?_
 refine st (v:=.slice none 0 0) (x_assign .const) ?_
 refine c_nil ?_
 refine n_then ?_
 refine c_seq ?_
 refine c_seq ?_
 refine c_region ?_
 refine st (v:=.slice A1 b.length c2) (x_move (.tmp rfl rfl)) ?_
 refine st (v:=.bool (A1.isNone)) (x_eqlSN Tryd.underlying22 (.tmp rfl rfl) .const) ?_
 refine c_nil ?_
 refine n_then ?_
 rcases Bool.eq_false_or_eq_true (A1.isNone) with hc4 | hc4
 refine c_cond_t (t:=true) (.tmp rfl (congrArg Value.bool hc4)) rfl ?_
 refine c_seq ?_
 refine c_region ?_
 refine st (v:=.slice none 0 0) (x_assign .const) ?_
 refine c_nil ?_
 refine n_then ?_
 refine c_ret ?_
 refine r_then ?_
 refine leave_ret (res_one (v:=.slice none 0 0) rfl (.mk rfl rfl)) ?_
 have hb0:b = []:=bs_none ok_b hc4
 have hs6:St H _ (row 5 1 (.slice none 0 0) b.length (b.map encB)::row 5 1 (.slice A1 b.length c2) b.length (b.map encB)::L):=nilRowB hs 5 hb0
 exact ⟨(.slice none 0 0),rfl,sm_b,(by simpa using (nilOkB hb0)),((hs6.pick 1 rfl rfl).pick 1 rfl rfl)⟩
 refine c_cond_f (t:=false) (.tmp rfl (congrArg Value.bool hc4)) rfl ?_
 refine c_skip ?_
 refine n_then ?_
 refine c_seq ?_
 refine c_region ?_
 refine st_m (m_lit0 Tryd.underlying22 inf5 hs) ?_
 rintro _ w8 ⟨g7,rfl,hs9⟩
 obtain ⟨hs10,ok11⟩:=hs9.rowOfObj (n:=0) (size:=1) rfl (Nat.zero_le _)
 refine st (v:=.slice A1 b.length c2) (x_move (.tmp rfl rfl)) ?_
 refine st_m (m_appRowB (l:=[]) Tryd.underlying22 inf5 hs10 ok11 (.tmp rfl rfl) 1 rfl ok_b (.tmp rfl rfl) (by omega)) ?_
 rintro v13 w14 ⟨ok15,hs16⟩
 rw [List.nil_append,Nat.zero_add] at ok15 hs16
 refine st (v:=v13) (x_assign (.tmp rfl rfl)) ?_
 refine c_nil ?_
 refine n_then ?_
 refine c_ret ?_
 refine leave_ret (res_one (v:=v13) rfl (.mk rfl rfl)) ?_
 exact ⟨v13,rfl,sm_b,(by simpa using ok15),((hs16.pick 1 rfl rfl).pick 1 rfl rfl)⟩
end Go.Proofs.YtojlmilkdijiaaaDoor
