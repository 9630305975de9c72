/- Bytes: slices that stay, strings, conversions, arrays of four. -/
import Derived.Test.YtnikcgcbkdeeeaaDoorFmE
import Derived.Laws.BytesString
import Derived.Laws.Cover3
import Derived.Laws.Strings
set_option linter.unusedVariables false
set_option linter.unusedSimpArgs false
namespace Go.FM
open Go

def encB (b : Nat) : Value := .int .u8 ((b : Nat) : Int)
def bstr (l : List Nat) : ByteArray := ⟨(l.map UInt8.ofNat).toArray⟩
def Small (l : List Nat) : Prop := ∀ b ∈ l, b < 256
theorem Small.nil : Small [] := fun _ h => absurd h List.not_mem_nil
theorem Small.append {l m : List Nat} (h : Small l) (k : Small m) : Small (l ++ m) := fun b hb => (List.mem_append.1 hb).elim (h b) (k b)
theorem Small.take {l : List Nat} (h : Small l) (n : Nat) : Small (l.take n) := fun b hb => h b (List.mem_of_mem_take hb)
theorem Small.drop {l : List Nat} (h : Small l) (n : Nat) : Small (l.drop n) := fun b hb => h b (List.mem_of_mem_drop hb)
theorem Small.cons {l : List Nat} {a : Nat} (h : a < 256) (k : Small l) : Small (a :: l) := fun b hb => (List.mem_cons.1 hb).elim (fun e => e ▸ h) (k b)
theorem Small.one {a : Nat} (h : a < 256) : Small [a] := .cons h .nil
theorem Small.getD {l : List Nat} (h : Small l) (i : Nat) : l.getD i 0 < 256 := by
  rw [List.getD_eq_getElem?_getD]
  cases e : l[i]? with
  | none => simp
  | some b => simpa using h b (List.mem_of_getElem? e)
theorem Small.set {l : List Nat} (h : Small l) (i : Nat) {a : Nat} (ha : a < 256) : Small (l.set i a) := fun b hb => by
  rcases List.mem_or_eq_of_mem_set hb with h1 | h1
  · exact h b h1
  · rw [h1]; exact ha
theorem bstr_inj {l m : List Nat} (hl : Small l) (hm : Small m) : bstr l = bstr m ↔ l = m := by
  refine ⟨fun h => ?_, fun h => by rw [h]⟩
  have h1 : (l.map UInt8.ofNat) = (m.map UInt8.ofNat) := by
    have := congrArg (fun b : ByteArray => b.data.toList) h
    simpa [bstr] using this
  have key : ∀ {l m : List Nat}, Small l → Small m → l.map UInt8.ofNat = m.map UInt8.ofNat → l = m := by
    intro l
    induction l with
    | nil => intro m _ _ h; cases m with | nil => rfl | cons _ _ => simp at h
    | cons a l ih =>
      intro m hl hm h
      cases m with
      | nil => simp at h
      | cons b m =>
        simp only [List.map_cons, List.cons.injEq] at h
        have ha := hl a List.mem_cons_self
        have hb := hm b List.mem_cons_self
        have e : a = b := by
          have := congrArg UInt8.toNat h.1
          simp only [UInt8.toNat_ofNat'] at this
          omega
        rw [e, ih (fun x hx => hl x (List.mem_cons_of_mem _ hx)) (fun x hx => hm x (List.mem_cons_of_mem _ hx)) h.2]
  exact key hl hm h1

/-- A slice of bytes in memory that stays. -/
structure Bs (H : Hp) (A : Option Addr) (n c : Nat) (bs : List Nat) : Prop where
  rd : Rd H A (bs.map encB)
  len : bs.length = n
  le : n ≤ c
  max : c ≤ maxLen
  lt : Small bs
section
variable {H H' : Hp} {A : Option Addr} {n c : Nat} {bs : List Nat}
theorem Bs.mono (h : Bs H A n c bs) (hl : H.le H') : Bs H' A n c bs := ⟨h.rd.mono hl, h.len, h.le, h.max, h.lt⟩
theorem Bs.nil (H : Hp) (A : Option Addr) : Bs H A 0 0 [] := ⟨Rd.nil A, rfl, Nat.le_refl _, Nat.zero_le _, Small.nil⟩
theorem Bs.take (h : Bs H A n c bs) {k : Nat} (hk : k ≤ n) : Bs H A k c (bs.take k) :=
  ⟨by rw [List.map_take]; exact h.rd.take k, by rw [List.length_take, h.len]; omega, Nat.le_trans hk h.le, h.max, h.lt.take k⟩
theorem Bs.drop (h : Bs H A n c bs) {k : Nat} (hk : k ≤ n) : Bs H (cutA A c k 1) (n - k) (c - k) (bs.drop k) := by
  refine ⟨?_, by rw [List.length_drop, h.len], by have := h.le; omega, by have := h.max; omega, h.lt.drop k⟩
  have := h.rd.drop (n := n) (c := c) (l := k) (size := 1) (by simp [h.len]) h.le
  rw [Nat.mul_one] at this
  rwa [List.map_drop]
theorem Bs.get (h : Bs H A n c bs) {i : Nat} (hi : i < n) : ∃ b off, A = some ⟨b, off, none⟩ ∧ ∀ {w : World} {L : List Res}, St H w L → w.cell? ⟨b, off + i * 1, none⟩ = some (.int .u8 ((bs.getD i 0 : Nat) : Int)) := by
  have hne : bs.map encB ≠ [] := fun e => by
    have := congrArg List.length e
    simp [h.len] at this
    omega
  obtain ⟨b, off, hA, hat⟩ := h.rd.at_ hne
  refine ⟨b, off, hA, fun {w L} hs => ?_⟩
  have hi' : i < bs.length := by rw [h.len]; exact hi
  have := (hat hs).cell i (v := encB (bs.getD i 0)) (by simp [hi'])
  simpa [encB] using this
theorem Bs.at_ (h : Bs H A n c bs) : bs = [] ∨ ∃ b off, A = some ⟨b, off, none⟩ ∧ ∀ {w : World} {L : List Res}, St H w L → At w ⟨b, off, none⟩ (bs.map encB) := by
  by_cases hb : bs = []
  · exact .inl hb
  · exact .inr (h.rd.at_ (by simpa using hb))
end
theorem one_encB : ∀ (l : List Nat), ∀ u ∈ l.map encB, u.oneCell' = true := fun l u hu => by
  obtain ⟨b, _, rfl⟩ := List.mem_map.1 hu
  rfl
theorem bstr_fold : ∀ (l : List Nat) (s : ByteArray), ((l.map fun b => ((b : Nat) : Int)).foldl (fun r n => r.push (UInt8.ofNat n.toNat)) s) = s ++ bstr l
  | [], s => by
    apply ByteArray.ext
    simp [bstr, ByteArray.data_append]
  | b :: l, s => by
    rw [List.map_cons, List.foldl_cons, bstr_fold l]
    apply ByteArray.ext
    simp [bstr, ByteArray.data_append]
section
variable {P : Program} {N : Nat} {ρ : Nat → Value} {H : Hp} {w w' : World} {L : List Res} {t ty e n m c src dst : Nat} {A : Option Addr} {x y : Operand} {bs : List Nat}
theorem x_bytesStr (hs : P.underlying src = some (.slice e)) (he : P.underlying e = some (.int .u8)) (hd : P.underlying dst = some .string) (hx : Ev N ρ x (.slice A n c)) (hl : bs.length = n)
    (h : bs = [] ∨ ∃ a, A = some a ∧ At w a (bs.map encB)) : Ex P N ρ w (.convert src dst x) ty (.string (bstr bs)) w := fun _ _ _ _ => by
  have h1 : (en N ρ).eval x = .slice A n c := hx
  have : (Conv.bytesToString (.slice A n c)).run P w = .ok (.string (bstr bs)) w := by
    cases A with
    | none =>
      rcases h with rfl | ⟨a, ha, _⟩
      · rfl
      · cases ha
    | some a =>
      have hc : At w a (bs.map encB) := by
        rcases h with rfl | ⟨a', ha, hat⟩
        · intro j v hv; simp at hv
        · injection ha with ha; subst ha; exact hat
      have := run_loadCells_list (P := P) w a (bs.map encB) hc
      rw [List.length_map, hl] at this
      rw [run_bytesToString w a n c (bs.map fun b => ((b : Nat) : Int)) (by rw [this, List.map_map]; rfl)]
      rw [bstr_fold]
      congr 2
  simp [execOp, h1, run_convert_bytes_string w src dst e A n c hs he hd, this]
theorem Bs.str (hs : P.underlying src = some (.slice e)) (he : P.underlying e = some (.int .u8)) (hd : P.underlying dst = some .string) (hb : Bs H A n c bs) (h : St H w L) (hx : Ev N ρ x (.slice A n c)) :
    Ex P N ρ w (.convert src dst x) ty (.string (bstr bs)) w :=
  x_bytesStr hs he hd hx hb.len (hb.at_.imp id fun ⟨b, off, hA, hat⟩ => ⟨_, hA, hat h⟩)
theorem St.rowStr {v : Value} (hs : P.underlying src = some (.slice e)) (he : P.underlying e = some (.int .u8)) (hd : P.underlying dst = some .string) (h : St H w L) (i : Nat) (hi : L[i]? = some (row e 1 v n (bs.map encB))) (ok : RowOk 1 v n (bs.map encB)) (hx : Ev N ρ x v) :
    Ex P N ρ w (.convert src dst x) ty (.string (bstr bs)) w := by
  obtain ⟨A, c, rfl, _⟩ := ok.slice
  refine x_bytesStr hs he hd hx (by have := ok.1; simpa using this) ?_
  rcases h.rowAll i hi ok with h1 | ⟨a, ⟨c', e1⟩, hat⟩
  · exact .inl (by simpa using h1)
  · injection e1 with e1 _ _
    exact .inr ⟨a, e1, hat⟩
theorem str_beq (a b : ByteArray) : (a.toList == b.toList) = decide (a = b) := by
  have this : (a.toList == b.toList) = true ↔ a = b := by
    rw [beq_iff_eq, ByteArray.toList_eq, ByteArray.toList_eq]
    exact ⟨fun h => ByteArray.ext (Array.toList_inj.1 h), fun h => by rw [h]⟩
  by_cases h : a = b
  · simp [h]
  · rw [decide_eq_false h]
    cases e : (a.toList == b.toList) with
    | false => rfl
    | true => exact absurd (this.1 e) h
theorem x_eqlS {a b : ByteArray} {yt : TypeId} (hx : Ev N ρ x (.string a)) (hy : Ev N ρ y (.string b)) : Ex P N ρ w (.binOp .eql t x y yt) ty (.bool (decide (a = b))) w := fun _ _ _ _ => by
  have h1 : (en N ρ).eval x = .string a := hx
  have h2 : (en N ρ).eval y = .string b := hy
  simp only [execOp, h1, h2, eqGuard_at_string, binOp_string_eql, str_beq]
  rfl
theorem x_neqS {a b : ByteArray} {yt : TypeId} (hx : Ev N ρ x (.string a)) (hy : Ev N ρ y (.string b)) : Ex P N ρ w (.binOp .neq t x y yt) ty (.bool (!decide (a = b))) w := fun _ _ _ _ => by
  have h1 : (en N ρ).eval x = .string a := hx
  have h2 : (en N ρ).eval y = .string b := hy
  simp only [execOp, h1, h2, eqGuard_at_string, binOp_string_neq, str_beq]
  rfl
end
end Go.FM
