/- Kinds of elements with their sizes: slices that stay, rows of one's own, arguments opened. -/
import Derived.Test.YtnikcgcbkdeeeaaDoorFmR3
import Derived.Test.YtnikcgcbkdeeeaaDoorFmP
set_option linter.unusedVariables false
set_option linter.unusedSimpArgs false
namespace Go.FM
open Go Go.ChangeShapes Go.WideShapes Go.ChangeAt Go.RowKit

structure Kd (α : Type) extends Kn α where
  bts : Nat
  bts0 : 0 < bts
/-- A slice of elements of a kind, in memory that stays. -/
structure Sl {α : Type} (d : Kd α) (H : Hp) (A : Option Addr) (n c : Nat) (xs : List α) : Prop where
  sl : d.toKn.sl H A xs
  len : xs.length = n
  le : n ≤ c
  max : c ≤ maxLen
  bnd : n * d.bts ≤ 140737488351232
/-- A slice of bytes, not too long. -/
structure By (H : Hp) (A : Option Addr) (n c : Nat) (bs : List Nat) : Prop extends Bs H A n c bs where
  bnd : n ≤ 140737488351232
def IB (x : Int) : Prop := -9223372036854775808 ≤ x ∧ x ≤ 9223372036854775807
section
variable {H H' : Hp} {A : Option Addr} {n c : Nat}
theorem By.mono {bs : List Nat} (h : By H A n c bs) (hl : H.le H') : By H' A n c bs := ⟨h.toBs.mono hl, h.bnd⟩
theorem By.nil (H : Hp) (A : Option Addr) : By H A 0 0 [] := ⟨Bs.nil H A, by omega⟩
variable {α : Type} {d : Kd α} {xs : List α}
theorem Sl.mono (h : Sl d H A n c xs) (hl : H.le H') : Sl d H' A n c xs := ⟨Kn.sl_mono h.sl hl, h.len, h.le, h.max, h.bnd⟩
theorem Sl.nil (d : Kd α) (H : Hp) (A : Option Addr) : Sl d H A 0 0 [] := ⟨Kn.sl_nil A, rfl, Nat.le_refl _, Nat.zero_le _, by omega⟩
theorem Sl.take (h : Sl d H A n c xs) {k : Nat} (hk : k ≤ n) : Sl d H A k c (xs.take k) :=
  ⟨Kn.sl_take h.sl k (by rw [h.len]; exact hk), by rw [List.length_take, h.len]; omega, Nat.le_trans hk h.le, h.max, Nat.le_trans (Nat.mul_le_mul_right _ hk) h.bnd⟩
theorem Sl.takeC (h : Sl d H A n c xs) {k : Nat} (hk : k ≤ n) : Sl d H A k k (xs.take k) :=
  let q := h.take hk
  ⟨q.sl, q.len, Nat.le_refl _, Nat.le_trans q.le q.max, q.bnd⟩
theorem Sl.drop (h : Sl d H A n c xs) {k : Nat} (hk : k ≤ n) : Sl d H (cutA A c k d.sz) (n - k) (c - k) (xs.drop k) := by
  refine ⟨Kn.sl_drop h.sl k (by rw [h.len]; exact hk) (by rw [h.len]; exact h.le), by rw [List.length_drop, h.len], by have := h.le; omega, by have := h.max; omega, Nat.le_trans (Nat.mul_le_mul_right _ (Nat.sub_le _ _)) h.bnd⟩
theorem Sl.get (h : Sl d H A n c xs) {i : Nat} (hi : i < n) : ∃ x b off cs, xs[i]? = some x ∧ A = some ⟨b, off, none⟩ ∧ d.rep H x cs ∧ ∀ {w : World} {L : List Res}, St H w L → At w ⟨b, off + i * d.sz, none⟩ cs := by
  have hi' : i < xs.length := by rw [h.len]; exact hi
  have hx := List.getElem?_eq_getElem hi'
  obtain ⟨b, off, cs, hA, hr, hat⟩ := Kn.sl_get h.sl i hx
  exact ⟨_, b, off, cs, hx, hA, hr, hat⟩
/-- All of it. -/
theorem Sl.at_ (h : Sl d H A n c xs) : ∃ cells, d.toKn.rows H xs cells ∧ (xs = [] ∨ ∃ b off, A = some ⟨b, off, none⟩ ∧ ∀ {w : World} {L : List Res}, St H w L → At w ⟨b, off, none⟩ cells) := by
  obtain ⟨cells, h1, h2⟩ := h.sl
  refine ⟨cells, h2, ?_⟩
  by_cases hx : xs = []
  · exact .inl hx
  · refine .inr (h1.at_ fun e => ?_)
    have := h2.1
    rw [e] at this
    have h3 : 0 < xs.length * d.sz := Nat.mul_pos (List.length_pos_iff.2 hx) d.pos
    simp at this; omega
end

/-! ### rows of one's own -/
namespace Kn
variable {α : Type} {d : Kn α} {H : Hp} {xs : List α} {cells : List Value}
theorem rows_get (h : d.rows H xs cells) {i : Nat} (hi : i < xs.length) : ∃ x c, xs[i]? = some x ∧ d.rep H x c ∧ (cells.drop (i * d.sz)).take c.length = c := by
  have hx := List.getElem?_eq_getElem hi
  obtain ⟨c, h1, h2⟩ := h.2 i _ hx
  exact ⟨_, c, hx, h1, by rw [d.len h1]; exact h2⟩
theorem rows_set (h : d.rows H xs cells) {i : Nat} (hi : i < xs.length) {y : α} {c : List Value} (hr : d.rep H y c) : d.rows H (xs.set i y) (splice cells (i * d.sz) c) := by
  have hl := d.len hr
  have hle : (i + 1) * d.sz ≤ cells.length := by rw [h.1]; exact Nat.mul_le_mul_right _ hi
  rw [Nat.add_mul, Nat.one_mul] at hle
  refine ⟨by rw [splice_length (by omega), h.1, List.length_set], fun j x hx => ?_⟩
  rw [List.getElem?_set] at hx
  by_cases hji : i = j
  · subst hji
    simp [hi] at hx
    subst hx
    refine ⟨c, hr, ?_⟩
    apply List.ext_getElem?
    intro k
    rw [List.getElem?_take, List.getElem?_drop, splice_get (by omega)]
    by_cases hk : k < d.sz
    · rw [if_pos hk, if_pos (by omega)]; congr 1; omega
    · rw [if_neg hk, List.getElem?_eq_none (by omega)]
  · rw [if_neg hji] at hx
    obtain ⟨c', h1, h2⟩ := h.2 j x hx
    refine ⟨c', h1, ?_⟩
    rw [← h2]
    apply List.ext_getElem?
    intro k
    rw [List.getElem?_take, List.getElem?_take, List.getElem?_drop, List.getElem?_drop]
    by_cases hk : k < d.sz
    · rw [if_pos hk, if_pos hk, splice_get (by omega), if_neg]
      intro ⟨ha, hb⟩
      rcases Nat.lt_or_gt_of_ne hji with h3 | h3
      · have : (i + 1) * d.sz ≤ j * d.sz := Nat.mul_le_mul_right _ h3
        rw [Nat.add_mul, Nat.one_mul] at this; omega
      · have : (j + 1) * d.sz ≤ i * d.sz := Nat.mul_le_mul_right _ h3
        rw [Nat.add_mul, Nat.one_mul] at this; omega
    · rw [if_neg hk, if_neg hk]
end Kn
/-- A part of an element written. -/
theorem splice_part {cells c vs : List Value} {i k : Nat} (hc : (cells.drop i).take c.length = c) (hk : k + vs.length ≤ c.length) (hl : i + c.length ≤ cells.length) : splice cells (i + k) vs = splice cells i (splice c k vs) := by
  apply List.ext_getElem?
  intro j
  have hs : (splice c k vs).length = c.length := splice_length hk
  rw [splice_get (by omega), splice_get (by omega), hs]
  by_cases h1 : i ≤ j ∧ j < i + c.length
  · rw [if_pos h1, splice_get hk]
    by_cases h2 : i + k ≤ j ∧ j < i + k + vs.length
    · rw [if_pos h2, if_pos (by omega)]; congr 1; omega
    · rw [if_neg h2, if_neg (by omega)]
      have := congrArg (fun l : List Value => l[j - i]?) hc
      simp only [List.getElem?_take, List.getElem?_drop] at this
      rw [if_pos (by omega)] at this
      rw [← this]; congr 1; omega
  · rw [if_neg h1, if_neg (by omega)]
theorem RowOk.splice {size n i : Nat} {v : Value} {cs vs : List Value} (h : RowOk size v n cs) (hl : i + vs.length ≤ cs.length) : RowOk size v n (FM.splice cs i vs) := ⟨by rw [splice_length hl]; exact h.1, h.2⟩
section
variable {α : Type} {d : Kd α} {H : Hp} {w : World} {L : List Res} {e n : Nat} {v : Value} {cs : List Value} {xs : List α}
/-- .. stays as it is from now on. -/
theorem St.freezeSl (h : St H w (row e d.sz v n cs :: L)) (ok : RowOk d.sz v n cs) (hk : d.toKn.rows H xs cs) (hn : n * d.bts ≤ 140737488351232) : ∃ H' A c, H.le H' ∧ St H' w L ∧ v = .slice A n c ∧ Sl d H' A n c xs := by
  have hlen : xs.length = n := by
    have h1 := hk.1
    rw [ok.1] at h1
    exact (Nat.eq_of_mul_eq_mul_right d.pos h1).symm
  rcases ok.2.2 with ⟨rfl, rfl⟩ | ⟨g, cap, rfl, hc⟩
  · refine ⟨H, none, 0, Hp.le.refl H, h.drop, rfl, ?_⟩
    rw [List.length_eq_zero_iff] at hlen
    subst hlen
    exact Sl.nil d H none
  · have hcm : cap ≤ maxLen := by
      obtain ⟨cur, _, _, _, _, h5⟩ := h.rowIn 0 rfl rfl
      exact h5
    obtain ⟨H', A, c, h1, h2, h3, h4, h5⟩ := h.freezeRow ok
    injection h3 with ha hb hc'
    subst ha; subst hc'
    exact ⟨H', _, _, h1, h2, rfl, ⟨cs, h5, Kn.rows_mono hk h1⟩, hlen, h4, hcm, hn⟩
theorem Kn.rows_len {d : Kn α} (hk : d.rows H xs cs) (ok : RowOk d.sz v n cs) : xs.length = n := by
  have h1 := hk.1
  rw [ok.1] at h1
  exact (Nat.eq_of_mul_eq_mul_right d.pos h1).symm
end

/-! ### the plain kinds -/
def kI : Kd Int where
  sz := 1
  pos := by decide
  rep _ x cs := cs = [.int .i64 x] ∧ IB x
  len h := by rw [h.1]; rfl
  one h := by rw [h.1]; simp [Value.oneCell']
  mono _ h := h
  bts := 8
  bts0 := by decide
def kU (k : IntKind) (B b : Nat) (hb : 0 < b) : Kd Nat where
  sz := 1
  pos := by decide
  rep _ x cs := cs = [.int k (x : Int)] ∧ x < B
  len h := by rw [h.1]; rfl
  one h := by rw [h.1]; simp [Value.oneCell']
  mono _ h := h
  bts := b
  bts0 := hb
def kB : Kd Bool where
  sz := 1
  pos := by decide
  rep _ x cs := cs = [.bool x]
  len h := by rw [h]; rfl
  one h := by rw [h]; simp [Value.oneCell']
  mono _ h := h
  bts := 1
  bts0 := by decide
def kBs : Kd (List Nat) where
  sz := 1
  pos := by decide
  rep H x cs := ∃ A n c, cs = [.slice A n c] ∧ By H A n c x
  len h := by obtain ⟨A, n, c, rfl, _⟩ := h; rfl
  one h := by obtain ⟨A, n, c, rfl, _⟩ := h; simp [Value.oneCell']
  mono hl h := by obtain ⟨A, n, c, rfl, h⟩ := h; exact ⟨A, n, c, rfl, h.mono hl⟩
  bts := 24
  bts0 := by decide
def kSl {α : Type} (d : Kd α) : Kd (List α) where
  sz := 1
  pos := by decide
  rep H x cs := ∃ A n c, cs = [.slice A n c] ∧ Sl d H A n c x
  len h := by obtain ⟨A, n, c, rfl, _⟩ := h; rfl
  one h := by obtain ⟨A, n, c, rfl, _⟩ := h; simp [Value.oneCell']
  mono hl h := by obtain ⟨A, n, c, rfl, h⟩ := h; exact ⟨A, n, c, rfl, h.mono hl⟩
  bts := 24
  bts0 := by decide

/-! ### arguments opened -/
/-- What reads as a value of the type, and is not too great, is of the kind. -/
def Opn {α : Type} (P : Program) (t : TypeId) (d : Kd α) : Prop :=
  ∀ {Hh : Type} {enc : TypeId × Value → Hh} {W : World} {fuel : Nat} {cs : List Value} {x : DataW Hh × List MemPlace},
    DataW.trod enc P W 0 (fun _ => true) true fuel t cs = some x → (∀ n ∈ x.1.weights P t, n ≤ reachBytes) → ∃ a, d.rep (Hp.of W) a cs
section
variable {P : Program} {t e : TypeId}
theorem opn_i64 (ht : P.underlying t = some (.int .i64)) : Opn P t kI := fun h _ => by
  obtain ⟨n, rfl, _, hw⟩ := DataW.trod_int ht h
  simp [Lit.wf, IntKind.min, IntKind.max, IntKind.signed, IntKind.bits] at hw
  exact ⟨n, rfl, by constructor <;> omega⟩
theorem opn_nat {k : IntKind} {B b : Nat} {hb : 0 < b} (ht : P.underlying t = some (.int k)) (hk : k.signed = false) (hB : 2 ^ k.bits = B) : Opn P t (kU k B b hb) := fun h _ => by
  obtain ⟨n, rfl, _, hw⟩ := DataW.trod_int ht h
  obtain ⟨m, rfl, hm⟩ := wf_nat hk hw
  exact ⟨m, rfl, by rw [← hB]; exact hm⟩
theorem opn_bool (ht : P.underlying t = some .bool) : Opn P t kB := fun h _ => by
  obtain ⟨b, rfl, _⟩ := DataW.trod_bool ht h
  exact ⟨b, rfl⟩
theorem weights_all_mem {Hh : Type} {l : List (DataW Hh)} {d : DataW Hh} (h : d ∈ l) {m : Nat} (hm : m ∈ d.weights P e) : m ∈ DataW.weightsAll P e l := by
  induction l with
  | nil => cases h
  | cons x l ih =>
    simp only [DataW.weightsAll, List.mem_append]
    rcases List.mem_cons.1 h with rfl | h
    · exact .inl hm
    · exact .inr (ih h)
theorem opn_rows {α : Type} {d : Kn α} {W : World} {a : Addr} : ∀ (n : Nat), (∀ i, i < n → ∃ c x, c.length = d.sz ∧ (∀ j, j < d.sz → W.cell? ((a.add (i * d.sz)).add j) = c[j]?) ∧ d.rep (Hp.of W) x c) →
    ∃ (xs : List α) (cells : List Value), xs.length = n ∧ d.rows (Hp.of W) xs cells ∧ ∀ i j, i < n → j < d.sz → W.cell? ((a.add (i * d.sz)).add j) = cells[i * d.sz + j]?
  | 0, _ => ⟨[], [], rfl, Kn.rows_nil d _, fun i j h _ => absurd h (Nat.not_lt_zero _)⟩
  | n + 1, h => by
    obtain ⟨xs, cells, h1, h2, h3⟩ := opn_rows n fun i hi => h i (by omega)
    obtain ⟨c, x, hc, hx, hr⟩ := h n (by omega)
    have hlen : cells.length = n * d.sz := by rw [h2.1, h1]
    refine ⟨xs ++ [x], cells ++ c, by simp [h1], Kn.rows_snoc h2 hr, fun i j hi hj => ?_⟩
    by_cases hin : i < n
    · rw [h3 i j hin hj, List.getElem?_append_left]
      have : (i + 1) * d.sz ≤ n * d.sz := Nat.mul_le_mul_right _ hin
      rw [Nat.add_mul, Nat.one_mul] at this; omega
    · obtain rfl : i = n := by omega
      rw [hx j hj, List.getElem?_append_right (by omega)]
      congr 1; omega
theorem opn_sl {α : Type} {d : Kd α} (ht : P.underlying t = some (.slice e)) (hc : P.cellsOf e = d.sz) (hb : P.bytesOf e = d.bts) (he : Opn P e d) : Opn P t (kSl d) := fun {Hh enc W fuel cs x} h hw => by
  rcases DataW.trod_slice ht h with ⟨rfl, rfl⟩ | ⟨a, len, cap, elems, rest, m, _, rfl, rfl, _, hl, hm, hlen, hel, hsp, _⟩
  · exact ⟨[], none, 0, 0, rfl, Sl.nil d _ none⟩
  · have hsz : len * d.bts ≤ 140737488351232 := by
      have := hw ((elems.length + rest.length) * P.bytesOf e) (by simp [DataW.weights, ht])
      have hr : reachBytes = 140737488351232 := by decide
      rw [hr, hlen, hb] at this
      exact Nat.le_trans (Nat.mul_le_mul_right _ (Nat.le_add_right _ _)) this
    have hi : ∀ i, i < len → ∃ c x, c.length = d.sz ∧ (∀ j, j < d.sz → W.cell? ((a.add (i * d.sz)).add j) = c[j]?) ∧ d.rep (Hp.of W) x c := fun i hi => by
      have h1 := hel i hi
      rw [List.getElem?_eq_getElem (by omega)] at h1
      obtain ⟨c, hcs, htr⟩ := Option.bind_eq_some_iff.1 h1
      obtain ⟨_, h3, h4⟩ := World.cells?_some hcs
      rw [hc] at h3 h4
      obtain ⟨y, hy⟩ := he htr fun k hk => hw k (by
        simp only [DataW.weights, ht, List.mem_cons, List.mem_append]
        exact .inr (.inl (weights_all_mem (List.mem_map.2 ⟨_, List.getElem_mem _, rfl⟩) hk)))
      refine ⟨c, y, h3, fun j hj => ?_, hy⟩
      exact h4 j hj
    obtain ⟨xs, cells, h1, h2, h3⟩ := opn_rows (d := d.toKn) len hi
    refine ⟨xs, some a, len, cap, rfl, ⟨cells, ?_, h2⟩, h1, hl, hm, hsz⟩
    by_cases h0 : len = 0
    · subst h0
      exact .inl (List.eq_nil_of_length_eq_zero (by rw [h2.1, h1]; simp))
    · have hcl : cells.length = len * d.sz := by rw [h2.1, h1]
      have h00 := h3 0 0 (by omega) d.pos
      have hp : 0 < len * d.sz := Nat.mul_pos (by omega) d.pos
      rw [Nat.zero_mul, Nat.zero_add, List.getElem?_eq_getElem (by omega)] at h00
      have hspot : a.spot = none := by
        have h5 := World.cell?_spot h00
        obtain ⟨b, off, sp⟩ := a
        cases sp with
        | none => rfl
        | some s => simp [Addr.add] at h5
      obtain ⟨b, off, sp⟩ := a
      obtain rfl : sp = none := hspot
      refine rd_of_cells fun k hk => ?_
      rw [hcl] at hk
      have hdv : k / d.sz < len := by rw [Nat.mul_comm] at hk; exact Nat.div_lt_of_lt_mul hk
      have := h3 (k / d.sz) (k % d.sz) hdv (Nat.mod_lt _ d.pos)
      rw [add_none, add_none] at this
      rw [add_none]
      have e1 := Nat.div_add_mod k d.sz
      rw [Nat.mul_comm] at e1
      rw [show off + k / d.sz * d.sz + k % d.sz = off + k by omega, e1] at this
      exact this
theorem opn_bytes (ht : P.underlying t = some (.slice e)) (he : P.underlying e = some (.int .u8)) (hc : P.cellsOf e = 1) (hb : P.bytesOf e = 1) : Opn P t kBs := fun {Hh enc W fuel cs x} h hw => by
  obtain ⟨xs, A, n, c, rfl, hs⟩ := opn_sl (d := kU .u8 256 1 (by decide)) ht hc hb (opn_nat he rfl rfl) h hw
  refine ⟨xs, A, n, c, rfl, ⟨?_, hs.len, hs.le, hs.max, ?_⟩, by have := hs.bnd; simpa [kU] using this⟩
  · obtain ⟨cells, h1, h2⟩ := hs.sl
    have e : cells = xs.map encB := by
      apply List.ext_getElem?
      intro j
      have hl := h2.1
      simp only [kU, Nat.mul_one] at hl
      by_cases hj : j < xs.length
      · obtain ⟨c', h3, h4⟩ := h2.2 j _ (List.getElem?_eq_getElem hj)
        obtain ⟨rfl, _⟩ := h3
        simp only [kU, Nat.mul_one] at h4
        have := congrArg (fun l : List Value => l[0]?) h4
        simp [List.getElem?_take, List.getElem?_drop] at this
        rw [this]; simp [hj, encB]
      · rw [List.getElem?_eq_none (by omega), List.getElem?_eq_none (by simp; omega)]
    rw [← e]; exact h1
  · intro b hb'
    obtain ⟨cells, h1, h2⟩ := hs.sl
    obtain ⟨j, hj, rfl⟩ := List.mem_iff_getElem.1 hb'
    obtain ⟨c', h3, _⟩ := h2.2 j _ (List.getElem?_eq_getElem hj)
    exact h3.2
end
/-- An argument. -/
theorem opn_arg {α : Type} {Hh : Type} {enc : TypeId × Value → Hh} {P : Program} {W : World} {t : TypeId} {d : Kd α} {v : Value} {dd : DataW Hh} {ps : List MemPlace} {ts : List TypeId} {ds : List (DataW Hh)} {j : Nat} (ho : Opn P t d)
    (hd : DataW.Trod enc P W 0 (fun _ => true) true t v dd ps) (hz : (DataW.weightsEach P ts ds).all (· ≤ reachBytes) = true) (htj : ts[j]? = some t) (hdj : ds[j]? = some dd) : ∃ a, d.rep (Hp.of W) a v.cells.toList := by
  obtain ⟨fuel, hf⟩ := hd
  exact ho hf fun n hn => by simpa using List.all_eq_true.1 hz _ (DataW.weights_mem_each htj hdj n hn)
section
variable {α : Type} {Hh : Type} {enc : TypeId × Value → Hh} {P : Program} {W : World} {t e : TypeId} {d : Kd α} {v : Value} {dd : DataW Hh} {ps : List MemPlace} {ts : List TypeId} {ds : List (DataW Hh)} {j : Nat} {r : Reach} {b0 : Nat}
theorem arg_sl (ht : P.underlying t = some (.slice e)) (ho : Opn P t (kSl d)) (hval : Value.okWide P W r b0 t v) (hd : DataW.Trod enc P W 0 (fun _ => true) true t v dd ps) (hz : (DataW.weightsEach P ts ds).all (· ≤ reachBytes) = true)
    (htj : ts[j]? = some t) (hdj : ds[j]? = some dd) : ∃ A n c xs, v = .slice A n c ∧ Sl d (Hp.of W) A n c xs := by
  obtain ⟨A, n, c, rfl⟩ := okWide_slice ht hval
  obtain ⟨xs, A', n', c', e1, h⟩ := opn_arg ho hd hz htj hdj
  injection e1 with e1 _
  injection e1 with ea eb ec
  subst ea; subst eb; subst ec
  exact ⟨_, _, _, xs, rfl, h⟩
theorem arg_by (ht : P.underlying t = some (.slice e)) (ho : Opn P t kBs) (hval : Value.okWide P W r b0 t v) (hd : DataW.Trod enc P W 0 (fun _ => true) true t v dd ps) (hz : (DataW.weightsEach P ts ds).all (· ≤ reachBytes) = true)
    (htj : ts[j]? = some t) (hdj : ds[j]? = some dd) : ∃ A n c xs, v = .slice A n c ∧ By (Hp.of W) A n c xs := by
  obtain ⟨A, n, c, rfl⟩ := okWide_slice ht hval
  obtain ⟨xs, A', n', c', e1, h⟩ := opn_arg ho hd hz htj hdj
  injection e1 with e1 _
  injection e1 with ea eb ec
  subst ea; subst eb; subst ec
  exact ⟨_, _, _, xs, rfl, h⟩
theorem arg_st {fs : Array Field} (ht : P.underlying t = some (.struct fs)) (ho : Opn P t d) (hval : Value.okWide P W r b0 t v) (hd : DataW.Trod enc P W 0 (fun _ => true) true t v dd ps) (hz : (DataW.weightsEach P ts ds).all (· ≤ reachBytes) = true)
    (htj : ts[j]? = some t) (hdj : ds[j]? = some dd) : ∃ x cx, v = .agg cx.toArray ∧ d.rep (Hp.of W) x cx := by
  obtain ⟨cs, rfl, _⟩ := okWide_struct ht hval
  obtain ⟨x, h⟩ := opn_arg ho hd hz htj hdj
  exact ⟨x, cs.toList, by simp, h⟩
theorem arg_b (ht : P.underlying t = some .bool) (hd : DataW.Trod enc P W 0 (fun _ => true) true t v dd ps) (hval : Value.okWide P W r b0 t v) : ∃ b, v = .bool b := by
  simp only [Value.okWide, ht, Cell.okWide] at hval
  cases v <;> simp_all [Cell.ok]
end
/-- The parts of a struct. -/
theorem opn_parts {Hh : Type} {enc : TypeId × Value → Hh} {P : Program} {W : World} {t : TypeId} {fs : Array Field} {fuel : Nat} {cs : List Value} {x : DataW Hh × List MemPlace} (ht : P.underlying t = some (.struct fs))
    (h : DataW.trod enc P W 0 (fun _ => true) true fuel t cs = some x) (hw : ∀ n ∈ x.1.weights P t, n ≤ reachBytes) :
    cs.length = P.cellsOf t ∧ ∀ (i : Nat) (f : Field), fs[i]? = some f → ∀ {α : Type} {d : Kd α}, Opn P f.type d → ∃ a, d.rep (Hp.of W) a ((cs.drop f.offset).take (P.cellsOf f.type)) := by
  obtain ⟨xs, n, rfl, rfl, hlen, hxs, hfs⟩ := DataW.trod_struct ht h
  refine ⟨hlen, fun i f hf α d ho => ?_⟩
  have hi : i < xs.length := by rw [hxs]; exact (Array.getElem?_eq_some_iff.1 hf).1
  have h1 := hfs i f hf
  rw [List.getElem?_eq_getElem hi] at h1
  refine ho h1 fun m hm => hw m ?_
  simp only [DataW.weights, ht]
  refine DataW.weights_mem_each (j := i) (t := f.type) (d := xs[i].1) ?_ ?_ m hm
  · rw [List.getElem?_map, Array.getElem?_toList, hf]; rfl
  · rw [List.getElem?_map, List.getElem?_eq_getElem hi]; rfl
end Go.FM
namespace Go.FM
open Go
/-! ### appending, cutting -/
section
variable {P : Program} {N : Nat} {ρ : Nat → Value} {H : Hp} {w w' : World} {L : List Res} {t ty e bytes m c : Nat} {v : Value} {x y : Operand} {z : Value}
variable {α : Type} {d : Kd α} {xs ys : List α} {cs news : List Value}
theorem St.krowNil (h : St H w L) (e : Nat) (d : Kd α) : St H w (row e d.sz (.slice none 0 0) ([] : List α).length [] :: L) := h.rowNil e d.sz
theorem RowOk.knil (d : Kd α) : RowOk d.sz (.slice none 0 0) ([] : List α).length [] := RowOk.nil d.sz
/-- What an append of elements of a kind does. -/
def AppK (P : Program) (N : Nat) (ρ : Nat → Value) (w : World) (H : Hp) (L : List Res) (op : Op) (ty e : Nat) (d : Kd α) (xs : List α) : Prop :=
  ∃ v' w', Ex P N ρ w op ty v' w' ∧ ∃ cs', RowOk d.sz v' xs.length cs' ∧ d.toKn.rows H xs cs' ∧ St H w' (row e d.sz v' xs.length cs' :: L)
theorem m_appK (hu : P.underlying t = some (.slice e)) (hi : Inf P e z d.sz bytes) (hzs : z.cells.size = d.sz) (h : St H w (row e d.sz v xs.length cs :: L)) (ok : RowOk d.sz v xs.length cs) (hk : d.toKn.rows H xs cs)
    (hx : Ev N ρ x v) {a : Addr} (hy : Ev N ρ y (.slice (some a) m c)) (hk2 : d.toKn.rows H ys news) (hm : ys.length = m) (hnews : At w a news) (hb : (xs.length + m) * bytes ≤ 140737488355328) (hb0 : 0 < bytes) :
    AppK P N ρ w H L (.call { callee := .builtin .append, args := #[x, y], argTypes := #[t, t] }) ty e d (xs ++ ys) := by
  obtain ⟨v', w', h1, h2, h3⟩ := m_app (ty := ty) hu hi hzs d.pos h ok hx hy (by rw [hk2.1, hm]) hnews (Kn.rows_one_cell hk2) hb hb0
  have e1 : xs.length + m = (xs ++ ys).length := by rw [List.length_append, hm]
  rw [e1] at h2 h3
  exact ⟨v', w', h1, _, h2, Kn.rows_append hk hk2, h3⟩
theorem m_appSl (hu : P.underlying t = some (.slice e)) (hi : Inf P e z d.sz bytes) (hzs : z.cells.size = d.sz) (h : St H w (row e d.sz v xs.length cs :: L)) (ok : RowOk d.sz v xs.length cs) (hk : d.toKn.rows H xs cs)
    (hx : Ev N ρ x v) {A : Option Addr} (hy : Ev N ρ y (.slice A m c)) (hs : Sl d H A m c ys) (hb : (xs.length + m) * bytes ≤ 140737488355328) (hb0 : 0 < bytes) :
    AppK P N ρ w H L (.call { callee := .builtin .append, args := #[x, y], argTypes := #[t, t] }) ty e d (xs ++ ys) := by
  obtain ⟨news, h1, h2⟩ := hs.at_
  rcases h2 with rfl | ⟨b, off, rfl, hat⟩
  · have hl := hs.len
    simp only [List.length_nil] at hl
    subst hl
    obtain ⟨i0, e1, _⟩ := hi
    rw [List.append_nil]
    exact ⟨v, w, m_append0 hu e1 h ok hx hy, cs, ok, hk, h⟩
  · exact m_appK hu hi hzs h ok hk hx hy h1 hs.len (hat h) hb hb0
/-- .. of another row of one's own. -/
theorem m_appRow (hu : P.underlying t = some (.slice e)) (hi : Inf P e z d.sz bytes) (hzs : z.cells.size = d.sz) (h : St H w (row e d.sz v xs.length cs :: L)) (ok : RowOk d.sz v xs.length cs) (hk : d.toKn.rows H xs cs)
    (hx : Ev N ρ x v) {u : Value} {e2 : Nat} (i : Nat) (hL : (row e d.sz v xs.length cs :: L)[i]? = some (row e2 d.sz u ys.length news)) (ok2 : RowOk d.sz u ys.length news) (hk2 : d.toKn.rows H ys news) (hy : Ev N ρ y u)
    (hb : (xs.length + ys.length) * bytes ≤ 140737488355328) (hb0 : 0 < bytes) :
    AppK P N ρ w H L (.call { callee := .builtin .append, args := #[x, y], argTypes := #[t, t] }) ty e d (xs ++ ys) := by
  rcases h.rowAll i hL ok2 with h1 | ⟨a, ⟨c', rfl⟩, hat⟩
  · obtain ⟨A, c', rfl, _⟩ := ok2.slice
    have hl : ys = [] := by
      have := hk2.1
      rw [h1] at this
      have h3 := d.pos
      rcases Nat.eq_zero_or_pos ys.length with h4 | h4
      · exact List.eq_nil_of_length_eq_zero h4
      · have := Nat.mul_pos h4 h3
        simp at *; omega
    subst hl
    obtain ⟨i0, e1, _⟩ := hi
    rw [List.append_nil]
    exact ⟨v, w, m_append0 hu e1 h ok hx hy, cs, ok, hk, h⟩
  · exact m_appK hu hi hzs h ok hk hx hy hk2 rfl hat hb hb0
variable {A : Option Addr} {n : Nat} {lo hi_ mx : Operand} {a b : Int} {k k' : IntKind}
theorem sl_h (hu : P.underlying t = some (.slice e)) (hi : Inf P e z d.sz bytes) (hx : Ev N ρ x (.slice A n c)) (hh : Ev N ρ hi_ (.int k a)) (h0 : 0 ≤ a) (h2 : a ≤ c) :
    Ex P N ρ w (.slice t x none (some hi_) none) ty (.slice A a.toNat c) w := by
  obtain ⟨i0, e1, _⟩ := hi
  exact x_slice_h hu e1 hx hh h0 h2
theorem sl_l (hu : P.underlying t = some (.slice e)) (hi : Inf P e z d.sz bytes) (hx : Ev N ρ x (.slice A n c)) (hl : Ev N ρ lo (.int k a)) (h0 : 0 ≤ a) (h1 : a ≤ n) (h2 : n ≤ c) :
    Ex P N ρ w (.slice t x (some lo) none none) ty (.slice (cutA A c a.toNat d.sz) (n - a.toNat) (c - a.toNat)) w := by
  obtain ⟨i0, e1, _, e3, _⟩ := hi
  have := x_slice_l (ty := ty) (w := w) hu e1 hx hl h0 h1 h2
  rwa [e3] at this
theorem sl_lh (hu : P.underlying t = some (.slice e)) (hi : Inf P e z d.sz bytes) (hx : Ev N ρ x (.slice A n c)) (hl : Ev N ρ lo (.int k a)) (hh : Ev N ρ hi_ (.int k' b)) (h0 : 0 ≤ a) (h1 : a ≤ b) (h2 : b ≤ c) :
    Ex P N ρ w (.slice t x (some lo) (some hi_) none) ty (.slice (cutA A c a.toNat d.sz) (b.toNat - a.toNat) (c - a.toNat)) w := by
  obtain ⟨i0, e1, _, e3, _⟩ := hi
  have := x_slice_lh (ty := ty) (w := w) hu e1 hx hl hh h0 h1 h2
  rwa [e3] at this
theorem sl_hm (hu : P.underlying t = some (.slice e)) (hi : Inf P e z d.sz bytes) (hx : Ev N ρ x (.slice A n c)) (hh : Ev N ρ hi_ (.int k a)) (hm : Ev N ρ mx (.int k' a)) (h0 : 0 ≤ a) (h2 : a ≤ c) :
    Ex P N ρ w (.slice t x none (some hi_) (some mx)) ty (.slice A a.toNat a.toNat) w := fun _ _ _ _ => by
  have e1 : (en N ρ).eval x = .slice A n c := hx
  have e2 : (en N ρ).eval hi_ = .int k a := hh
  have e3 : (en N ρ).eval mx = .int k' a := hm
  obtain ⟨i0, f1, _⟩ := hi
  have he : P.elem t = e := by simp [Program.elem, hu]
  have ht : P.underlying t = some (.slice (P.elem t)) := by rw [he]; exact hu
  have h := run_slice_hm (P := P) w t A n c ht k k' a a h0 (Int.le_refl _) h2
  have hr : (Instr.sliceAt t (.slice A n c) none (some (.int k a)) (some (.int k' a))).run P w = .ok (.slice A a.toNat a.toNat) w := by
    rw [run_sliceAt_slice (P := P) w t _ _ _ _ ht, h, he]
    by_cases h1 : a.toNat = 0
    · cases A <;> simp [sizeOf, typeInfo, f1, sliced, h1, Addr.add]
    · cases A <;> simp [sizeOf, typeInfo, f1, sliced, h1, Addr.add]
  simp [execOp, e1, e2, e3, hr]
end
end Go.FM
namespace Go.FM
open Go
theorem Rd.hat {H : Hp} {b o : Nat} {cs : List Value} (h : Rd H (some ⟨b, o, none⟩) cs) : ∀ {w : World} {L : List Res}, St H w L → At w ⟨b, o, none⟩ cs := by
  intro w L hs
  rcases h with rfl | ⟨b', o', c, E, fr, e, h2, h3⟩
  · intro j u hu; simp at hu
  · injection e with e
    injection e with e1 e2
    subst e1; subst e2
    intro j u hu
    rw [add_none]
    exact cell_at (hs.fz b _ h2) (h3 j u hu)
section
variable {P : Program} {N : Nat} {ρ : Nat → Value} {ops : Array Oper} {rest : List Oper} {d ty : Nat} {pos : String} {aft : Array Edge} {C : World → Prop} {Qa : Act → Prop}
theorem q_cc {f : FuncId} {fv : Operand} {cap : Array Value} {xs : Array Operand} {ats : Array TypeId} {vs us : Array Value} {v : Value} (cb : Cb P f)
    (hfv : Ev N ρ fv (.func (.func f) #[] cap)) (hvs : xs.map (en N ρ).eval = vs) (hus : vs ++ cap = us)
    (hc : ∀ w, C w → Calls P f us w (fun e w' => e = .returned v ∧ C w')) (h : wpQuiet P ops C Qa rest (en N (up ρ d v))) :
    wpQuiet P ops C Qa (⟨some d, .call { callee := .value fv, args := xs, argTypes := ats }, ty, pos, aft, none⟩ :: rest) (en N ρ) := by
  obtain ⟨fn, h1, h2, h3⟩ := cb
  have hb' : fn.body ≠ none := fun hh => by rw [hh] at h3; cases h3
  have hfv' : (en N ρ).eval fv = .func (.func f) #[] cap := hfv
  unfold wpQuiet
  rw [if_pos (by simp [Region.wanted])]
  refine ⟨v, fun w hw => ?_, by rw [en_put]; exact h⟩
  unfold Oper.quietAt
  have hn : fn.name ≠ "runtime.NumGoroutine" := by simpa using h2
  have : (execOp (en N ρ).eval ⟨some d, .call { callee := .value fv, args := xs, argTypes := ats }, ty, pos, aft, none⟩).run P w = .ok (.enter f us) w := by
    simp [execOp, resolve, Deferred.ofValue, hfv', hvs, invoke, callFunc, h1, hn, hb', hus]
  rw [this]
  exact ⟨rfl, hc w hw⟩
end
end Go.FM
namespace Go.FM
open Go
section
variable {P : Program} {N : Nat} {ρ : Nat → Value} {H : Hp} {w w' : World} {L : List Res} {t ty e bytes n c : Nat} {v : Value} {x y : Operand} {z : Value} {yt : TypeId} {A : Option Addr}
theorem x_eqlSN (hu : P.underlying t = some (.slice e)) (hx : Ev N ρ x (.slice A n c)) (hy : Ev N ρ y (.slice none 0 0)) : Ex P N ρ w (.binOp .eql t x y yt) ty (.bool A.isNone) w := fun _ _ _ _ => by
  have h1 : (en N ρ).eval x = .slice A n c := hx
  have h2 : (en N ρ).eval y = .slice none 0 0 := hy
  have hb : (binOp .eql t (.slice A n c) (.slice none 0 0)).run P w = .ok (.bool A.isNone) w := by
    simp [binOp, run_equal_slice_nil w t e A n c hu]
  have hg : (eqGuard .eql t x y (.slice A n c) (.slice none 0 0)).run P w = .ok () w := rfl
  simp [execOp, h1, h2, hg, hb]
/-- An empty literal. -/
theorem m_lit0 {size : Nat} (hu : P.underlying t = some (.slice e)) (hi : Inf P e z size bytes) (h : St H w L) :
    ∃ v' w', Ex P N ρ w (.buildSlice t 0 #[]) ty v' w' ∧ ∃ g, v' = .slice (some ⟨g, 0, none⟩) 0 0 ∧ St H w' (obj g e [] :: L) := by
  refine ⟨_, w.alloc (.cells #[] e), fun _ _ _ _ => ?_, w.heap.size, rfl, h.alloc _⟩
  obtain ⟨i0, e1, e2, e3, _⟩ := hi
  simp [execOp, Instr.buildSlice, run_underlying hu, sizeOf, typeInfo, e1, Instr.fill, newRow]
  congr 2
  apply Array.ext_getElem?
  intro j
  simp
variable {α : Type} {d : Kd α} {xs : List α}
theorem St.krow0 {g : Nat} (h : St H w (obj g e [] :: L)) (d : Kd α) : St H w (row e d.sz (.slice (some ⟨g, 0, none⟩) 0 0) ([] : List α).length [] :: L) ∧ RowOk d.sz (.slice (some ⟨g, 0, none⟩) 0 0) ([] : List α).length [] :=
  h.rowOfObj (n := 0) (size := d.sz) (by simp) (by simp [maxLen])
theorem Kn.rows_replicate {d : Kn α} {y : α} {c : List Value} (h : d.rep H y c) : ∀ n, d.rows H (List.replicate n y) (List.replicate n c).flatten
  | 0 => Kn.rows_nil d H
  | n + 1 => by
    rw [List.replicate_succ', List.replicate_succ', List.flatten_append]
    have := Kn.rows_append (Kn.rows_replicate h n) (Kn.rows_one h)
    simpa using this
theorem m_makeK {k k' : IntKind} {y0 : α} (hu : P.underlying t = some (.slice e)) (hi : Inf P e z d.sz bytes) (hr : d.rep H y0 z.cells.toList) (h : St H w L) {i : Int} (hx : Ev N ρ x (.int k i)) (hy : Ev N ρ y (.int k' i)) (h0 : 0 ≤ i)
    (hb : bytes * i.toNat ≤ 281474976710656) (hb0 : 0 < bytes) : AppK P N ρ w H L (.makeSlice t x y) ty e d (List.replicate i.toNat y0) := by
  obtain ⟨i0, e1, e2, e3, e4⟩ := hi
  have hm : i.toNat ≤ maxLen := by
    have : i.toNat ≤ bytes * i.toNat := Nat.le_mul_of_pos_left _ hb0
    simp only [maxLen]; omega
  have hb' : (i0.bytes : Int) * i ≤ 281474976710656 := by
    have : ((bytes * i.toNat : Nat) : Int) ≤ 281474976710656 := by omega
    rwa [Int.natCast_mul, Int.toNat_of_nonneg h0, ← e4] at this
  have hrun := run_make (P := P) w t e i0 z hu e1 e2 k k' i i h0 (Int.le_refl _) hb' (by simp only [maxLen] at hm; omega)
  have hzl : z.cells.toList.length = d.sz := d.len hr
  have hmc : madeCells z.cells (i.toNat * i0.size) = ((List.replicate i.toNat z.cells.toList).flatten).toArray := by
    have := range_cells z.cells.toList i.toNat (by rw [hzl]; exact d.pos)
    rw [hzl, Array.toArray_toList, ← e3] at this
    rw [← this]
    rfl
  rw [hmc] at hrun
  have hrows := Kn.rows_replicate hr i.toNat
  have hs := h.alloc (.cells ((List.replicate i.toNat z.cells.toList).flatten).toArray e)
  have hl : ((List.replicate i.toNat z.cells.toList).flatten).length = i.toNat * d.sz := by rw [hrows.1]; simp
  have := St.rowOfObj (g := w.heap.size) (T := e) (n := i.toNat) (size := d.sz) (cs := (List.replicate i.toNat z.cells.toList).flatten) hs hl hm
  have hln : (List.replicate i.toNat y0).length = i.toNat := by simp
  refine ⟨_, _, fun _ _ _ _ => ?_, _, by rw [hln]; exact this.2, hrows, by rw [hln]; exact this.1⟩
  have q1 : (en N ρ).eval x = .int k i := hx
  have q2 : (en N ρ).eval y = .int k' i := hy
  simp [execOp, q1, q2, hrun]
end
theorem Sl.isNone {α : Type} {d : Kd α} {H : Hp} {A : Option Addr} {n c : Nat} {xs : List α} (h : Sl d H A n c xs) (hA : A.isNone = true) : xs = [] := by
  cases A with
  | some a => cases hA
  | none =>
    cases xs with
    | nil => rfl
    | cons x l =>
      obtain ⟨_, b, off, _, _, hA', _⟩ := h.get (i := 0) (by have := h.len; simp at this; omega)
      cases hA'
theorem By.isNone {H : Hp} {A : Option Addr} {n c : Nat} {xs : List Nat} (h : By H A n c xs) (hA : A.isNone = true) : xs = [] := by
  cases A with
  | some a => cases hA
  | none =>
    rcases h.toBs.at_ with h1 | ⟨b, off, hA', _⟩
    · exact h1
    · cases hA'
end Go.FM
