/- Pointers held against nil. -/
import Derived.Test.YtnikcgcbkdeeeaaDoorFmS2
import Derived.Test.YtnikcgcbkdeeeaaDoorFmG
import Derived.Laws.Pointers
import Derived.Laws.Slices
set_option linter.unusedVariables false
set_option linter.unusedSimpArgs false
namespace Go.FM
open Go
section
variable {P : Program} {N : Nat} {ρ : Nat → Value} {w : World} {t ty e : Nat} {x y : Operand} {p : Option Addr} {yt : TypeId} {r : Bool}
theorem run_eqP (hu : P.underlying t = some (.pointer e)) : (Op.equal t (.pointer p) (.pointer none)).run P w = .ok p.isNone w := by
  have h : P.pointee t = e := by simp [Program.pointee, hu]
  exact run_equal_pointer_nil w t p (by rw [h]; exact hu)
theorem x_eqlP (hu : P.underlying t = some (.pointer e)) (hx : Ev N ρ x (.pointer p)) (hy : Ev N ρ y (.pointer none)) (hr : p.isNone = r) : Ex P N ρ w (.binOp .eql t x y yt) ty (.bool r) w := fun _ _ _ _ => by
  have h1 : (en N ρ).eval x = .pointer p := hx
  have h2 : (en N ρ).eval y = .pointer none := hy
  have hg : (eqGuard .eql t x y (.pointer p) (.pointer none)).run P w = .ok () w := by cases p <;> rfl
  have hb : (binOp .eql t (.pointer p) (.pointer none)).run P w = .ok (.bool r) w := by
    have := run_eqP (p := p) (w := w) hu
    simp [binOp, this, hr]
  simp [execOp, h1, h2, hg, hb]
theorem x_neqP (hu : P.underlying t = some (.pointer e)) (hx : Ev N ρ x (.pointer p)) (hy : Ev N ρ y (.pointer none)) (hr : (!p.isNone) = r) : Ex P N ρ w (.binOp .neq t x y yt) ty (.bool r) w := fun _ _ _ _ => by
  have h1 : (en N ρ).eval x = .pointer p := hx
  have h2 : (en N ρ).eval y = .pointer none := hy
  have hg : (eqGuard .neq t x y (.pointer p) (.pointer none)).run P w = .ok () w := by cases p <;> rfl
  have hb : (binOp .neq t (.pointer p) (.pointer none)).run P w = .ok (.bool r) w := by
    have := run_eqP (p := p) (w := w) hu
    simp [binOp, this, hr]
  simp [execOp, h1, h2, hg, hb]
theorem bs_hm {a : Int} {k k' : IntKind} {hi_ mx : Operand} {n c : Nat} {A : Option Addr} (hu : P.underlying t = some (.slice e)) (hi : Inf P e (.int .u8 0) 1 1) (hx : Ev N ρ x (.slice A n c)) (hh : Ev N ρ hi_ (.int k a)) (hm : Ev N ρ mx (.int k' a)) (h0 : 0 ≤ a) (h2 : a ≤ c) :
    Ex P N ρ w (.slice t x none (some hi_) (some mx)) ty (.slice A a.toNat a.toNat) w := fun _ _ _ _ => by
  have e1 : (en N ρ).eval x = .slice A n c := hx
  have e2 : (en N ρ).eval hi_ = .int k a := hh
  have e3 : (en N ρ).eval mx = .int k' a := hm
  obtain ⟨i0, f1, _⟩ := hi
  have he : P.elem t = e := by simp [Program.elem, hu]
  have ht : P.underlying t = some (.slice (P.elem t)) := by rw [he]; exact hu
  have h := run_slice_hm (P := P) w t A n c ht k k' a a h0 (Int.le_refl _) h2
  have hr : (Instr.sliceAt t (.slice A n c) none (some (.int k a)) (some (.int k' a))).run P w = .ok (.slice A a.toNat a.toNat) w := by
    rw [run_sliceAt_slice (P := P) w t _ _ _ _ ht, h, he]
    by_cases h1 : a.toNat = 0
    · cases A <;> simp [sizeOf, typeInfo, f1, sliced, h1, Addr.add]
    · cases A <;> simp [sizeOf, typeInfo, f1, sliced, h1, Addr.add]
  simp [execOp, e1, e2, e3, hr]
theorem Bs.takeC {H : Hp} {A : Option Addr} {n c : Nat} {bs : List Nat} (h : Bs H A n c bs) {k : Nat} (hk : k ≤ n) : Bs H A k k (bs.take k) :=
  let q := h.take hk
  ⟨q.rd, q.len, Nat.le_refl _, Nat.le_trans q.le q.max, q.lt⟩
end
end Go.FM
