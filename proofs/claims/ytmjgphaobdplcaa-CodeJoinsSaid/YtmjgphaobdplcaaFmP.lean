/- Pointers held against nil. -/
import Derived.Test.YtmjgphaobdplcaaFmS2
import Derived.Test.YtmjgphaobdplcaaFmG
import Derived.Laws.Pointers
set_option linter.unusedVariables false
set_option linter.unusedSimpArgs false
namespace Go.FM
open Go
section
variable {P : Program} {N : Nat} {ρ : Nat → Value} {w : World} {t ty e : Nat} {x y : Operand} {p : Option Addr} {yt : TypeId} {r : Bool}
theorem run_eqP (hu : P.underlying t = some (.pointer e)) : (Op.equal t (.pointer p) (.pointer none)).run P w = .ok p.isNone w := by
  have h : P.pointee t = e := by simp [Program.pointee, hu]
  exact run_equal_pointer_nil w t p (by rw [h]; exact hu)
theorem x_eqlP (hu : P.underlying t = some (.pointer e)) (hx : Ev N ρ x (.pointer p)) (hy : Ev N ρ y (.pointer none)) (hr : p.isNone = r) : Ex P N ρ w (.binOp .eql t x y yt) ty (.bool r) w := fun _ _ _ _ => by
  have h1 : (en N ρ).eval x = .pointer p := hx
  have h2 : (en N ρ).eval y = .pointer none := hy
  have hg : (eqGuard .eql t x y (.pointer p) (.pointer none)).run P w = .ok () w := by cases p <;> rfl
  have hb : (binOp .eql t (.pointer p) (.pointer none)).run P w = .ok (.bool r) w := by
    have := run_eqP (p := p) (w := w) hu
    simp [binOp, this, hr]
  simp [execOp, h1, h2, hg, hb]
theorem x_neqP (hu : P.underlying t = some (.pointer e)) (hx : Ev N ρ x (.pointer p)) (hy : Ev N ρ y (.pointer none)) (hr : (!p.isNone) = r) : Ex P N ρ w (.binOp .neq t x y yt) ty (.bool r) w := fun _ _ _ _ => by
  have h1 : (en N ρ).eval x = .pointer p := hx
  have h2 : (en N ρ).eval y = .pointer none := hy
  have hg : (eqGuard .neq t x y (.pointer p) (.pointer none)).run P w = .ok () w := by cases p <;> rfl
  have hb : (binOp .neq t (.pointer p) (.pointer none)).run P w = .ok (.bool r) w := by
    have := run_eqP (p := p) (w := w) hu
    simp [binOp, this, hr]
  simp [execOp, h1, h2, hg, hb]
end
end Go.FM
