/- Steps of the proofs over the functions of this seat, printed by a program (gen.py) and checked by Lean. -/
import Derived.Test.YtmjgphaobdplcaaRows
import Derived.Test.YtmjgphaobdplcaaFmT
import Derived.Test.YtmjgphaobdplcaaFmK
set_option linter.unusedVariables false
set_option linter.unusedSimpArgs false
namespace Go.Proofs.Ytmjgphaobdplcaa
open Go Go.FM Go.Proofs Go.ChangeShapes Go.WideShapes Go.ChangeAt Go.RowKit
theorem own : ownKnob Try.prog.godebug = none := by kernel_rfl
theorem laidOut : laidOutB Try.prog = true := by kernel_rfl
theorem opn22 : Opn Try.prog 22 kBs := opn_bytes Try.underlying22 Try.underlying5 (by kernel_rfl) (by kernel_rfl)
theorem opn5 : Opn Try.prog 5 (kU .u8 256 1 (by decide)) := opn_nat Try.underlying5 rfl rfl
theorem opn3 : Opn Try.prog 3 kI := opn_i64 Try.underlying3
theorem opn52 : Opn Try.prog 52 kAsk := fun {Hh enc W fuel cs x} h hw => by
  obtain ⟨hl, hp⟩ := opn_parts Try.underlying52 h hw
  rw [show Try.prog.cellsOf 52 = 2 from by kernel_rfl] at hl
  match cs, hl with
  | [v0, v1], _ =>
    obtain ⟨a0, r0⟩ := hp 0 _ rfl opn5
    have r0 : (kU .u8 256 1 (by decide)).rep _ a0 (([v0, v1].drop 0).take (Try.prog.cellsOf 5)) := r0
    rw [show Try.prog.cellsOf 5 = 1 from by kernel_rfl] at r0
    have r0 : (kU .u8 256 1 (by decide)).rep _ a0 [v0] := r0
    obtain ⟨a1, r1⟩ := hp 1 _ rfl opn3
    have r1 : kI.rep _ a1 (([v0, v1].drop 1).take (Try.prog.cellsOf 3)) := r1
    rw [show Try.prog.cellsOf 3 = 1 from by kernel_rfl] at r1
    have r1 : kI.rep _ a1 [v1] := r1
    obtain ⟨e0, b_1⟩ := r0
    try simp only [List.cons.injEq, and_true] at e0
    first | subst e0 | cases e0
    obtain ⟨e1, ⟨b_101, b_102⟩⟩ := r1
    try simp only [List.cons.injEq, and_true] at e1
    first | subst e1 | cases e1
    exact ⟨GAsk.mk a0 a1, rfl, b_1, ⟨b_101, b_102⟩⟩
theorem opn47 : Opn Try.prog 47 (kSl kAsk) := opn_sl Try.underlying47 (by kernel_rfl) (by kernel_rfl) opn52
end Go.Proofs.Ytmjgphaobdplcaa
