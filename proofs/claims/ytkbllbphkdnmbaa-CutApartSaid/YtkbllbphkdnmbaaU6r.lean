/- Steps of the proofs over the functions of this seat, printed by a program (gen.py) and checked by Lean. -/
import Derived.Test.YtkbllbphkdnmbaaRows
import Derived.Test.YtkbllbphkdnmbaaFmT
import Derived.Test.YtkbllbphkdnmbaaFmK
set_option linter.unusedVariables false
set_option linter.unusedSimpArgs false
namespace Go.Proofs.Ytkbllbphkdnmbaa
open Go Go.FM Go.Proofs Go.ChangeShapes Go.WideShapes Go.ChangeAt Go.RowKit
theorem own : ownKnob Try.prog.godebug = none := by kernel_rfl
theorem laidOut : laidOutB Try.prog = true := by kernel_rfl
theorem opn23 : Opn Try.prog 23 (kU .u64 18446744073709551616 8 (by decide)) := opn_nat Try.underlying23 rfl rfl
theorem opn3 : Opn Try.prog 3 kI := opn_i64 Try.underlying3
theorem opn25 : Opn Try.prog 25 kViewID := fun {Hh enc W fuel cs x} h hw => by
  obtain ⟨hl, hp⟩ := opn_parts Try.underlying25 h hw
  rw [show Try.prog.cellsOf 25 = 2 from by kernel_rfl] at hl
  match cs, hl with
  | [v0, v1], _ =>
    obtain ⟨a0, r0⟩ := hp 0 _ rfl opn23
    have r0 : (kU .u64 18446744073709551616 8 (by decide)).rep _ a0 (([v0, v1].drop 0).take (Try.prog.cellsOf 23)) := r0
    rw [show Try.prog.cellsOf 23 = 1 from by kernel_rfl] at r0
    have r0 : (kU .u64 18446744073709551616 8 (by decide)).rep _ a0 [v0] := r0
    obtain ⟨a1, r1⟩ := hp 1 _ rfl opn3
    have r1 : kI.rep _ a1 (([v0, v1].drop 1).take (Try.prog.cellsOf 3)) := r1
    rw [show Try.prog.cellsOf 3 = 1 from by kernel_rfl] at r1
    have r1 : kI.rep _ a1 [v1] := r1
    obtain ⟨e0, b_1⟩ := r0
    try simp only [List.cons.injEq, and_true] at e0
    first | subst e0 | cases e0
    obtain ⟨e1, ⟨b_101, b_102⟩⟩ := r1
    try simp only [List.cons.injEq, and_true] at e1
    first | subst e1 | cases e1
    exact ⟨GViewID.mk a0 a1, rfl, b_1, ⟨b_101, b_102⟩⟩
theorem opn40 : Opn Try.prog 40 kBs := opn_bytes Try.underlying40 Try.underlying5 (by kernel_rfl) (by kernel_rfl)
theorem opn47 : Opn Try.prog 47 kItem := fun {Hh enc W fuel cs x} h hw => by
  obtain ⟨hl, hp⟩ := opn_parts Try.underlying47 h hw
  rw [show Try.prog.cellsOf 47 = 2 from by kernel_rfl] at hl
  match cs, hl with
  | [v0, v1], _ =>
    obtain ⟨a0, r0⟩ := hp 0 _ rfl opn3
    have r0 : kI.rep _ a0 (([v0, v1].drop 0).take (Try.prog.cellsOf 3)) := r0
    rw [show Try.prog.cellsOf 3 = 1 from by kernel_rfl] at r0
    have r0 : kI.rep _ a0 [v0] := r0
    obtain ⟨a1, r1⟩ := hp 1 _ rfl opn40
    have r1 : kBs.rep _ a1 (([v0, v1].drop 1).take (Try.prog.cellsOf 40)) := r1
    rw [show Try.prog.cellsOf 40 = 1 from by kernel_rfl] at r1
    have r1 : kBs.rep _ a1 [v1] := r1
    obtain ⟨e0, ⟨b_1, b_2⟩⟩ := r0
    try simp only [List.cons.injEq, and_true] at e0
    first | subst e0 | cases e0
    obtain ⟨A_101, n_102, c_103, e1, hy_104⟩ := r1
    try simp only [List.cons.injEq, and_true] at e1
    first | subst e1 | cases e1
    exact ⟨GItem.mk a0 a1, A_101, n_102, c_103, rfl, ⟨b_1, b_2⟩, hy_104⟩
theorem opn29 : Opn Try.prog 29 (kSl kItem) := opn_sl Try.underlying29 (by kernel_rfl) (by kernel_rfl) opn47
theorem opn38 : Opn Try.prog 38 kState := fun {Hh enc W fuel cs x} h hw => by
  obtain ⟨hl, hp⟩ := opn_parts Try.underlying38 h hw
  rw [show Try.prog.cellsOf 38 = 4 from by kernel_rfl] at hl
  match cs, hl with
  | [v0, v1, v2, v3], _ =>
    obtain ⟨a0, r0⟩ := hp 0 _ rfl opn25
    have r0 : kViewID.rep _ a0 (([v0, v1, v2, v3].drop 0).take (Try.prog.cellsOf 25)) := r0
    rw [show Try.prog.cellsOf 25 = 2 from by kernel_rfl] at r0
    have r0 : kViewID.rep _ a0 [v0, v1] := r0
    obtain ⟨a1, r1⟩ := hp 1 _ rfl opn3
    have r1 : kI.rep _ a1 (([v0, v1, v2, v3].drop 2).take (Try.prog.cellsOf 3)) := r1
    rw [show Try.prog.cellsOf 3 = 1 from by kernel_rfl] at r1
    have r1 : kI.rep _ a1 [v2] := r1
    obtain ⟨a2, r2⟩ := hp 2 _ rfl opn29
    have r2 : (kSl kItem).rep _ a2 (([v0, v1, v2, v3].drop 3).take (Try.prog.cellsOf 29)) := r2
    rw [show Try.prog.cellsOf 29 = 1 from by kernel_rfl] at r2
    have r2 : (kSl kItem).rep _ a2 [v3] := r2
    obtain ⟨e0, b_1, ⟨b_2, b_3⟩⟩ := r0
    try simp only [List.cons.injEq, and_true] at e0
    first | (obtain ⟨rfl, rfl⟩ := e0) | cases e0
    obtain ⟨e1, ⟨b_101, b_102⟩⟩ := r1
    try simp only [List.cons.injEq, and_true] at e1
    first | subst e1 | cases e1
    obtain ⟨A_201, n_202, c_203, e2, hl_204⟩ := r2
    try simp only [List.cons.injEq, and_true] at e2
    first | subst e2 | cases e2
    exact ⟨GState.mk a0 a1 a2, A_201, n_202, c_203, rfl, b_1, ⟨b_2, b_3⟩, ⟨b_101, b_102⟩, hl_204⟩
theorem opn22 : Opn Try.prog 22 (kSl kState) := opn_sl Try.underlying22 (by kernel_rfl) (by kernel_rfl) opn38
end Go.Proofs.Ytkbllbphkdnmbaa
