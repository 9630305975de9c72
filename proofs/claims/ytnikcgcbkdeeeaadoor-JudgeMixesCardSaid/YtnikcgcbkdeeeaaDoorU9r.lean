/- Steps of the proofs over the functions of this seat, printed by a program (gen.py) and checked by Lean. -/
import Derived.Test.YtnikcgcbkdeeeaaDoorRows
import Derived.Test.YtnikcgcbkdeeeaaDoorFmR
import Derived.Test.YtnikcgcbkdeeeaaDoorFmT
import Derived.Test.YtnikcgcbkdeeeaaDoorFmK
import Derived.Test.YtnikcgcbkdeeeaaDoorU9tab
set_option linter.unusedVariables false
set_option linter.unusedSimpArgs false
namespace Go.Proofs.YtnikcgcbkdeeeaaDoor
open Go Go.FM Go.Proofs Go.ChangeShapes Go.WideShapes Go.ChangeAt Go.RowKit
theorem own : ownKnob Tryd.prog.godebug = none := by kernel_rfl
theorem laidOut : laidOutB Tryd.prog = true := by kernel_rfl
theorem of_laid {W : World} (h : laidMetH Tryd.prog [("math/bits.deBruijn32tab", Rows.laid_math_bits_deBruijn32tab)] W) : Tab (Hp.of W) :=
  laid_bytes tab (by kernel_rfl) (by kernel_rfl) Tryd.underlying94 Tryd.underlying5 (by kernel_rfl) (by rfl) h
theorem door_met (os : Os) (args : Array Value) : laidMetH Tryd.prog [("math/bits.deBruijn32tab", Rows.laid_math_bits_deBruijn32tab)] ((World.doorLaid Tryd.prog 400 os).forCall (fun _ _ => 0) ⟨#[], args, []⟩).memory :=
  laidMetH_of_parts3 (fuel := 8) (laidMet_of_run' 8 (by kernel_rfl) (by kernel_rfl)) (by kernel_rfl) (by kernel_rfl)
theorem opn30 : Opn Tryd.prog 30 kBs := opn_bytes Tryd.underlying30 Tryd.underlying5 (by kernel_rfl) (by kernel_rfl)
theorem opn32 : Opn Tryd.prog 32 (kSl kBs) := opn_sl Tryd.underlying32 (by kernel_rfl) (by kernel_rfl) opn30
theorem opn22 : Opn Tryd.prog 22 (kSl (kSl kBs)) := opn_sl Tryd.underlying22 (by kernel_rfl) (by kernel_rfl) opn32
theorem opn3 : Opn Tryd.prog 3 kI := opn_i64 Tryd.underlying3
theorem opn34 : Opn Tryd.prog 34 kItem := fun {Hh enc W fuel cs x} h hw => by
  obtain ⟨hl, hp⟩ := opn_parts Tryd.underlying34 h hw
  rw [show Tryd.prog.cellsOf 34 = 2 from by kernel_rfl] at hl
  match cs, hl with
  | [v0, v1], _ =>
    obtain ⟨a0, r0⟩ := hp 0 _ rfl opn3
    have r0 : kI.rep _ a0 (([v0, v1].drop 0).take (Tryd.prog.cellsOf 3)) := r0
    rw [show Tryd.prog.cellsOf 3 = 1 from by kernel_rfl] at r0
    have r0 : kI.rep _ a0 [v0] := r0
    obtain ⟨a1, r1⟩ := hp 1 _ rfl opn30
    have r1 : kBs.rep _ a1 (([v0, v1].drop 1).take (Tryd.prog.cellsOf 30)) := r1
    rw [show Tryd.prog.cellsOf 30 = 1 from by kernel_rfl] at r1
    have r1 : kBs.rep _ a1 [v1] := r1
    obtain ⟨e0, ⟨b_1, b_2⟩⟩ := r0
    try simp only [List.cons.injEq, and_true] at e0
    first | subst e0 | cases e0
    obtain ⟨A_101, n_102, c_103, e1, hy_104⟩ := r1
    try simp only [List.cons.injEq, and_true] at e1
    first | subst e1 | cases e1
    exact ⟨GItem.mk a0 a1, A_101, n_102, c_103, rfl, ⟨b_1, b_2⟩, hy_104⟩
theorem opn25 : Opn Tryd.prog 25 (kSl kItem) := opn_sl Tryd.underlying25 (by kernel_rfl) (by kernel_rfl) opn34
theorem opn23 : Opn Tryd.prog 23 (kSl (kSl kItem)) := opn_sl Tryd.underlying23 (by kernel_rfl) (by kernel_rfl) opn25
end Go.Proofs.YtnikcgcbkdeeeaaDoor
