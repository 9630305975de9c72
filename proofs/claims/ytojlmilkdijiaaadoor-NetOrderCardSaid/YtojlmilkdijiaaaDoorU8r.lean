/- Steps of the proofs over the functions of this seat, printed by a program (gen.py) and checked by Lean. -/
import Derived.Test.YtojlmilkdijiaaaDoorRows
import Derived.Test.YtojlmilkdijiaaaDoorFmR
import Derived.Test.YtojlmilkdijiaaaDoorFmT
import Derived.Test.YtojlmilkdijiaaaDoorFmK
import Derived.Test.YtojlmilkdijiaaaDoorU8a
set_option linter.unusedVariables false
set_option linter.unusedSimpArgs false
namespace Go.Proofs.YtojlmilkdijiaaaDoor
open Go Go.FM Go.Proofs Go.ChangeShapes Go.WideShapes Go.ChangeAt Go.RowKit
theorem own : ownKnob Tryd.prog.godebug = none := by kernel_rfl
theorem laidOut : laidOutB Tryd.prog = true := by kernel_rfl
theorem of_laid {W : World} (h : laidMetH Tryd.prog [("math/bits.deBruijn32tab", Rows.laid_math_bits_deBruijn32tab)] W) : Tab (Hp.of W) :=
  laid_bytes tab (by kernel_rfl) (by kernel_rfl) Tryd.underlying83 Tryd.underlying5 (by kernel_rfl) (by rfl) h
theorem door_met (os : Os) (args : Array Value) : laidMetH Tryd.prog [("math/bits.deBruijn32tab", Rows.laid_math_bits_deBruijn32tab)] ((World.doorLaid Tryd.prog 400 os).forCall (fun _ _ => 0) ⟨#[], args, []⟩).memory :=
  laidMetH_of_parts3 (fuel := 8) (laidMet_of_run' 8 (by kernel_rfl) (by kernel_rfl)) (by kernel_rfl) (by kernel_rfl)
theorem opn22 : Opn Tryd.prog 22 kBs := opn_bytes Tryd.underlying22 Tryd.underlying5 (by kernel_rfl) (by kernel_rfl)
theorem opn29 : Opn Tryd.prog 29 (kU .u16 65536 2 (by decide)) := opn_nat Tryd.underlying29 rfl rfl
theorem opn34 : Opn Tryd.prog 34 (kSl (kU .u16 65536 2 (by decide))) := opn_sl Tryd.underlying34 (by kernel_rfl) (by kernel_rfl) opn29
theorem opn43 : Opn Tryd.prog 43 (kSl kBs) := opn_sl Tryd.underlying43 (by kernel_rfl) (by kernel_rfl) opn22
end Go.Proofs.YtojlmilkdijiaaaDoor
