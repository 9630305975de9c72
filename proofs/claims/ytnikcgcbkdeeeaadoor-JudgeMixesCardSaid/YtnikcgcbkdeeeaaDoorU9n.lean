/- Steps of the proofs over the functions of this seat, printed by a program (gen.py) and checked by Lean. -/
import Derived.Test.YtnikcgcbkdeeeaaDoorUty
import Derived.Test.YtnikcgcbkdeeeaaDoorFmM4b
import Derived.Test.YtnikcgcbkdeeeaaDoorFmP
import Derived.Test.YtnikcgcbkdeeeaaDoorFmK
import Derived.Test.YtnikcgcbkdeeeaaDoorFmT
import Derived.Test.YtnikcgcbkdeeeaaDoorU9o
set_option linter.unusedVariables false
set_option linter.unusedSimpArgs false
namespace Go.Proofs.YtnikcgcbkdeeeaaDoor
open Go Go.FM Go.Proofs
attribute [local irreducible] wpList wpQuiet wpS Code.wp Calls
set_option maxHeartbeats 8000000 in
theorem views_nil {H : Hp} {w : World} {L : List Res} (hs : St H w (L))  : Calls Tryd.prog 15 #[.slice none 0 0] w (fun e w' => e = .returned (.bool true) ∧ St H w' (L)) := by
  refine enter (args := [.slice none 0 0]) (N := 65) Tryd.func15 rfl rfl rfl ?_
  refine c_seq ?_
  refine c_region ?_
  refine st (v := .bool false) (x_assign .const) ?_
  refine c_nil ?_
  refine n_then ?_
  refine c_seq ?_
  refine c_region ?_
  refine st (v := .slice none 0 0) (x_assign .const) ?_
  refine c_nil ?_
  refine n_then ?_
  refine c_seq ?_
  refine c_seq ?_
  refine c_region ?_
  refine st (v := .slice none 0 0) (x_move (.tmp rfl rfl)) ?_
  refine st (v := .int .i64 ((0 : Nat) : Int)) (x_len (n := 0) Tryd.underlying36 (.tmp rfl rfl)) ?_
  refine st (v := .int .i64 0) (x_move .const) ?_
  refine c_nil ?_
  refine n_then ?_
  refine c_block ?_
  refine c_loop (fun ρ w mm => ∃ (i : Nat), ρ 3 = .slice none 0 0 ∧ ρ 12 = .slice none 0 0 ∧ ρ 13 = .int .i64 ((0 : Nat) : Int) ∧ ρ 14 = .int .i64 ((i : Nat) : Int) ∧ St H w (L) ∧ mm = 0) _ ⟨0, rfl, rfl, rfl, rfl, hs, rfl⟩ ?_
  rintro ρ w mm ⟨i, hρ2, hρ3, hρ4, hρ5, hs6, rfl⟩
  refine c_seq ?_
  refine c_region ?_
  refine st (v := .bool (decide ((((i : Nat) : Int) : Int) < ((0 : Nat) : Int)))) (x_lss (k := .i64) (a := ((i : Nat) : Int)) (b := ((0 : Nat) : Int)) (.tmp rfl hρ5) (.tmp rfl hρ4)) ?_
  refine c_nil ?_
  refine n_then ?_
  refine c_seq ?_
  have hc7 : (decide ((((i : Nat) : Int) : Int) < ((0 : Nat) : Int))) = false := decide_eq_false (by omega)
  refine c_cond_f (t := false) (.tmp rfl (congrArg Value.bool hc7)) rfl ?_
  refine c_exit ?_
  refine x_then ?_
  refine x_then ?_
  refine x_here ?_
  refine n_then ?_
  refine c_seq ?_
  refine c_seq ?_
  refine c_region ?_
  refine st (v := .slice none 0 0) (x_move (.tmp rfl hρ2)) ?_
  refine st (v := .int .i64 ((0 : Nat) : Int)) (x_len (n := 0) Tryd.underlying58 (.tmp rfl rfl)) ?_
  refine st (v := .int .i64 0) (x_move .const) ?_
  refine c_nil ?_
  refine n_then ?_
  refine c_block ?_
  refine c_loop (fun ρ w mm => ∃ (i : Nat), ρ 3 = .slice none 0 0 ∧ ρ 31 = .slice none 0 0 ∧ ρ 32 = .int .i64 ((0 : Nat) : Int) ∧ ρ 33 = .int .i64 ((i : Nat) : Int) ∧ St H w (L) ∧ mm = 0) _ ⟨0, hρ2, rfl, rfl, rfl, hs6, rfl⟩ ?_
  rintro ρ w mm ⟨i, hρ9, hρ10, hρ11, hρ12, hs13, rfl⟩
  refine c_seq ?_
  refine c_region ?_
  refine st (v := .bool (decide ((((i : Nat) : Int) : Int) < ((0 : Nat) : Int)))) (x_lss (k := .i64) (a := ((i : Nat) : Int)) (b := ((0 : Nat) : Int)) (.tmp rfl hρ12) (.tmp rfl hρ11)) ?_
  refine c_nil ?_
  refine n_then ?_
  refine c_seq ?_
  refine c_cond_f (t := false) (.tmp rfl (congrArg Value.bool hc7)) rfl ?_
  refine c_exit ?_
  refine x_then ?_
  refine x_then ?_
  refine x_here ?_
  refine n_then ?_
  refine c_seq ?_
  refine c_region ?_
  refine st (v := .bool true) (x_assign .const) ?_
  refine c_nil ?_
  refine n_then ?_
  refine c_ret ?_
  refine leave_ret (res_one (v := .bool true) rfl (.mk rfl rfl)) ?_
  exact ⟨rfl, hs13⟩

end Go.Proofs.YtnikcgcbkdeeeaaDoor
