/- Steps of the proofs over the functions of this seat, printed by a program (gen.py) and checked by Lean. -/
import Derived.Test.YtdllflllhjaimaaDoorTy
import Derived.Test.YtdllflllhjaimaaDoorFmM4b
import Derived.Test.YtdllflllhjaimaaDoorT2dawake
set_option linter.unusedVariables false
set_option linter.unusedSimpArgs false
namespace Go.Proofs.YtdllflllhjaimaaDoor
open Go Go.FM Go.Proofs
attribute [local irreducible] wpList wpQuiet Code.wp Calls
set_option maxHeartbeats 8000000 in
theorem meet_spec {H : Hp} {w : World} {L : List Res} (hs : St H w L) (htab : Tab H) (a b n : Nat) (b_a : a < 65536) (b_b : b < 65536) (b_n : n < 256) : Calls Tryd.prog 3 #[.int .u16 ((a : Nat) : Int), .int .u16 ((b : Nat) : Int), .int .u8 ((n : Nat) : Int)] w (fun e w' => e = .returned (.bool true) ∧ St H w' L) := by
  refine enter (args := [.int .u16 ((a : Nat) : Int), .int .u16 ((b : Nat) : Int), .int .u8 ((n : Nat) : Int)]) (N := 41) Tryd.func3 rfl rfl rfl ?_
  refine c_seq ?_
  refine c_region ?_
  refine st (v := .bool false) (x_assign .const) ?_
  refine c_nil ?_
  refine n_then ?_
  refine c_seq ?_
  refine c_region ?_
  refine st (v := .int .u8 ((n : Nat) : Int)) (x_move (.tmp rfl rfl)) ?_
  refine st (v := .int .i64 ((n : Nat) : Int)) (x_conv (k := .u8) (a := ((n : Nat) : Int)) Tryd.underlying5 Tryd.underlying3 (.tmp rfl rfl) (w64 (by omega) (by omega))) ?_
  refine st (v := .int .i64 (((n % 16) : Nat) : Int)) (x_remN (k := .i64) (m := n) (n := 16) (.tmp rfl rfl) .const (by omega)) ?_
  refine st (v := .int .i64 (((1 + n % 16) : Nat) : Int)) (x_add (k := .i64) (a := 1) (b := (((n % 16) : Nat) : Int)) .const (.tmp rfl rfl) (w64 (by omega) (by omega))) ?_
  refine st (v := .int .i64 (((1 + n % 16) : Nat) : Int)) (x_assign (.tmp rfl rfl)) ?_
  refine c_nil ?_
  refine n_then ?_
  refine c_seq ?_
  refine c_region ?_
  refine st (v := .int .i64 (((1 + n % 16) : Nat) : Int)) (x_move (.tmp rfl rfl)) ?_
  refine st (v := .int .u16 (((1 * 2 ^ (1 + n % 16) % 65536) : Nat) : Int)) (x_shl (k := .u16) (m := 1) (b := (((1 + n % 16) : Nat) : Int)) rfl .const (.tmp rfl rfl) (by omega)) ?_
  have hal := all_sub (k := (1 + n % 16)) (by omega) (by omega)
  refine st (v := .int .u16 (((2 ^ (1 + n % 16) - 1) : Nat) : Int)) (x_sub (k := .u16) (a := (((1 * 2 ^ (1 + n % 16) % 65536) : Nat) : Int)) (b := 1) (.tmp rfl rfl) .const ((wrapU _ rfl _).trans (by rw [show (2 ^ IntKind.u16.bits : Int) = 65536 from rfl, hal.1]; rfl))) ?_
  refine st (v := .int .u16 (((2 ^ (1 + n % 16) - 1) : Nat) : Int)) (x_assign (.tmp rfl rfl)) ?_
  refine c_nil ?_
  refine n_then ?_
  refine c_seq ?_
  refine c_seq ?_
  refine c_region ?_
  refine st (v := .int .u16 ((a : Nat) : Int)) (x_move (.tmp rfl rfl)) ?_
  refine st (v := .int .u16 (((2 ^ (1 + n % 16) - 1) : Nat) : Int)) (x_move (.tmp rfl rfl)) ?_
  have hb1 : (a &&& (2 ^ (1 + n % 16) - 1)) < 65536 := Nat.lt_of_le_of_lt Nat.and_le_left b_a
  refine st (v := .int .u16 (((a &&& (2 ^ (1 + n % 16) - 1)) : Nat) : Int)) (x_and (k := .u16) (m := a) (n := (2 ^ (1 + n % 16) - 1)) rfl (.tmp rfl rfl) (.tmp rfl rfl) (show _ < 2 ^ 16 from b_a) (show _ < 2 ^ 16 from hal.2)) ?_
  refine st (v := .int .i64 (((1 + n % 16) : Nat) : Int)) (x_move (.tmp rfl rfl)) ?_
  refine st_c cb8 .func (evs2 (.tmp rfl rfl) (.tmp rfl rfl)) (most_spec hs (a &&& (2 ^ (1 + n % 16) - 1)) (((1 + n % 16) : Nat) : Int) hb1 (by omega)) ?_
  rintro e w2 ⟨rfl, hs3⟩
  refine ⟨_, rfl, ?_⟩
  refine st (v := .bool (!(most (a &&& (2 ^ (1 + n % 16) - 1)) (((1 + n % 16) : Nat) : Int)))) (x_not (.tmp rfl rfl)) ?_
  refine st (v := .bool (!(most (a &&& (2 ^ (1 + n % 16) - 1)) (((1 + n % 16) : Nat) : Int)))) (x_move (.tmp rfl rfl)) ?_
  rcases Bool.eq_false_or_eq_true (most (a &&& (2 ^ (1 + n % 16) - 1)) (((1 + n % 16) : Nat) : Int)) with hc4 | hc4
  · refine g_yes (yl (dj := 22) (b := false) rfl rfl (congrArg Value.bool (by rw [hc4]; rfl))) ?_
    refine st (v := .int .u16 ((b : Nat) : Int)) (x_move (.tmp rfl rfl)) ?_
    refine g_yes (yl (dj := 22) (b := false) rfl rfl (congrArg Value.bool (by rw [hc4]; rfl))) ?_
    refine st (v := .int .u16 (((2 ^ (1 + n % 16) - 1) : Nat) : Int)) (x_move (.tmp rfl rfl)) ?_
    refine g_yes (yl (dj := 22) (b := false) rfl rfl (congrArg Value.bool (by rw [hc4]; rfl))) ?_
    have hb5 : (b &&& (2 ^ (1 + n % 16) - 1)) < 65536 := Nat.lt_of_le_of_lt Nat.and_le_left b_b
    refine st (v := .int .u16 (((b &&& (2 ^ (1 + n % 16) - 1)) : Nat) : Int)) (x_and (k := .u16) (m := b) (n := (2 ^ (1 + n % 16) - 1)) rfl (.tmp rfl rfl) (.tmp rfl rfl) (show _ < 2 ^ 16 from b_b) (show _ < 2 ^ 16 from hal.2)) ?_
    refine g_yes (yl (dj := 22) (b := false) rfl rfl (congrArg Value.bool (by rw [hc4]; rfl))) ?_
    refine st (v := .int .i64 (((1 + n % 16) : Nat) : Int)) (x_move (.tmp rfl rfl)) ?_
    refine g_yes (yl (dj := 22) (b := false) rfl rfl (congrArg Value.bool (by rw [hc4]; rfl))) ?_
    refine st_c cb8 .func (evs2 (.tmp rfl rfl) (.tmp rfl rfl)) (most_spec hs3 (b &&& (2 ^ (1 + n % 16) - 1)) (((1 + n % 16) : Nat) : Int) hb5 (by omega)) ?_
    rintro e w6 ⟨rfl, hs7⟩
    refine ⟨_, rfl, ?_⟩
    refine g_yes (yl (dj := 22) (b := false) rfl rfl (congrArg Value.bool (by rw [hc4]; rfl))) ?_
    refine st (v := .bool (!(most (b &&& (2 ^ (1 + n % 16) - 1)) (((1 + n % 16) : Nat) : Int)))) (x_not (.tmp rfl rfl)) ?_
    refine st (v := .bool (!(most (b &&& (2 ^ (1 + n % 16) - 1)) (((1 + n % 16) : Nat) : Int)))) (x_pick_f (.tmp rfl (congrArg Value.bool (by rw [hc4]; rfl))) (.tmp rfl rfl)) ?_
    refine c_nil ?_
    refine n_then ?_
    rcases Bool.eq_false_or_eq_true (most (b &&& (2 ^ (1 + n % 16) - 1)) (((1 + n % 16) : Nat) : Int)) with hc8 | hc8
    · refine c_cond_f (t := false) (.tmp rfl (congrArg Value.bool (by rw [hc8]; rfl))) rfl ?_
      refine c_skip ?_
      refine n_then ?_
      refine c_seq ?_
      refine c_region ?_
      refine st_c cb9 .func (evs0 ) (awake_spec hs7 htab) ?_
      rintro e w9 ⟨rfl, hs10⟩
      refine ⟨_, rfl, ?_⟩
      refine st (v := .bool true) (x_move (.tmp rfl rfl)) ?_
      refine g_yes (yl (dj := 32) (b := true) rfl rfl rfl) ?_
      refine st (v := .int .u16 ((a : Nat) : Int)) (x_move (.tmp rfl rfl)) ?_
      refine g_yes (yl (dj := 32) (b := true) rfl rfl rfl) ?_
      refine st (v := .int .u16 ((b : Nat) : Int)) (x_move (.tmp rfl rfl)) ?_
      refine g_yes (yl (dj := 32) (b := true) rfl rfl rfl) ?_
      have hb11 : (a &&& b) < 65536 := Nat.lt_of_le_of_lt Nat.and_le_left b_a
      refine st (v := .int .u16 (((a &&& b) : Nat) : Int)) (x_and (k := .u16) (m := a) (n := b) rfl (.tmp rfl rfl) (.tmp rfl rfl) (show _ < 2 ^ 16 from b_a) (show _ < 2 ^ 16 from b_b)) ?_
      refine g_yes (yl (dj := 32) (b := true) rfl rfl rfl) ?_
      refine st (v := .int .u16 (((2 ^ (1 + n % 16) - 1) : Nat) : Int)) (x_move (.tmp rfl rfl)) ?_
      refine g_yes (yl (dj := 32) (b := true) rfl rfl rfl) ?_
      have hb12 : ((a &&& b) &&& (2 ^ (1 + n % 16) - 1)) < 65536 := Nat.lt_of_le_of_lt Nat.and_le_left hb11
      refine st (v := .int .u16 ((((a &&& b) &&& (2 ^ (1 + n % 16) - 1)) : Nat) : Int)) (x_and (k := .u16) (m := (a &&& b)) (n := (2 ^ (1 + n % 16) - 1)) rfl (.tmp rfl rfl) (.tmp rfl rfl) (show _ < 2 ^ 16 from hb11) (show _ < 2 ^ 16 from hal.2)) ?_
      refine g_yes (yl (dj := 32) (b := true) rfl rfl rfl) ?_
      refine st_c cb10 .func (evs1 (.tmp rfl rfl)) (count_spec hs10 ((a &&& b) &&& (2 ^ (1 + n % 16) - 1)) hb12) ?_
      rintro e w13 ⟨rfl, hs14⟩
      refine ⟨_, rfl, ?_⟩
      refine g_yes (yl (dj := 32) (b := true) rfl rfl rfl) ?_
      refine st (v := .bool (decide ((0 : Int) < ((cnt ((a &&& b) &&& (2 ^ (1 + n % 16) - 1)) : Nat) : Int)))) (x_gtr (k := .i64) (a := ((cnt ((a &&& b) &&& (2 ^ (1 + n % 16) - 1)) : Nat) : Int)) (b := 0) (.tmp rfl rfl) .const) ?_
      refine st (v := .bool (decide ((0 : Int) < ((cnt ((a &&& b) &&& (2 ^ (1 + n % 16) - 1)) : Nat) : Int)))) (x_pick_t (.tmp rfl rfl) (.tmp rfl rfl)) ?_
      refine st (v := .bool (decide ((0 : Int) < ((cnt ((a &&& b) &&& (2 ^ (1 + n % 16) - 1)) : Nat) : Int)))) (x_assign (.tmp rfl rfl)) ?_
      refine c_nil ?_
      refine n_then ?_
      refine c_ret ?_
      refine leave_ret (res_one (v := .bool (decide ((0 : Int) < ((cnt ((a &&& b) &&& (2 ^ (1 + n % 16) - 1)) : Nat) : Int)))) rfl (.mk rfl rfl)) ?_
      exact ⟨ret_true (b := (decide ((0 : Int) < ((cnt ((a &&& b) &&& (2 ^ (1 + n % 16) - 1)) : Nat) : Int)))) (decide_eq_true (by have := meet (k := (1 + n % 16)) (a := a) (b := b) hc4 hc8; omega)), hs14⟩
    · refine c_cond_t (t := true) (.tmp rfl (congrArg Value.bool (by rw [hc8]; rfl))) rfl ?_
      refine c_seq ?_
      refine c_region ?_
      refine st_c cb9 .func (evs0 ) (awake_spec hs7 htab) ?_
      rintro e w15 ⟨rfl, hs16⟩
      refine ⟨_, rfl, ?_⟩
      refine st (v := .bool true) (x_assign (.tmp rfl rfl)) ?_
      refine c_nil ?_
      refine n_then ?_
      refine c_ret ?_
      refine r_then ?_
      refine leave_ret (res_one (v := .bool true) rfl (.mk rfl rfl)) ?_
      exact ⟨rfl, hs16⟩
  · refine g_no (yl (dj := 22) (b := true) rfl rfl (congrArg Value.bool (by rw [hc4]; rfl))) rfl ?_
    refine g_no (yl (dj := 22) (b := true) rfl rfl (congrArg Value.bool (by rw [hc4]; rfl))) rfl ?_
    refine g_no (yl (dj := 22) (b := true) rfl rfl (congrArg Value.bool (by rw [hc4]; rfl))) rfl ?_
    refine g_no (yl (dj := 22) (b := true) rfl rfl (congrArg Value.bool (by rw [hc4]; rfl))) rfl ?_
    refine g_no (yl (dj := 22) (b := true) rfl rfl (congrArg Value.bool (by rw [hc4]; rfl))) rfl ?_
    refine g_no (yl (dj := 22) (b := true) rfl rfl (congrArg Value.bool (by rw [hc4]; rfl))) rfl ?_
    refine st (v := .bool true) (x_pick_t (.tmp rfl (congrArg Value.bool (by rw [hc4]; rfl))) .const) ?_
    refine c_nil ?_
    refine n_then ?_
    refine c_cond_t (t := true) (.tmp rfl rfl) rfl ?_
    refine c_seq ?_
    refine c_region ?_
    refine st_c cb9 .func (evs0 ) (awake_spec hs3 htab) ?_
    rintro e w17 ⟨rfl, hs18⟩
    refine ⟨_, rfl, ?_⟩
    refine st (v := .bool true) (x_assign (.tmp rfl rfl)) ?_
    refine c_nil ?_
    refine n_then ?_
    refine c_ret ?_
    refine r_then ?_
    refine leave_ret (res_one (v := .bool true) rfl (.mk rfl rfl)) ?_
    exact ⟨rfl, hs18⟩

end Go.Proofs.YtdllflllhjaimaaDoor
