/- Steps of the proofs over the functions of this seat, printed by a program (gen.py) and checked by Lean. -/
import Derived.Test.YtdllflllhjaimaaDoorTy
import Derived.Test.YtdllflllhjaimaaDoorFmM4b
import Derived.Test.YtdllflllhjaimaaDoorT2dawake
set_option linter.unusedVariables false
set_option linter.unusedSimpArgs false
namespace Go.Proofs.YtdllflllhjaimaaDoor
open Go Go.FM Go.Proofs
attribute [local irreducible] wpList wpQuiet Code.wp Calls
set_option maxHeartbeats 8000000 in
theorem halves_spec {H : Hp} {w : World} {L : List Res} (hs : St H w L) (htab : Tab H) (s n : Nat) (b_s : s < 65536) (b_n : n < 256) : Calls Tryd.prog 4 #[.int .u16 ((s : Nat) : Int), .int .u8 ((n : Nat) : Int)] w (fun e w' => e = .returned (.bool true) ∧ St H w' L) := by
  refine enter (args := [.int .u16 ((s : Nat) : Int), .int .u8 ((n : Nat) : Int)]) (N := 57) Tryd.func4 rfl rfl rfl ?_
  refine c_seq ?_
  refine c_region ?_
  refine st (v := .bool false) (x_assign .const) ?_
  refine c_nil ?_
  refine n_then ?_
  refine c_seq ?_
  refine c_seq ?_
  refine c_region ?_
  refine st_c cb9 .func (evs0 ) (awake_spec hs htab) ?_
  rintro e w1 ⟨rfl, hs2⟩
  refine ⟨_, rfl, ?_⟩
  refine st (v := .bool false) (x_not (b := true) (.tmp rfl rfl)) ?_
  refine c_nil ?_
  refine n_then ?_
  refine c_cond_f (t := false) (.tmp rfl rfl) rfl ?_
  refine c_skip ?_
  refine n_then ?_
  refine c_seq ?_
  refine c_region ?_
  refine st (v := .int .u8 ((n : Nat) : Int)) (x_move (.tmp rfl rfl)) ?_
  refine st (v := .int .i64 ((n : Nat) : Int)) (x_conv (k := .u8) (a := ((n : Nat) : Int)) Tryd.underlying5 Tryd.underlying3 (.tmp rfl rfl) (w64 (by omega) (by omega))) ?_
  refine st (v := .int .i64 (((n % 16) : Nat) : Int)) (x_remN (k := .i64) (m := n) (n := 16) (.tmp rfl rfl) .const (by omega)) ?_
  refine st (v := .int .i64 (((1 + n % 16) : Nat) : Int)) (x_add (k := .i64) (a := 1) (b := (((n % 16) : Nat) : Int)) .const (.tmp rfl rfl) (w64 (by omega) (by omega))) ?_
  refine st (v := .int .i64 (((1 + n % 16) : Nat) : Int)) (x_assign (.tmp rfl rfl)) ?_
  refine c_nil ?_
  refine n_then ?_
  refine c_seq ?_
  refine c_region ?_
  refine st (v := .int .i64 (((1 + n % 16) : Nat) : Int)) (x_move (.tmp rfl rfl)) ?_
  refine st (v := .int .u16 (((1 * 2 ^ (1 + n % 16) % 65536) : Nat) : Int)) (x_shl (k := .u16) (m := 1) (b := (((1 + n % 16) : Nat) : Int)) rfl .const (.tmp rfl rfl) (by omega)) ?_
  have hal := all_sub (k := (1 + n % 16)) (by omega) (by omega)
  refine st (v := .int .u16 (((2 ^ (1 + n % 16) - 1) : Nat) : Int)) (x_sub (k := .u16) (a := (((1 * 2 ^ (1 + n % 16) % 65536) : Nat) : Int)) (b := 1) (.tmp rfl rfl) .const ((wrapU _ rfl _).trans (by rw [show (2 ^ IntKind.u16.bits : Int) = 65536 from rfl, hal.1]; rfl))) ?_
  refine st (v := .int .u16 (((2 ^ (1 + n % 16) - 1) : Nat) : Int)) (x_assign (.tmp rfl rfl)) ?_
  refine c_nil ?_
  refine n_then ?_
  refine c_seq ?_
  refine c_region ?_
  refine st (v := .int .u16 ((s : Nat) : Int)) (x_move (.tmp rfl rfl)) ?_
  refine st (v := .int .u16 (((2 ^ (1 + n % 16) - 1) : Nat) : Int)) (x_move (.tmp rfl rfl)) ?_
  have hb3 : (s &&& (2 ^ (1 + n % 16) - 1)) < 65536 := Nat.lt_of_le_of_lt Nat.and_le_left b_s
  refine st (v := .int .u16 (((s &&& (2 ^ (1 + n % 16) - 1)) : Nat) : Int)) (x_and (k := .u16) (m := s) (n := (2 ^ (1 + n % 16) - 1)) rfl (.tmp rfl rfl) (.tmp rfl rfl) (show _ < 2 ^ 16 from b_s) (show _ < 2 ^ 16 from hal.2)) ?_
  refine st (v := .int .i64 (((1 + n % 16) : Nat) : Int)) (x_move (.tmp rfl rfl)) ?_
  refine st_c cb8 .func (evs2 (.tmp rfl rfl) (.tmp rfl rfl)) (most_spec hs2 (s &&& (2 ^ (1 + n % 16) - 1)) (((1 + n % 16) : Nat) : Int) hb3 (by omega)) ?_
  rintro e w4 ⟨rfl, hs5⟩
  refine ⟨_, rfl, ?_⟩
  refine st (v := .bool (most (s &&& (2 ^ (1 + n % 16) - 1)) (((1 + n % 16) : Nat) : Int))) (x_assign (.tmp rfl rfl)) ?_
  refine c_nil ?_
  refine n_then ?_
  refine c_seq ?_
  refine c_region ?_
  refine st (v := .int .u16 (((2 ^ (1 + n % 16) - 1) : Nat) : Int)) (x_move (.tmp rfl rfl)) ?_
  refine st (v := .int .u16 ((s : Nat) : Int)) (x_move (.tmp rfl rfl)) ?_
  have hb6 : ((2 ^ (1 + n % 16) - 1) &&& (65535 - s)) < 65536 := Nat.lt_of_le_of_lt Nat.and_le_left hal.2
  refine st (v := .int .u16 ((((2 ^ (1 + n % 16) - 1) &&& (65535 - s)) : Nat) : Int)) (x_andNot (k := .u16) (m := (2 ^ (1 + n % 16) - 1)) (n := s) rfl (.tmp rfl rfl) (.tmp rfl rfl) (show _ < 2 ^ 16 from hal.2) (show _ < 2 ^ 16 from b_s)) ?_
  refine st (v := .int .i64 (((1 + n % 16) : Nat) : Int)) (x_move (.tmp rfl rfl)) ?_
  refine st_c cb8 .func (evs2 (.tmp rfl rfl) (.tmp rfl rfl)) (most_spec hs5 ((2 ^ (1 + n % 16) - 1) &&& (65535 - s)) (((1 + n % 16) : Nat) : Int) hb6 (by omega)) ?_
  rintro e w7 ⟨rfl, hs8⟩
  refine ⟨_, rfl, ?_⟩
  refine st (v := .bool (most ((2 ^ (1 + n % 16) - 1) &&& (65535 - s)) (((1 + n % 16) : Nat) : Int))) (x_assign (.tmp rfl rfl)) ?_
  refine c_nil ?_
  refine n_then ?_
  refine c_seq ?_
  refine c_region ?_
  refine st (v := .bool (most (s &&& (2 ^ (1 + n % 16) - 1)) (((1 + n % 16) : Nat) : Int))) (x_move (.tmp rfl rfl)) ?_
  refine st (v := .bool (most (s &&& (2 ^ (1 + n % 16) - 1)) (((1 + n % 16) : Nat) : Int))) (x_move (.tmp rfl rfl)) ?_
  rcases Bool.eq_false_or_eq_true (most (s &&& (2 ^ (1 + n % 16) - 1)) (((1 + n % 16) : Nat) : Int)) with hc9 | hc9
  · refine g_yes (yl (dj := 29) (b := true) rfl rfl (congrArg Value.bool hc9)) ?_
    refine st (v := .bool (most ((2 ^ (1 + n % 16) - 1) &&& (65535 - s)) (((1 + n % 16) : Nat) : Int))) (x_move (.tmp rfl rfl)) ?_
    refine st (v := .bool (most ((2 ^ (1 + n % 16) - 1) &&& (65535 - s)) (((1 + n % 16) : Nat) : Int))) (x_pick_t (.tmp rfl (congrArg Value.bool hc9)) (.tmp rfl rfl)) ?_
    refine st (v := .bool (!(most ((2 ^ (1 + n % 16) - 1) &&& (65535 - s)) (((1 + n % 16) : Nat) : Int)))) (x_not (.tmp rfl rfl)) ?_
    refine st (v := .bool (!(most ((2 ^ (1 + n % 16) - 1) &&& (65535 - s)) (((1 + n % 16) : Nat) : Int)))) (x_move (.tmp rfl rfl)) ?_
    rcases Bool.eq_false_or_eq_true (most ((2 ^ (1 + n % 16) - 1) &&& (65535 - s)) (((1 + n % 16) : Nat) : Int)) with hc10 | hc10
    · refine g_no (yl (dj := 33) (b := false) rfl rfl (congrArg Value.bool (by rw [hc10]; rfl))) rfl ?_
      refine g_no (yl (dj := 33) (b := false) rfl rfl (congrArg Value.bool (by rw [hc10]; rfl))) rfl ?_
      refine g_no0 (yn (dj := 35) rfl rfl) ?_
      refine g_no (yl (dj := 33) (b := false) rfl rfl (congrArg Value.bool (by rw [hc10]; rfl))) rfl ?_
      refine g_no (yl (dj := 33) (b := false) rfl rfl (congrArg Value.bool (by rw [hc10]; rfl))) rfl ?_
      refine g_no0 (yn (dj := 38) rfl rfl) ?_
      refine g_no0 (yn (dj := 38) rfl rfl) ?_
      refine g_no0 (yn (dj := 38) rfl rfl) ?_
      refine g_no (yl (dj := 33) (b := false) rfl rfl (congrArg Value.bool (by rw [hc10]; rfl))) rfl ?_
      refine st (v := .bool false) (x_pick_f (.tmp rfl (congrArg Value.bool (by rw [hc10]; rfl))) .const) ?_
      refine st (v := .bool false) (x_move (.tmp rfl rfl)) ?_
      refine g_no (yl (dj := 44) (b := false) rfl rfl rfl) rfl ?_
      refine g_no (yl (dj := 44) (b := false) rfl rfl rfl) rfl ?_
      refine g_no (yl (dj := 44) (b := false) rfl rfl rfl) rfl ?_
      refine g_no (yl (dj := 44) (b := false) rfl rfl rfl) rfl ?_
      refine g_no (yl (dj := 44) (b := false) rfl rfl rfl) rfl ?_
      refine g_no (yl (dj := 44) (b := false) rfl rfl rfl) rfl ?_
      refine g_no (yl (dj := 44) (b := false) rfl rfl rfl) rfl ?_
      refine g_no (yl (dj := 44) (b := false) rfl rfl rfl) rfl ?_
      refine g_no (yl (dj := 44) (b := false) rfl rfl rfl) rfl ?_
      refine g_no (yl (dj := 44) (b := false) rfl rfl rfl) rfl ?_
      refine g_no (yl (dj := 44) (b := false) rfl rfl rfl) rfl ?_
      refine st (v := .bool false) (x_pick_f (.tmp rfl rfl) .const) ?_
      refine st (v := .bool false) (x_assign (.tmp rfl rfl)) ?_
      refine c_nil ?_
      refine n_then ?_
      refine c_ret ?_
      refine leave_ret (res_one (v := .bool false) rfl (.mk rfl rfl)) ?_
      have hh := halves16 (k := (1 + n % 16)) (s := s) (by omega) b_s
      have ha := of_decide_eq_true hc9
      have hb := of_decide_eq_true hc10
      exfalso
      omega
    · refine g_yes (yl (dj := 33) (b := true) rfl rfl (congrArg Value.bool (by rw [hc10]; rfl))) ?_
      refine st (v := .bool true) (x_move (.tmp rfl (congrArg Value.bool hc9))) ?_
      refine g_yes (yl (dj := 33) (b := true) rfl rfl (congrArg Value.bool (by rw [hc10]; rfl))) ?_
      refine st (v := .bool true) (x_move (.tmp rfl rfl)) ?_
      refine g_no (yl (dj := 35) (b := true) rfl rfl rfl) rfl ?_
      refine g_yes (yl (dj := 33) (b := true) rfl rfl (congrArg Value.bool (by rw [hc10]; rfl))) ?_
      refine st (v := .bool true) (x_pick_t (.tmp rfl rfl) .const) ?_
      refine g_yes (yl (dj := 33) (b := true) rfl rfl (congrArg Value.bool (by rw [hc10]; rfl))) ?_
      refine st (v := .bool true) (x_move (.tmp rfl rfl)) ?_
      refine g_no (yl (dj := 38) (b := true) rfl rfl rfl) rfl ?_
      refine g_no (yl (dj := 38) (b := true) rfl rfl rfl) rfl ?_
      refine g_no (yl (dj := 38) (b := true) rfl rfl rfl) rfl ?_
      refine g_yes (yl (dj := 33) (b := true) rfl rfl (congrArg Value.bool (by rw [hc10]; rfl))) ?_
      refine st (v := .bool true) (x_pick_t (.tmp rfl rfl) .const) ?_
      refine st (v := .bool true) (x_pick_t (.tmp rfl (congrArg Value.bool (by rw [hc10]; rfl))) (.tmp rfl rfl)) ?_
      refine st (v := .bool true) (x_move (.tmp rfl rfl)) ?_
      refine g_yes (yl (dj := 44) (b := true) rfl rfl rfl) ?_
      refine st (v := .int .u16 ((s : Nat) : Int)) (x_move (.tmp rfl rfl)) ?_
      refine g_yes (yl (dj := 44) (b := true) rfl rfl rfl) ?_
      refine st (v := .int .u16 (((2 ^ (1 + n % 16) - 1) : Nat) : Int)) (x_move (.tmp rfl rfl)) ?_
      refine g_yes (yl (dj := 44) (b := true) rfl rfl rfl) ?_
      have hb11 : (s &&& (2 ^ (1 + n % 16) - 1)) < 65536 := Nat.lt_of_le_of_lt Nat.and_le_left b_s
      refine st (v := .int .u16 (((s &&& (2 ^ (1 + n % 16) - 1)) : Nat) : Int)) (x_and (k := .u16) (m := s) (n := (2 ^ (1 + n % 16) - 1)) rfl (.tmp rfl rfl) (.tmp rfl rfl) (show _ < 2 ^ 16 from b_s) (show _ < 2 ^ 16 from hal.2)) ?_
      refine g_yes (yl (dj := 44) (b := true) rfl rfl rfl) ?_
      refine st_c cb10 .func (evs1 (.tmp rfl rfl)) (count_spec hs8 (s &&& (2 ^ (1 + n % 16) - 1)) hb11) ?_
      rintro e w12 ⟨rfl, hs13⟩
      refine ⟨_, rfl, ?_⟩
      refine g_yes (yl (dj := 44) (b := true) rfl rfl rfl) ?_
      refine st (v := .int .u16 (((2 ^ (1 + n % 16) - 1) : Nat) : Int)) (x_move (.tmp rfl rfl)) ?_
      refine g_yes (yl (dj := 44) (b := true) rfl rfl rfl) ?_
      refine st (v := .int .u16 ((s : Nat) : Int)) (x_move (.tmp rfl rfl)) ?_
      refine g_yes (yl (dj := 44) (b := true) rfl rfl rfl) ?_
      have hb14 : ((2 ^ (1 + n % 16) - 1) &&& (65535 - s)) < 65536 := Nat.lt_of_le_of_lt Nat.and_le_left hal.2
      refine st (v := .int .u16 ((((2 ^ (1 + n % 16) - 1) &&& (65535 - s)) : Nat) : Int)) (x_andNot (k := .u16) (m := (2 ^ (1 + n % 16) - 1)) (n := s) rfl (.tmp rfl rfl) (.tmp rfl rfl) (show _ < 2 ^ 16 from hal.2) (show _ < 2 ^ 16 from b_s)) ?_
      refine g_yes (yl (dj := 44) (b := true) rfl rfl rfl) ?_
      refine st_c cb10 .func (evs1 (.tmp rfl rfl)) (count_spec hs13 ((2 ^ (1 + n % 16) - 1) &&& (65535 - s)) hb14) ?_
      rintro e w15 ⟨rfl, hs16⟩
      refine ⟨_, rfl, ?_⟩
      refine g_yes (yl (dj := 44) (b := true) rfl rfl rfl) ?_
      have hp1 : cnt (s &&& (2 ^ (1 + n % 16) - 1)) ≤ 16 := pc_le 16 _
      have hp2 : cnt ((2 ^ (1 + n % 16) - 1) &&& (65535 - s)) ≤ 16 := pc_le 16 _
      refine st (v := .int .i64 (((cnt (s &&& (2 ^ (1 + n % 16) - 1)) : Nat) : Int) + ((cnt ((2 ^ (1 + n % 16) - 1) &&& (65535 - s)) : Nat) : Int))) (x_add (k := .i64) (a := ((cnt (s &&& (2 ^ (1 + n % 16) - 1)) : Nat) : Int)) (b := ((cnt ((2 ^ (1 + n % 16) - 1) &&& (65535 - s)) : Nat) : Int)) (.tmp rfl rfl) (.tmp rfl rfl) (w64 (by omega) (by omega))) ?_
      refine g_yes (yl (dj := 44) (b := true) rfl rfl rfl) ?_
      refine st (v := .int .i64 (((1 + n % 16) : Nat) : Int)) (x_move (.tmp rfl rfl)) ?_
      refine g_yes (yl (dj := 44) (b := true) rfl rfl rfl) ?_
      refine st (v := .bool (decide (((((cnt (s &&& (2 ^ (1 + n % 16) - 1)) : Nat) : Int) + ((cnt ((2 ^ (1 + n % 16) - 1) &&& (65535 - s)) : Nat) : Int)) : Int) = (((1 + n % 16) : Nat) : Int)))) (x_eql (k := .i64) (a := (((cnt (s &&& (2 ^ (1 + n % 16) - 1)) : Nat) : Int) + ((cnt ((2 ^ (1 + n % 16) - 1) &&& (65535 - s)) : Nat) : Int))) (b := (((1 + n % 16) : Nat) : Int)) (.tmp rfl rfl) (.tmp rfl rfl)) ?_
      refine st (v := .bool (decide (((((cnt (s &&& (2 ^ (1 + n % 16) - 1)) : Nat) : Int) + ((cnt ((2 ^ (1 + n % 16) - 1) &&& (65535 - s)) : Nat) : Int)) : Int) = (((1 + n % 16) : Nat) : Int)))) (x_pick_t (.tmp rfl rfl) (.tmp rfl rfl)) ?_
      refine st (v := .bool (decide (((((cnt (s &&& (2 ^ (1 + n % 16) - 1)) : Nat) : Int) + ((cnt ((2 ^ (1 + n % 16) - 1) &&& (65535 - s)) : Nat) : Int)) : Int) = (((1 + n % 16) : Nat) : Int)))) (x_assign (.tmp rfl rfl)) ?_
      refine c_nil ?_
      refine n_then ?_
      refine c_ret ?_
      refine leave_ret (res_one (v := .bool (decide (((((cnt (s &&& (2 ^ (1 + n % 16) - 1)) : Nat) : Int) + ((cnt ((2 ^ (1 + n % 16) - 1) &&& (65535 - s)) : Nat) : Int)) : Int) = (((1 + n % 16) : Nat) : Int)))) rfl (.mk rfl rfl)) ?_
      have hh := halves16 (k := (1 + n % 16)) (s := s) (by omega) b_s
      have ha := of_decide_eq_true hc9
      have hb := of_decide_eq_false hc10
      exact ⟨ret_true (b := (decide (((((cnt (s &&& (2 ^ (1 + n % 16) - 1)) : Nat) : Int) + ((cnt ((2 ^ (1 + n % 16) - 1) &&& (65535 - s)) : Nat) : Int)) : Int) = (((1 + n % 16) : Nat) : Int)))) (decide_eq_true (by omega)), hs16⟩
  · refine g_no (yl (dj := 29) (b := false) rfl rfl (congrArg Value.bool hc9)) rfl ?_
    refine st (v := .bool false) (x_pick_f (.tmp rfl (congrArg Value.bool hc9)) .const) ?_
    refine st (v := .bool true) (x_not (b := false) (.tmp rfl rfl)) ?_
    refine st (v := .bool true) (x_move (.tmp rfl rfl)) ?_
    refine g_yes (yl (dj := 33) (b := true) rfl rfl rfl) ?_
    refine st (v := .bool false) (x_move (.tmp rfl (congrArg Value.bool hc9))) ?_
    refine g_yes (yl (dj := 33) (b := true) rfl rfl rfl) ?_
    refine st (v := .bool false) (x_move (.tmp rfl rfl)) ?_
    refine g_yes (yl (dj := 35) (b := false) rfl rfl rfl) ?_
    refine st (v := .bool (most ((2 ^ (1 + n % 16) - 1) &&& (65535 - s)) (((1 + n % 16) : Nat) : Int))) (x_move (.tmp rfl rfl)) ?_
    refine g_yes (yl (dj := 33) (b := true) rfl rfl rfl) ?_
    refine st (v := .bool (most ((2 ^ (1 + n % 16) - 1) &&& (65535 - s)) (((1 + n % 16) : Nat) : Int))) (x_pick_f (.tmp rfl rfl) (.tmp rfl rfl)) ?_
    refine g_yes (yl (dj := 33) (b := true) rfl rfl rfl) ?_
    refine st (v := .bool (most ((2 ^ (1 + n % 16) - 1) &&& (65535 - s)) (((1 + n % 16) : Nat) : Int))) (x_move (.tmp rfl rfl)) ?_
    rcases Bool.eq_false_or_eq_true (most ((2 ^ (1 + n % 16) - 1) &&& (65535 - s)) (((1 + n % 16) : Nat) : Int)) with hc17 | hc17
    · refine g_no (yl (dj := 38) (b := true) rfl rfl (congrArg Value.bool hc17)) rfl ?_
      refine g_no (yl (dj := 38) (b := true) rfl rfl (congrArg Value.bool hc17)) rfl ?_
      refine g_no (yl (dj := 38) (b := true) rfl rfl (congrArg Value.bool hc17)) rfl ?_
      refine g_yes (yl (dj := 33) (b := true) rfl rfl rfl) ?_
      refine st (v := .bool true) (x_pick_t (.tmp rfl (congrArg Value.bool hc17)) .const) ?_
      refine st (v := .bool true) (x_pick_t (.tmp rfl rfl) (.tmp rfl rfl)) ?_
      refine st (v := .bool true) (x_move (.tmp rfl rfl)) ?_
      refine g_yes (yl (dj := 44) (b := true) rfl rfl rfl) ?_
      refine st (v := .int .u16 ((s : Nat) : Int)) (x_move (.tmp rfl rfl)) ?_
      refine g_yes (yl (dj := 44) (b := true) rfl rfl rfl) ?_
      refine st (v := .int .u16 (((2 ^ (1 + n % 16) - 1) : Nat) : Int)) (x_move (.tmp rfl rfl)) ?_
      refine g_yes (yl (dj := 44) (b := true) rfl rfl rfl) ?_
      have hb18 : (s &&& (2 ^ (1 + n % 16) - 1)) < 65536 := Nat.lt_of_le_of_lt Nat.and_le_left b_s
      refine st (v := .int .u16 (((s &&& (2 ^ (1 + n % 16) - 1)) : Nat) : Int)) (x_and (k := .u16) (m := s) (n := (2 ^ (1 + n % 16) - 1)) rfl (.tmp rfl rfl) (.tmp rfl rfl) (show _ < 2 ^ 16 from b_s) (show _ < 2 ^ 16 from hal.2)) ?_
      refine g_yes (yl (dj := 44) (b := true) rfl rfl rfl) ?_
      refine st_c cb10 .func (evs1 (.tmp rfl rfl)) (count_spec hs8 (s &&& (2 ^ (1 + n % 16) - 1)) hb18) ?_
      rintro e w19 ⟨rfl, hs20⟩
      refine ⟨_, rfl, ?_⟩
      refine g_yes (yl (dj := 44) (b := true) rfl rfl rfl) ?_
      refine st (v := .int .u16 (((2 ^ (1 + n % 16) - 1) : Nat) : Int)) (x_move (.tmp rfl rfl)) ?_
      refine g_yes (yl (dj := 44) (b := true) rfl rfl rfl) ?_
      refine st (v := .int .u16 ((s : Nat) : Int)) (x_move (.tmp rfl rfl)) ?_
      refine g_yes (yl (dj := 44) (b := true) rfl rfl rfl) ?_
      have hb21 : ((2 ^ (1 + n % 16) - 1) &&& (65535 - s)) < 65536 := Nat.lt_of_le_of_lt Nat.and_le_left hal.2
      refine st (v := .int .u16 ((((2 ^ (1 + n % 16) - 1) &&& (65535 - s)) : Nat) : Int)) (x_andNot (k := .u16) (m := (2 ^ (1 + n % 16) - 1)) (n := s) rfl (.tmp rfl rfl) (.tmp rfl rfl) (show _ < 2 ^ 16 from hal.2) (show _ < 2 ^ 16 from b_s)) ?_
      refine g_yes (yl (dj := 44) (b := true) rfl rfl rfl) ?_
      refine st_c cb10 .func (evs1 (.tmp rfl rfl)) (count_spec hs20 ((2 ^ (1 + n % 16) - 1) &&& (65535 - s)) hb21) ?_
      rintro e w22 ⟨rfl, hs23⟩
      refine ⟨_, rfl, ?_⟩
      refine g_yes (yl (dj := 44) (b := true) rfl rfl rfl) ?_
      have hp1 : cnt (s &&& (2 ^ (1 + n % 16) - 1)) ≤ 16 := pc_le 16 _
      have hp2 : cnt ((2 ^ (1 + n % 16) - 1) &&& (65535 - s)) ≤ 16 := pc_le 16 _
      refine st (v := .int .i64 (((cnt (s &&& (2 ^ (1 + n % 16) - 1)) : Nat) : Int) + ((cnt ((2 ^ (1 + n % 16) - 1) &&& (65535 - s)) : Nat) : Int))) (x_add (k := .i64) (a := ((cnt (s &&& (2 ^ (1 + n % 16) - 1)) : Nat) : Int)) (b := ((cnt ((2 ^ (1 + n % 16) - 1) &&& (65535 - s)) : Nat) : Int)) (.tmp rfl rfl) (.tmp rfl rfl) (w64 (by omega) (by omega))) ?_
      refine g_yes (yl (dj := 44) (b := true) rfl rfl rfl) ?_
      refine st (v := .int .i64 (((1 + n % 16) : Nat) : Int)) (x_move (.tmp rfl rfl)) ?_
      refine g_yes (yl (dj := 44) (b := true) rfl rfl rfl) ?_
      refine st (v := .bool (decide (((((cnt (s &&& (2 ^ (1 + n % 16) - 1)) : Nat) : Int) + ((cnt ((2 ^ (1 + n % 16) - 1) &&& (65535 - s)) : Nat) : Int)) : Int) = (((1 + n % 16) : Nat) : Int)))) (x_eql (k := .i64) (a := (((cnt (s &&& (2 ^ (1 + n % 16) - 1)) : Nat) : Int) + ((cnt ((2 ^ (1 + n % 16) - 1) &&& (65535 - s)) : Nat) : Int))) (b := (((1 + n % 16) : Nat) : Int)) (.tmp rfl rfl) (.tmp rfl rfl)) ?_
      refine st (v := .bool (decide (((((cnt (s &&& (2 ^ (1 + n % 16) - 1)) : Nat) : Int) + ((cnt ((2 ^ (1 + n % 16) - 1) &&& (65535 - s)) : Nat) : Int)) : Int) = (((1 + n % 16) : Nat) : Int)))) (x_pick_t (.tmp rfl rfl) (.tmp rfl rfl)) ?_
      refine st (v := .bool (decide (((((cnt (s &&& (2 ^ (1 + n % 16) - 1)) : Nat) : Int) + ((cnt ((2 ^ (1 + n % 16) - 1) &&& (65535 - s)) : Nat) : Int)) : Int) = (((1 + n % 16) : Nat) : Int)))) (x_assign (.tmp rfl rfl)) ?_
      refine c_nil ?_
      refine n_then ?_
      refine c_ret ?_
      refine leave_ret (res_one (v := .bool (decide (((((cnt (s &&& (2 ^ (1 + n % 16) - 1)) : Nat) : Int) + ((cnt ((2 ^ (1 + n % 16) - 1) &&& (65535 - s)) : Nat) : Int)) : Int) = (((1 + n % 16) : Nat) : Int)))) rfl (.mk rfl rfl)) ?_
      have hh := halves16 (k := (1 + n % 16)) (s := s) (by omega) b_s
      have ha := of_decide_eq_false hc9
      have hb := of_decide_eq_true hc17
      exact ⟨ret_true (b := (decide (((((cnt (s &&& (2 ^ (1 + n % 16) - 1)) : Nat) : Int) + ((cnt ((2 ^ (1 + n % 16) - 1) &&& (65535 - s)) : Nat) : Int)) : Int) = (((1 + n % 16) : Nat) : Int)))) (decide_eq_true (by omega)), hs23⟩
    · refine g_yes (yl (dj := 38) (b := false) rfl rfl (congrArg Value.bool hc17)) ?_
      refine st (v := .int .i64 (((1 + n % 16) : Nat) : Int)) (x_move (.tmp rfl rfl)) ?_
      refine g_yes (yl (dj := 38) (b := false) rfl rfl (congrArg Value.bool hc17)) ?_
      refine st (v := .int .i64 ((((1 + n % 16) % 2) : Nat) : Int)) (x_remN (k := .i64) (m := (1 + n % 16)) (n := 2) (.tmp rfl rfl) .const (by omega)) ?_
      refine g_yes (yl (dj := 38) (b := false) rfl rfl (congrArg Value.bool hc17)) ?_
      refine st (v := .bool (decide ((((((1 + n % 16) % 2) : Nat) : Int) : Int) = 0))) (x_eql (k := .i64) (a := ((((1 + n % 16) % 2) : Nat) : Int)) (b := 0) (.tmp rfl rfl) .const) ?_
      refine g_yes (yl (dj := 33) (b := true) rfl rfl rfl) ?_
      refine st (v := .bool (decide ((((((1 + n % 16) % 2) : Nat) : Int) : Int) = 0))) (x_pick_f (.tmp rfl (congrArg Value.bool hc17)) (.tmp rfl rfl)) ?_
      refine st (v := .bool (decide ((((((1 + n % 16) % 2) : Nat) : Int) : Int) = 0))) (x_pick_t (.tmp rfl rfl) (.tmp rfl rfl)) ?_
      refine st (v := .bool (decide ((((((1 + n % 16) % 2) : Nat) : Int) : Int) = 0))) (x_move (.tmp rfl rfl)) ?_
      rcases Bool.eq_false_or_eq_true (decide ((((((1 + n % 16) % 2) : Nat) : Int) : Int) = 0)) with hc24 | hc24
      · have hp24 : (((((1 + n % 16) % 2) : Nat) : Int) : Int) = 0 := of_decide_eq_true hc24
        refine g_yes (yl (dj := 44) (b := true) rfl rfl (congrArg Value.bool hc24)) ?_
        refine st (v := .int .u16 ((s : Nat) : Int)) (x_move (.tmp rfl rfl)) ?_
        refine g_yes (yl (dj := 44) (b := true) rfl rfl (congrArg Value.bool hc24)) ?_
        refine st (v := .int .u16 (((2 ^ (1 + n % 16) - 1) : Nat) : Int)) (x_move (.tmp rfl rfl)) ?_
        refine g_yes (yl (dj := 44) (b := true) rfl rfl (congrArg Value.bool hc24)) ?_
        have hb25 : (s &&& (2 ^ (1 + n % 16) - 1)) < 65536 := Nat.lt_of_le_of_lt Nat.and_le_left b_s
        refine st (v := .int .u16 (((s &&& (2 ^ (1 + n % 16) - 1)) : Nat) : Int)) (x_and (k := .u16) (m := s) (n := (2 ^ (1 + n % 16) - 1)) rfl (.tmp rfl rfl) (.tmp rfl rfl) (show _ < 2 ^ 16 from b_s) (show _ < 2 ^ 16 from hal.2)) ?_
        refine g_yes (yl (dj := 44) (b := true) rfl rfl (congrArg Value.bool hc24)) ?_
        refine st_c cb10 .func (evs1 (.tmp rfl rfl)) (count_spec hs8 (s &&& (2 ^ (1 + n % 16) - 1)) hb25) ?_
        rintro e w26 ⟨rfl, hs27⟩
        refine ⟨_, rfl, ?_⟩
        refine g_yes (yl (dj := 44) (b := true) rfl rfl (congrArg Value.bool hc24)) ?_
        refine st (v := .int .u16 (((2 ^ (1 + n % 16) - 1) : Nat) : Int)) (x_move (.tmp rfl rfl)) ?_
        refine g_yes (yl (dj := 44) (b := true) rfl rfl (congrArg Value.bool hc24)) ?_
        refine st (v := .int .u16 ((s : Nat) : Int)) (x_move (.tmp rfl rfl)) ?_
        refine g_yes (yl (dj := 44) (b := true) rfl rfl (congrArg Value.bool hc24)) ?_
        have hb28 : ((2 ^ (1 + n % 16) - 1) &&& (65535 - s)) < 65536 := Nat.lt_of_le_of_lt Nat.and_le_left hal.2
        refine st (v := .int .u16 ((((2 ^ (1 + n % 16) - 1) &&& (65535 - s)) : Nat) : Int)) (x_andNot (k := .u16) (m := (2 ^ (1 + n % 16) - 1)) (n := s) rfl (.tmp rfl rfl) (.tmp rfl rfl) (show _ < 2 ^ 16 from hal.2) (show _ < 2 ^ 16 from b_s)) ?_
        refine g_yes (yl (dj := 44) (b := true) rfl rfl (congrArg Value.bool hc24)) ?_
        refine st_c cb10 .func (evs1 (.tmp rfl rfl)) (count_spec hs27 ((2 ^ (1 + n % 16) - 1) &&& (65535 - s)) hb28) ?_
        rintro e w29 ⟨rfl, hs30⟩
        refine ⟨_, rfl, ?_⟩
        refine g_yes (yl (dj := 44) (b := true) rfl rfl (congrArg Value.bool hc24)) ?_
        have hp1 : cnt (s &&& (2 ^ (1 + n % 16) - 1)) ≤ 16 := pc_le 16 _
        have hp2 : cnt ((2 ^ (1 + n % 16) - 1) &&& (65535 - s)) ≤ 16 := pc_le 16 _
        refine st (v := .int .i64 (((cnt (s &&& (2 ^ (1 + n % 16) - 1)) : Nat) : Int) + ((cnt ((2 ^ (1 + n % 16) - 1) &&& (65535 - s)) : Nat) : Int))) (x_add (k := .i64) (a := ((cnt (s &&& (2 ^ (1 + n % 16) - 1)) : Nat) : Int)) (b := ((cnt ((2 ^ (1 + n % 16) - 1) &&& (65535 - s)) : Nat) : Int)) (.tmp rfl rfl) (.tmp rfl rfl) (w64 (by omega) (by omega))) ?_
        refine g_yes (yl (dj := 44) (b := true) rfl rfl (congrArg Value.bool hc24)) ?_
        refine st (v := .int .i64 (((1 + n % 16) : Nat) : Int)) (x_move (.tmp rfl rfl)) ?_
        refine g_yes (yl (dj := 44) (b := true) rfl rfl (congrArg Value.bool hc24)) ?_
        refine st (v := .bool (decide (((((cnt (s &&& (2 ^ (1 + n % 16) - 1)) : Nat) : Int) + ((cnt ((2 ^ (1 + n % 16) - 1) &&& (65535 - s)) : Nat) : Int)) : Int) = (((1 + n % 16) : Nat) : Int)))) (x_eql (k := .i64) (a := (((cnt (s &&& (2 ^ (1 + n % 16) - 1)) : Nat) : Int) + ((cnt ((2 ^ (1 + n % 16) - 1) &&& (65535 - s)) : Nat) : Int))) (b := (((1 + n % 16) : Nat) : Int)) (.tmp rfl rfl) (.tmp rfl rfl)) ?_
        refine st (v := .bool (decide (((((cnt (s &&& (2 ^ (1 + n % 16) - 1)) : Nat) : Int) + ((cnt ((2 ^ (1 + n % 16) - 1) &&& (65535 - s)) : Nat) : Int)) : Int) = (((1 + n % 16) : Nat) : Int)))) (x_pick_t (.tmp rfl (congrArg Value.bool hc24)) (.tmp rfl rfl)) ?_
        refine st (v := .bool (decide (((((cnt (s &&& (2 ^ (1 + n % 16) - 1)) : Nat) : Int) + ((cnt ((2 ^ (1 + n % 16) - 1) &&& (65535 - s)) : Nat) : Int)) : Int) = (((1 + n % 16) : Nat) : Int)))) (x_assign (.tmp rfl rfl)) ?_
        refine c_nil ?_
        refine n_then ?_
        refine c_ret ?_
        refine leave_ret (res_one (v := .bool (decide (((((cnt (s &&& (2 ^ (1 + n % 16) - 1)) : Nat) : Int) + ((cnt ((2 ^ (1 + n % 16) - 1) &&& (65535 - s)) : Nat) : Int)) : Int) = (((1 + n % 16) : Nat) : Int)))) rfl (.mk rfl rfl)) ?_
        have hh := halves16 (k := (1 + n % 16)) (s := s) (by omega) b_s
        have ha := of_decide_eq_false hc9
        have hb := of_decide_eq_false hc17
        exact ⟨ret_true (b := (decide (((((cnt (s &&& (2 ^ (1 + n % 16) - 1)) : Nat) : Int) + ((cnt ((2 ^ (1 + n % 16) - 1) &&& (65535 - s)) : Nat) : Int)) : Int) = (((1 + n % 16) : Nat) : Int)))) (decide_eq_true (by omega)), hs30⟩
      · have hp24 : ¬ ((((((1 + n % 16) % 2) : Nat) : Int) : Int) = 0) := of_decide_eq_false hc24
        refine g_no (yl (dj := 44) (b := false) rfl rfl (congrArg Value.bool hc24)) rfl ?_
        refine g_no (yl (dj := 44) (b := false) rfl rfl (congrArg Value.bool hc24)) rfl ?_
        refine g_no (yl (dj := 44) (b := false) rfl rfl (congrArg Value.bool hc24)) rfl ?_
        refine g_no (yl (dj := 44) (b := false) rfl rfl (congrArg Value.bool hc24)) rfl ?_
        refine g_no (yl (dj := 44) (b := false) rfl rfl (congrArg Value.bool hc24)) rfl ?_
        refine g_no (yl (dj := 44) (b := false) rfl rfl (congrArg Value.bool hc24)) rfl ?_
        refine g_no (yl (dj := 44) (b := false) rfl rfl (congrArg Value.bool hc24)) rfl ?_
        refine g_no (yl (dj := 44) (b := false) rfl rfl (congrArg Value.bool hc24)) rfl ?_
        refine g_no (yl (dj := 44) (b := false) rfl rfl (congrArg Value.bool hc24)) rfl ?_
        refine g_no (yl (dj := 44) (b := false) rfl rfl (congrArg Value.bool hc24)) rfl ?_
        refine g_no (yl (dj := 44) (b := false) rfl rfl (congrArg Value.bool hc24)) rfl ?_
        refine st (v := .bool false) (x_pick_f (.tmp rfl (congrArg Value.bool hc24)) .const) ?_
        refine st (v := .bool false) (x_assign (.tmp rfl rfl)) ?_
        refine c_nil ?_
        refine n_then ?_
        refine c_ret ?_
        refine leave_ret (res_one (v := .bool false) rfl (.mk rfl rfl)) ?_
        have hh := halves16 (k := (1 + n % 16)) (s := s) (by omega) b_s
        have ha := of_decide_eq_false hc9
        have hb := of_decide_eq_false hc17
        exfalso
        omega

end Go.Proofs.YtdllflllhjaimaaDoor
