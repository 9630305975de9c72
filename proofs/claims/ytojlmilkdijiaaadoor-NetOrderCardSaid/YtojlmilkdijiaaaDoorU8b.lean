/- Steps of the proofs over the functions of this seat, printed by a program (gen.py) and checked by Lean. -/
import Derived.Test.YtojlmilkdijiaaaDoorUty
import Derived.Test.YtojlmilkdijiaaaDoorFmM4b
import Derived.Test.YtojlmilkdijiaaaDoorFmP
import Derived.Test.YtojlmilkdijiaaaDoorU8a
set_option linter.unusedVariables false
set_option linter.unusedSimpArgs false
namespace Go.Proofs.YtojlmilkdijiaaaDoor
open Go Go.FM Go.Proofs
attribute [local irreducible] wpList wpQuiet wpS Code.wp Calls
set_option maxHeartbeats 8000000 in
theorem has_spec {H : Hp} {w : World} {L : List Res} (hs : St H w L) (s : Nat) (i : Int) (b_s : s < 65536) (b_i : -9223372036854775808 ≤ i ∧ i ≤ 9223372036854775807) : Calls Tryd.prog 33 #[.int .u16 ((s : Nat) : Int), .int .i64 i] w (fun e w' => e = .returned (.bool (has s i)) ∧ St H w' L) := by
  refine enter (args := [.int .u16 ((s : Nat) : Int), .int .i64 i]) (N := 18) Tryd.func33 rfl rfl rfl ?_
  refine c_seq ?_
  refine c_region ?_
  refine st (v := .bool false) (x_assign .const) ?_
  refine c_nil ?_
  refine n_then ?_
  refine c_seq ?_
  refine c_region ?_
  refine st (v := .int .i64 i) (x_move (.tmp rfl rfl)) ?_
  refine st (v := .bool (decide ((0 : Int) ≤ i))) (x_geq (k := .i64) (a := i) (b := 0) (.tmp rfl rfl) .const) ?_
  refine st (v := .bool (decide ((0 : Int) ≤ i))) (x_move (.tmp rfl rfl)) ?_
  rcases Bool.eq_false_or_eq_true (decide ((0 : Int) ≤ i)) with hc1 | hc1
  · have hp1 : (0 : Int) ≤ i := of_decide_eq_true hc1
    refine g_yes (yl (dj := 7) (b := true) rfl rfl (congrArg Value.bool hc1)) ?_
    refine st (v := .int .i64 i) (x_move (.tmp rfl rfl)) ?_
    refine g_yes (yl (dj := 7) (b := true) rfl rfl (congrArg Value.bool hc1)) ?_
    refine st (v := .bool (decide ((i : Int) < 16))) (x_lss (k := .i64) (a := i) (b := 16) (.tmp rfl rfl) .const) ?_
    refine st (v := .bool (decide ((i : Int) < 16))) (x_pick_t (.tmp rfl (congrArg Value.bool hc1)) (.tmp rfl rfl)) ?_
    refine st (v := .bool (decide ((i : Int) < 16))) (x_move (.tmp rfl rfl)) ?_
    rcases Bool.eq_false_or_eq_true (decide ((i : Int) < 16)) with hc2 | hc2
    · have hp2 : (i : Int) < 16 := of_decide_eq_true hc2
      refine g_yes (yl (dj := 11) (b := true) rfl rfl (congrArg Value.bool hc2)) ?_
      refine st (v := .int .u16 ((s : Nat) : Int)) (x_move (.tmp rfl rfl)) ?_
      refine g_yes (yl (dj := 11) (b := true) rfl rfl (congrArg Value.bool hc2)) ?_
      refine st (v := .int .i64 i) (x_move (.tmp rfl rfl)) ?_
      refine g_yes (yl (dj := 11) (b := true) rfl rfl (congrArg Value.bool hc2)) ?_
      have hb3 : (s / 2 ^ i.toNat) < 65536 := Nat.lt_of_le_of_lt (Nat.div_le_self _ _) b_s
      refine st (v := .int .u16 (((s / 2 ^ i.toNat) : Nat) : Int)) (x_shr (k := .u16) (m := s) (b := i) rfl (.tmp rfl rfl) (.tmp rfl rfl) (by omega) (show _ < 2 ^ 16 from b_s)) ?_
      refine g_yes (yl (dj := 11) (b := true) rfl rfl (congrArg Value.bool hc2)) ?_
      have hb4 : ((s / 2 ^ i.toNat) &&& 1) < 65536 := Nat.lt_of_le_of_lt Nat.and_le_left hb3
      refine st (v := .int .u16 ((((s / 2 ^ i.toNat) &&& 1) : Nat) : Int)) (x_and (k := .u16) (m := (s / 2 ^ i.toNat)) (n := 1) rfl (.tmp rfl rfl) .const (show _ < 2 ^ 16 from hb3) (show _ < 2 ^ 16 from (by decide))) ?_
      refine g_yes (yl (dj := 11) (b := true) rfl rfl (congrArg Value.bool hc2)) ?_
      refine st (v := .bool (decide ((((((s / 2 ^ i.toNat) &&& 1) : Nat) : Int) : Int) = 1))) (x_eql (k := .u16) (a := ((((s / 2 ^ i.toNat) &&& 1) : Nat) : Int)) (b := 1) (.tmp rfl rfl) .const) ?_
      refine st (v := .bool (decide ((((((s / 2 ^ i.toNat) &&& 1) : Nat) : Int) : Int) = 1))) (x_pick_t (.tmp rfl (congrArg Value.bool hc2)) (.tmp rfl rfl)) ?_
      refine st (v := .bool (decide ((((((s / 2 ^ i.toNat) &&& 1) : Nat) : Int) : Int) = 1))) (x_assign (.tmp rfl rfl)) ?_
      refine c_nil ?_
      refine n_then ?_
      refine c_ret ?_
      refine leave_ret (res_one (v := .bool (decide ((((((s / 2 ^ i.toNat) &&& 1) : Nat) : Int) : Int) = 1))) rfl (.mk rfl rfl)) ?_
      exact ⟨congrArg (fun b => Ending.returned (.bool b)) (has_yes (by omega) (by omega)), hs⟩
    · have hp2 : ¬ ((i : Int) < 16) := of_decide_eq_false hc2
      refine g_no (yl (dj := 11) (b := false) rfl rfl (congrArg Value.bool hc2)) rfl ?_
      refine g_no (yl (dj := 11) (b := false) rfl rfl (congrArg Value.bool hc2)) rfl ?_
      refine g_no (yl (dj := 11) (b := false) rfl rfl (congrArg Value.bool hc2)) rfl ?_
      refine g_no (yl (dj := 11) (b := false) rfl rfl (congrArg Value.bool hc2)) rfl ?_
      refine g_no (yl (dj := 11) (b := false) rfl rfl (congrArg Value.bool hc2)) rfl ?_
      refine st (v := .bool false) (x_pick_f (.tmp rfl (congrArg Value.bool hc2)) .const) ?_
      refine st (v := .bool false) (x_assign (.tmp rfl rfl)) ?_
      refine c_nil ?_
      refine n_then ?_
      refine c_ret ?_
      refine leave_ret (res_one (v := .bool false) rfl (.mk rfl rfl)) ?_
      exact ⟨congrArg (fun b => Ending.returned (.bool b)) (has_no (by omega)), hs⟩
  · have hp1 : ¬ ((0 : Int) ≤ i) := of_decide_eq_false hc1
    refine g_no (yl (dj := 7) (b := false) rfl rfl (congrArg Value.bool hc1)) rfl ?_
    refine g_no (yl (dj := 7) (b := false) rfl rfl (congrArg Value.bool hc1)) rfl ?_
    refine st (v := .bool false) (x_pick_f (.tmp rfl (congrArg Value.bool hc1)) .const) ?_
    refine st (v := .bool false) (x_move (.tmp rfl rfl)) ?_
    refine g_no (yl (dj := 11) (b := false) rfl rfl rfl) rfl ?_
    refine g_no (yl (dj := 11) (b := false) rfl rfl rfl) rfl ?_
    refine g_no (yl (dj := 11) (b := false) rfl rfl rfl) rfl ?_
    refine g_no (yl (dj := 11) (b := false) rfl rfl rfl) rfl ?_
    refine g_no (yl (dj := 11) (b := false) rfl rfl rfl) rfl ?_
    refine st (v := .bool false) (x_pick_f (.tmp rfl rfl) .const) ?_
    refine st (v := .bool false) (x_assign (.tmp rfl rfl)) ?_
    refine c_nil ?_
    refine n_then ?_
    refine c_ret ?_
    refine leave_ret (res_one (v := .bool false) rfl (.mk rfl rfl)) ?_
    exact ⟨congrArg (fun b => Ending.returned (.bool b)) (has_no (by omega)), hs⟩

set_option maxHeartbeats 8000000 in
theorem with_spec {H : Hp} {w : World} {L : List Res} (hs : St H w L) (s : Nat) (i : Int) (b_s : s < 65536) (b_i : -9223372036854775808 ≤ i ∧ i ≤ 9223372036854775807) : Calls Tryd.prog 39 #[.int .u16 ((s : Nat) : Int), .int .i64 i] w (fun e w' => e = .returned (.int .u16 ((wth s i : Nat) : Int)) ∧ St H w' L) := by
  refine enter (args := [.int .u16 ((s : Nat) : Int), .int .i64 i]) (N := 16) Tryd.func39 rfl rfl rfl ?_
  refine c_seq ?_
  refine c_region ?_
  refine st (v := .int .u16 0) (x_assign .const) ?_
  refine c_nil ?_
  refine n_then ?_
  refine c_seq ?_
  refine c_seq ?_
  refine c_region ?_
  refine st (v := .int .i64 i) (x_move (.tmp rfl rfl)) ?_
  refine st (v := .bool (decide ((0 : Int) ≤ i))) (x_geq (k := .i64) (a := i) (b := 0) (.tmp rfl rfl) .const) ?_
  refine st (v := .bool (decide ((0 : Int) ≤ i))) (x_move (.tmp rfl rfl)) ?_
  rcases Bool.eq_false_or_eq_true (decide ((0 : Int) ≤ i)) with hc1 | hc1
  · have hp1 : (0 : Int) ≤ i := of_decide_eq_true hc1
    refine g_yes (yl (dj := 7) (b := true) rfl rfl (congrArg Value.bool hc1)) ?_
    refine st (v := .int .i64 i) (x_move (.tmp rfl rfl)) ?_
    refine g_yes (yl (dj := 7) (b := true) rfl rfl (congrArg Value.bool hc1)) ?_
    refine st (v := .bool (decide ((i : Int) < 16))) (x_lss (k := .i64) (a := i) (b := 16) (.tmp rfl rfl) .const) ?_
    refine st (v := .bool (decide ((i : Int) < 16))) (x_pick_t (.tmp rfl (congrArg Value.bool hc1)) (.tmp rfl rfl)) ?_
    refine c_nil ?_
    refine n_then ?_
    rcases Bool.eq_false_or_eq_true (decide ((i : Int) < 16)) with hc2 | hc2
    · have hp2 : (i : Int) < 16 := of_decide_eq_true hc2
      refine c_cond_t (t := true) (.tmp rfl (congrArg Value.bool hc2)) rfl ?_
      refine c_region ?_
      refine st (v := .int .u16 ((s : Nat) : Int)) (x_move (.tmp rfl rfl)) ?_
      refine st (v := .int .i64 i) (x_move (.tmp rfl rfl)) ?_
      have hb3 : (1 * 2 ^ i.toNat % 65536) < 65536 := Nat.mod_lt _ (by decide)
      refine st (v := .int .u16 (((1 * 2 ^ i.toNat % 65536) : Nat) : Int)) (x_shl (k := .u16) (m := 1) (b := i) rfl .const (.tmp rfl rfl) (by omega)) ?_
      have hb4 : (s ||| (1 * 2 ^ i.toNat % 65536)) < 65536 := Nat.or_lt_two_pow (n := 16) b_s hb3
      refine st (v := .int .u16 (((s ||| (1 * 2 ^ i.toNat % 65536)) : Nat) : Int)) (x_or (k := .u16) (m := s) (n := (1 * 2 ^ i.toNat % 65536)) rfl (.tmp rfl rfl) (.tmp rfl rfl) (show _ < 2 ^ 16 from b_s) (show _ < 2 ^ 16 from hb3)) ?_
      refine st (v := .int .u16 (((s ||| (1 * 2 ^ i.toNat % 65536)) : Nat) : Int)) (x_assign (.tmp rfl rfl)) ?_
      refine c_nil ?_
      refine n_then ?_
      refine c_seq ?_
      refine c_region ?_
      refine st (v := .int .u16 (((s ||| (1 * 2 ^ i.toNat % 65536)) : Nat) : Int)) (x_move (.tmp rfl rfl)) ?_
      refine st (v := .int .u16 (((s ||| (1 * 2 ^ i.toNat % 65536)) : Nat) : Int)) (x_assign (.tmp rfl rfl)) ?_
      refine c_nil ?_
      refine n_then ?_
      refine c_ret ?_
      refine leave_ret (res_one (v := .int .u16 (((s ||| (1 * 2 ^ i.toNat % 65536)) : Nat) : Int)) rfl (.mk rfl rfl)) ?_
      exact ⟨by simp only [wth]; first | (rw [if_neg (by omega)]) | (rw [if_pos (by omega), Nat.one_mul, Nat.mod_eq_of_lt (bit_lt (by omega))]), hs⟩
    · have hp2 : ¬ ((i : Int) < 16) := of_decide_eq_false hc2
      refine c_cond_f (t := false) (.tmp rfl (congrArg Value.bool hc2)) rfl ?_
      refine c_skip ?_
      refine n_then ?_
      refine c_seq ?_
      refine c_region ?_
      refine st (v := .int .u16 ((s : Nat) : Int)) (x_move (.tmp rfl rfl)) ?_
      refine st (v := .int .u16 ((s : Nat) : Int)) (x_assign (.tmp rfl rfl)) ?_
      refine c_nil ?_
      refine n_then ?_
      refine c_ret ?_
      refine leave_ret (res_one (v := .int .u16 ((s : Nat) : Int)) rfl (.mk rfl rfl)) ?_
      exact ⟨by simp only [wth]; first | (rw [if_neg (by omega)]) | (rw [if_pos (by omega), Nat.one_mul, Nat.mod_eq_of_lt (bit_lt (by omega))]), hs⟩
  · have hp1 : ¬ ((0 : Int) ≤ i) := of_decide_eq_false hc1
    refine g_no (yl (dj := 7) (b := false) rfl rfl (congrArg Value.bool hc1)) rfl ?_
    refine g_no (yl (dj := 7) (b := false) rfl rfl (congrArg Value.bool hc1)) rfl ?_
    refine st (v := .bool false) (x_pick_f (.tmp rfl (congrArg Value.bool hc1)) .const) ?_
    refine c_nil ?_
    refine n_then ?_
    refine c_cond_f (t := false) (.tmp rfl rfl) rfl ?_
    refine c_skip ?_
    refine n_then ?_
    refine c_seq ?_
    refine c_region ?_
    refine st (v := .int .u16 ((s : Nat) : Int)) (x_move (.tmp rfl rfl)) ?_
    refine st (v := .int .u16 ((s : Nat) : Int)) (x_assign (.tmp rfl rfl)) ?_
    refine c_nil ?_
    refine n_then ?_
    refine c_ret ?_
    refine leave_ret (res_one (v := .int .u16 ((s : Nat) : Int)) rfl (.mk rfl rfl)) ?_
    exact ⟨by simp only [wth]; first | (rw [if_neg (by omega)]) | (rw [if_pos (by omega), Nat.one_mul, Nat.mod_eq_of_lt (bit_lt (by omega))]), hs⟩

set_option maxHeartbeats 8000000 in
theorem without_spec {H : Hp} {w : World} {L : List Res} (hs : St H w L) (s : Nat) (i : Int) (b_s : s < 65536) (b_i : -9223372036854775808 ≤ i ∧ i ≤ 9223372036854775807) : Calls Tryd.prog 30 #[.int .u16 ((s : Nat) : Int), .int .i64 i] w (fun e w' => e = .returned (.int .u16 ((wto s i : Nat) : Int)) ∧ St H w' L) := by
  refine enter (args := [.int .u16 ((s : Nat) : Int), .int .i64 i]) (N := 16) Tryd.func30 rfl rfl rfl ?_
  refine c_seq ?_
  refine c_region ?_
  refine st (v := .int .u16 0) (x_assign .const) ?_
  refine c_nil ?_
  refine n_then ?_
  refine c_seq ?_
  refine c_seq ?_
  refine c_region ?_
  refine st (v := .int .i64 i) (x_move (.tmp rfl rfl)) ?_
  refine st (v := .bool (decide ((0 : Int) ≤ i))) (x_geq (k := .i64) (a := i) (b := 0) (.tmp rfl rfl) .const) ?_
  refine st (v := .bool (decide ((0 : Int) ≤ i))) (x_move (.tmp rfl rfl)) ?_
  rcases Bool.eq_false_or_eq_true (decide ((0 : Int) ≤ i)) with hc1 | hc1
  · have hp1 : (0 : Int) ≤ i := of_decide_eq_true hc1
    refine g_yes (yl (dj := 7) (b := true) rfl rfl (congrArg Value.bool hc1)) ?_
    refine st (v := .int .i64 i) (x_move (.tmp rfl rfl)) ?_
    refine g_yes (yl (dj := 7) (b := true) rfl rfl (congrArg Value.bool hc1)) ?_
    refine st (v := .bool (decide ((i : Int) < 16))) (x_lss (k := .i64) (a := i) (b := 16) (.tmp rfl rfl) .const) ?_
    refine st (v := .bool (decide ((i : Int) < 16))) (x_pick_t (.tmp rfl (congrArg Value.bool hc1)) (.tmp rfl rfl)) ?_
    refine c_nil ?_
    refine n_then ?_
    rcases Bool.eq_false_or_eq_true (decide ((i : Int) < 16)) with hc2 | hc2
    · have hp2 : (i : Int) < 16 := of_decide_eq_true hc2
      refine c_cond_t (t := true) (.tmp rfl (congrArg Value.bool hc2)) rfl ?_
      refine c_region ?_
      refine st (v := .int .u16 ((s : Nat) : Int)) (x_move (.tmp rfl rfl)) ?_
      refine st (v := .int .i64 i) (x_move (.tmp rfl rfl)) ?_
      have hb3 : (1 * 2 ^ i.toNat % 65536) < 65536 := Nat.mod_lt _ (by decide)
      refine st (v := .int .u16 (((1 * 2 ^ i.toNat % 65536) : Nat) : Int)) (x_shl (k := .u16) (m := 1) (b := i) rfl .const (.tmp rfl rfl) (by omega)) ?_
      have hb4 : (s &&& (65535 - (1 * 2 ^ i.toNat % 65536))) < 65536 := Nat.lt_of_le_of_lt Nat.and_le_left b_s
      refine st (v := .int .u16 (((s &&& (65535 - (1 * 2 ^ i.toNat % 65536))) : Nat) : Int)) (x_andNot (k := .u16) (m := s) (n := (1 * 2 ^ i.toNat % 65536)) rfl (.tmp rfl rfl) (.tmp rfl rfl) (show _ < 2 ^ 16 from b_s) (show _ < 2 ^ 16 from hb3)) ?_
      refine st (v := .int .u16 (((s &&& (65535 - (1 * 2 ^ i.toNat % 65536))) : Nat) : Int)) (x_assign (.tmp rfl rfl)) ?_
      refine c_nil ?_
      refine n_then ?_
      refine c_seq ?_
      refine c_region ?_
      refine st (v := .int .u16 (((s &&& (65535 - (1 * 2 ^ i.toNat % 65536))) : Nat) : Int)) (x_move (.tmp rfl rfl)) ?_
      refine st (v := .int .u16 (((s &&& (65535 - (1 * 2 ^ i.toNat % 65536))) : Nat) : Int)) (x_assign (.tmp rfl rfl)) ?_
      refine c_nil ?_
      refine n_then ?_
      refine c_ret ?_
      refine leave_ret (res_one (v := .int .u16 (((s &&& (65535 - (1 * 2 ^ i.toNat % 65536))) : Nat) : Int)) rfl (.mk rfl rfl)) ?_
      exact ⟨by simp only [wto]; first | (rw [if_neg (by omega)]) | (rw [if_pos (by omega), Nat.one_mul, Nat.mod_eq_of_lt (bit_lt (by omega))]), hs⟩
    · have hp2 : ¬ ((i : Int) < 16) := of_decide_eq_false hc2
      refine c_cond_f (t := false) (.tmp rfl (congrArg Value.bool hc2)) rfl ?_
      refine c_skip ?_
      refine n_then ?_
      refine c_seq ?_
      refine c_region ?_
      refine st (v := .int .u16 ((s : Nat) : Int)) (x_move (.tmp rfl rfl)) ?_
      refine st (v := .int .u16 ((s : Nat) : Int)) (x_assign (.tmp rfl rfl)) ?_
      refine c_nil ?_
      refine n_then ?_
      refine c_ret ?_
      refine leave_ret (res_one (v := .int .u16 ((s : Nat) : Int)) rfl (.mk rfl rfl)) ?_
      exact ⟨by simp only [wto]; first | (rw [if_neg (by omega)]) | (rw [if_pos (by omega), Nat.one_mul, Nat.mod_eq_of_lt (bit_lt (by omega))]), hs⟩
  · have hp1 : ¬ ((0 : Int) ≤ i) := of_decide_eq_false hc1
    refine g_no (yl (dj := 7) (b := false) rfl rfl (congrArg Value.bool hc1)) rfl ?_
    refine g_no (yl (dj := 7) (b := false) rfl rfl (congrArg Value.bool hc1)) rfl ?_
    refine st (v := .bool false) (x_pick_f (.tmp rfl (congrArg Value.bool hc1)) .const) ?_
    refine c_nil ?_
    refine n_then ?_
    refine c_cond_f (t := false) (.tmp rfl rfl) rfl ?_
    refine c_skip ?_
    refine n_then ?_
    refine c_seq ?_
    refine c_region ?_
    refine st (v := .int .u16 ((s : Nat) : Int)) (x_move (.tmp rfl rfl)) ?_
    refine st (v := .int .u16 ((s : Nat) : Int)) (x_assign (.tmp rfl rfl)) ?_
    refine c_nil ?_
    refine n_then ?_
    refine c_ret ?_
    refine leave_ret (res_one (v := .int .u16 ((s : Nat) : Int)) rfl (.mk rfl rfl)) ?_
    exact ⟨by simp only [wto]; first | (rw [if_neg (by omega)]) | (rw [if_pos (by omega), Nat.one_mul, Nat.mod_eq_of_lt (bit_lt (by omega))]), hs⟩

set_option maxHeartbeats 8000000 in
theorem bit_spec {H : Hp} {w : World} {L : List Res} (hs : St H w L) (i : Int) (h0 : 0 ≤ i) (h1 : i < 16) : Calls Tryd.prog 34 #[.int .i64 i] w (fun e w' => e = .returned (.int .u16 ((2 ^ i.toNat : Nat) : Int)) ∧ St H w' L) := by
  refine enter (args := [.int .i64 i]) (N := 13) Tryd.func34 rfl rfl rfl ?_
  refine c_seq ?_
  refine c_region ?_
  refine st (v := .int .u16 0) (x_assign .const) ?_
  refine c_nil ?_
  refine n_then ?_
  refine c_seq ?_
  refine c_region ?_
  refine st (v := .int .u16 1) (x_assign .const) ?_
  refine c_nil ?_
  refine n_then ?_
  refine c_seq ?_
  refine c_seq ?_
  refine c_region ?_
  refine st (v := .int .i64 0) (x_assign .const) ?_
  refine c_nil ?_
  refine n_then ?_
  refine c_block ?_
  refine c_loop (fun ρ w mm => ∃ (j : Nat), ρ 0 = .int .i64 i ∧ ρ 3 = .int .u16 (((2 ^ j) : Nat) : Int) ∧ ρ 4 = .int .i64 ((j : Nat) : Int) ∧ ((j : Int) ≤ i) ∧ St H w (L) ∧ mm = i.toNat - j) _ ⟨0, rfl, rfl, rfl, (by omega), hs, rfl⟩ ?_
  rintro ρ w mm ⟨j, hρ2, hρ3, hρ4, hj, hs5, rfl⟩
  refine c_seq ?_
  refine c_seq ?_
  refine c_region ?_
  refine st (v := .int .i64 ((j : Nat) : Int)) (x_move (.tmp rfl hρ4)) ?_
  refine st (v := .int .i64 i) (x_move (.tmp rfl hρ2)) ?_
  refine st (v := .bool (decide ((((j : Nat) : Int) : Int) < i))) (x_lss (k := .i64) (a := ((j : Nat) : Int)) (b := i) (.tmp rfl rfl) (.tmp rfl rfl)) ?_
  refine c_nil ?_
  refine n_then ?_
  rcases Bool.eq_false_or_eq_true (decide ((((j : Nat) : Int) : Int) < i)) with hc6 | hc6
  · have hp6 : (((j : Nat) : Int) : Int) < i := of_decide_eq_true hc6
    refine c_cond_t (t := true) (.tmp rfl (congrArg Value.bool hc6)) rfl ?_
    refine c_skip ?_
    refine n_then ?_
    refine c_seq ?_
    refine c_block ?_
    refine c_region ?_
    refine st (v := .int .u16 (((2 ^ j) : Nat) : Int)) (x_move (.tmp rfl hρ3)) ?_
    refine st (v := .int .u16 (((((2 ^ j) * 2) % 65536) : Nat) : Int)) (x_mul (k := .u16) (a := (((2 ^ j) : Nat) : Int)) (b := 2) (.tmp rfl rfl) .const (wMulN (m := (2 ^ j)) (n := 2) _ rfl rfl rfl)) ?_
    refine st (v := .int .u16 (((((2 ^ j) * 2) % 65536) : Nat) : Int)) (x_assign (.tmp rfl rfl)) ?_
    refine c_nil ?_
    refine n_block ?_
    refine n_then ?_
    refine c_region ?_
    refine st (v := .int .i64 ((j : Nat) : Int)) (x_move (.tmp rfl hρ4)) ?_
    refine st (v := .int .i64 (((j : Nat) : Int) + 1)) (x_add (k := .i64) (a := ((j : Nat) : Int)) (b := 1) (.tmp rfl rfl) .const (w64 (by omega) (by omega))) ?_
    refine st (v := .int .i64 (((j : Nat) : Int) + 1)) (x_assign (.tmp rfl rfl)) ?_
    refine c_nil ?_
    refine n_then ⟨_, _, rfl, ?_, j + 1, hρ2, (congrArg (fun z : Nat => Value.int .u16 (z : Int)) (pow_next (by omega))), rfl, (by omega), hs5, rfl⟩
    omega
  · have hp6 : ¬ ((((j : Nat) : Int) : Int) < i) := of_decide_eq_false hc6
    refine c_cond_f (t := false) (.tmp rfl (congrArg Value.bool hc6)) rfl ?_
    refine c_exit ?_
    refine x_then ?_
    refine x_then ?_
    refine x_here ?_
    refine n_then ?_
    refine c_seq ?_
    refine c_region ?_
    refine st (v := .int .u16 (((2 ^ j) : Nat) : Int)) (x_move (.tmp rfl hρ3)) ?_
    refine st (v := .int .u16 (((2 ^ j) : Nat) : Int)) (x_assign (.tmp rfl rfl)) ?_
    refine c_nil ?_
    refine n_then ?_
    refine c_ret ?_
    refine leave_ret (res_one (v := .int .u16 (((2 ^ j) : Nat) : Int)) rfl (.mk rfl rfl)) ?_
    exact ⟨by rw [show i.toNat = j by omega], hs5⟩

set_option maxHeartbeats 8000000 in
theorem rhas_spec {H : Hp} {w : World} {L : List Res} (hs : St H w L) (s : Nat) (i : Int) (b_s : s < 65536) (b_i : -9223372036854775808 ≤ i ∧ i ≤ 9223372036854775807) : Calls Tryd.prog 16 #[.int .u16 ((s : Nat) : Int), .int .i64 i] w (fun e w' => e = .returned (.bool (has s i)) ∧ St H w' L) := by
  refine enter (args := [.int .u16 ((s : Nat) : Int), .int .i64 i]) (N := 19) Tryd.func16 rfl rfl rfl ?_
  refine c_seq ?_
  refine c_region ?_
  refine st (v := .bool false) (x_assign .const) ?_
  refine c_nil ?_
  refine n_then ?_
  refine c_seq ?_
  refine c_region ?_
  refine st (v := .int .i64 i) (x_move (.tmp rfl rfl)) ?_
  refine st (v := .bool (decide ((0 : Int) ≤ i))) (x_geq (k := .i64) (a := i) (b := 0) (.tmp rfl rfl) .const) ?_
  refine st (v := .bool (decide ((0 : Int) ≤ i))) (x_move (.tmp rfl rfl)) ?_
  rcases Bool.eq_false_or_eq_true (decide ((0 : Int) ≤ i)) with hc1 | hc1
  · have hp1 : (0 : Int) ≤ i := of_decide_eq_true hc1
    refine g_yes (yl (dj := 7) (b := true) rfl rfl (congrArg Value.bool hc1)) ?_
    refine st (v := .int .i64 i) (x_move (.tmp rfl rfl)) ?_
    refine g_yes (yl (dj := 7) (b := true) rfl rfl (congrArg Value.bool hc1)) ?_
    refine st (v := .bool (decide ((i : Int) < 16))) (x_lss (k := .i64) (a := i) (b := 16) (.tmp rfl rfl) .const) ?_
    refine st (v := .bool (decide ((i : Int) < 16))) (x_pick_t (.tmp rfl (congrArg Value.bool hc1)) (.tmp rfl rfl)) ?_
    refine st (v := .bool (decide ((i : Int) < 16))) (x_move (.tmp rfl rfl)) ?_
    rcases Bool.eq_false_or_eq_true (decide ((i : Int) < 16)) with hc2 | hc2
    · have hp2 : (i : Int) < 16 := of_decide_eq_true hc2
      refine g_yes (yl (dj := 11) (b := true) rfl rfl (congrArg Value.bool hc2)) ?_
      refine st (v := .int .u16 ((s : Nat) : Int)) (x_move (.tmp rfl rfl)) ?_
      refine g_yes (yl (dj := 11) (b := true) rfl rfl (congrArg Value.bool hc2)) ?_
      refine st (v := .int .i64 i) (x_move (.tmp rfl rfl)) ?_
      refine g_yes (yl (dj := 11) (b := true) rfl rfl (congrArg Value.bool hc2)) ?_
      have hbp := Nat.two_pow_pos i.toNat
      refine st_c cb34 .func (evs1 (.tmp rfl rfl)) (bit_spec hs i (by omega) (by omega)) ?_
      rintro e w3 ⟨rfl, hs4⟩
      refine ⟨_, rfl, ?_⟩
      refine g_yes (yl (dj := 11) (b := true) rfl rfl (congrArg Value.bool hc2)) ?_
      refine st (v := .int .u16 (((s / (2 ^ i.toNat)) : Nat) : Int)) (x_quoN (k := .u16) (m := s) (n := (2 ^ i.toNat)) (.tmp rfl rfl) (.tmp rfl rfl) (by omega) (.inr ⟨rfl, show _ < 2 ^ 16 from b_s⟩)) ?_
      refine g_yes (yl (dj := 11) (b := true) rfl rfl (congrArg Value.bool hc2)) ?_
      refine st (v := .int .u16 ((((s / (2 ^ i.toNat)) % 2) : Nat) : Int)) (x_remN (k := .u16) (m := (s / (2 ^ i.toNat))) (n := 2) (.tmp rfl rfl) .const (by omega)) ?_
      refine g_yes (yl (dj := 11) (b := true) rfl rfl (congrArg Value.bool hc2)) ?_
      refine st (v := .bool (decide ((((((s / (2 ^ i.toNat)) % 2) : Nat) : Int) : Int) = 1))) (x_eql (k := .u16) (a := ((((s / (2 ^ i.toNat)) % 2) : Nat) : Int)) (b := 1) (.tmp rfl rfl) .const) ?_
      refine st (v := .bool (decide ((((((s / (2 ^ i.toNat)) % 2) : Nat) : Int) : Int) = 1))) (x_pick_t (.tmp rfl (congrArg Value.bool hc2)) (.tmp rfl rfl)) ?_
      refine st (v := .bool (decide ((((((s / (2 ^ i.toNat)) % 2) : Nat) : Int) : Int) = 1))) (x_assign (.tmp rfl rfl)) ?_
      refine c_nil ?_
      refine n_then ?_
      refine c_ret ?_
      refine leave_ret (res_one (v := .bool (decide ((((((s / (2 ^ i.toNat)) % 2) : Nat) : Int) : Int) = 1))) rfl (.mk rfl rfl)) ?_
      exact ⟨congrArg (fun b => Ending.returned (.bool b)) (has_yes' (by omega) (by omega)), hs4⟩
    · have hp2 : ¬ ((i : Int) < 16) := of_decide_eq_false hc2
      refine g_no (yl (dj := 11) (b := false) rfl rfl (congrArg Value.bool hc2)) rfl ?_
      refine g_no (yl (dj := 11) (b := false) rfl rfl (congrArg Value.bool hc2)) rfl ?_
      refine g_no (yl (dj := 11) (b := false) rfl rfl (congrArg Value.bool hc2)) rfl ?_
      refine g_no (yl (dj := 11) (b := false) rfl rfl (congrArg Value.bool hc2)) rfl ?_
      refine g_no (yl (dj := 11) (b := false) rfl rfl (congrArg Value.bool hc2)) rfl ?_
      refine g_no (yl (dj := 11) (b := false) rfl rfl (congrArg Value.bool hc2)) rfl ?_
      refine st (v := .bool false) (x_pick_f (.tmp rfl (congrArg Value.bool hc2)) .const) ?_
      refine st (v := .bool false) (x_assign (.tmp rfl rfl)) ?_
      refine c_nil ?_
      refine n_then ?_
      refine c_ret ?_
      refine leave_ret (res_one (v := .bool false) rfl (.mk rfl rfl)) ?_
      exact ⟨congrArg (fun b => Ending.returned (.bool b)) (has_no (by omega)), hs⟩
  · have hp1 : ¬ ((0 : Int) ≤ i) := of_decide_eq_false hc1
    refine g_no (yl (dj := 7) (b := false) rfl rfl (congrArg Value.bool hc1)) rfl ?_
    refine g_no (yl (dj := 7) (b := false) rfl rfl (congrArg Value.bool hc1)) rfl ?_
    refine st (v := .bool false) (x_pick_f (.tmp rfl (congrArg Value.bool hc1)) .const) ?_
    refine st (v := .bool false) (x_move (.tmp rfl rfl)) ?_
    refine g_no (yl (dj := 11) (b := false) rfl rfl rfl) rfl ?_
    refine g_no (yl (dj := 11) (b := false) rfl rfl rfl) rfl ?_
    refine g_no (yl (dj := 11) (b := false) rfl rfl rfl) rfl ?_
    refine g_no (yl (dj := 11) (b := false) rfl rfl rfl) rfl ?_
    refine g_no (yl (dj := 11) (b := false) rfl rfl rfl) rfl ?_
    refine g_no (yl (dj := 11) (b := false) rfl rfl rfl) rfl ?_
    refine st (v := .bool false) (x_pick_f (.tmp rfl rfl) .const) ?_
    refine st (v := .bool false) (x_assign (.tmp rfl rfl)) ?_
    refine c_nil ?_
    refine n_then ?_
    refine c_ret ?_
    refine leave_ret (res_one (v := .bool false) rfl (.mk rfl rfl)) ?_
    exact ⟨congrArg (fun b => Ending.returned (.bool b)) (has_no (by omega)), hs⟩

theorem least_spec2 {H : Hp} {w : World} {L : List Res} (hs : St H w L) (htab : Tab H) (s : Nat) (b_s : s < 65536) (h0 : s ≠ 0) : Calls Tryd.prog 48 #[.int .u16 ((s : Nat) : Int)] w (fun e w' => e = .returned (.int .i64 ((low 16 s : Nat) : Int)) ∧ St H w' L) := by
  have := least_spec hs htab s b_s
  simp only [least, if_neg h0] at this
  exact this
set_option maxHeartbeats 8000000 in
theorem list_spec {H : Hp} {w : World} {L : List Res} (hs : St H w L) (htab : Tab H) (s : Nat) (b_s : s < 65536) : Calls Tryd.prog 32 #[.int .u16 ((s : Nat) : Int)] w (fun e w' => ∃ v, e = .returned v ∧ RowOk 1 v (lst s).length ((lst s).map encI) ∧ St H w' (row 3 1 v (lst s).length ((lst s).map encI) :: L)) := by
  refine enter (args := [.int .u16 ((s : Nat) : Int)]) (N := 16) Tryd.func32 rfl rfl rfl ?_
  refine c_seq ?_
  refine c_region ?_
  refine st (v := .slice none 0 0) (x_assign .const) ?_
  refine c_nil ?_
  refine n_then ?_
  refine c_seq ?_
  refine c_region ?_
  refine st (v := .slice none 0 0) (x_assign .const) ?_
  refine c_nil ?_
  refine n_then ?_
  refine c_seq ?_
  refine c_block ?_
  have hs0 := hs.rowNil 3 1
  refine c_loop (fun ρ w mm => ∃ (r : Nat) (v : Value) (pre : List Nat), ρ 0 = .int .u16 ((r : Nat) : Int) ∧ ρ 3 = v ∧ (r < 65536) ∧ (lst s = pre ++ lst r) ∧ (RowOk 1 v pre.length (pre.map encI)) ∧ St H w (row 3 1 v pre.length (pre.map encI) :: L) ∧ mm = (lst r).length) _ ⟨s, (.slice none 0 0), [], rfl, rfl, b_s, (by simp), (RowOk.nil 1), hs0, rfl⟩ ?_
  rintro ρ w mm ⟨r, v, pre, hρ2, hρ3, hr, hl, ok, hs4, rfl⟩
  refine c_seq ?_
  refine c_seq ?_
  refine c_region ?_
  refine st (v := .int .u16 ((r : Nat) : Int)) (x_move (.tmp rfl hρ2)) ?_
  refine st (v := .bool (decide ((((r : Nat) : Int) : Int) ≠ 0))) (x_neq (k := .u16) (a := ((r : Nat) : Int)) (b := 0) (.tmp rfl rfl) .const) ?_
  refine c_nil ?_
  refine n_then ?_
  rcases Bool.eq_false_or_eq_true (decide ((((r : Nat) : Int) : Int) ≠ 0)) with hc5 | hc5
  · have hp5 : (((r : Nat) : Int) : Int) ≠ 0 := of_decide_eq_true hc5
    refine c_cond_t (t := true) (.tmp rfl (congrArg Value.bool hc5)) rfl ?_
    refine c_skip ?_
    refine n_then ?_
    refine c_block ?_
    refine c_seq ?_
    refine c_region ?_
    refine st (v := v) (x_move (.tmp rfl hρ3)) ?_
    refine st (v := .int .u16 ((r : Nat) : Int)) (x_move (.tmp rfl hρ2)) ?_
    refine st_c cb48 .func (evs1 (.tmp rfl rfl)) (least_spec2 hs4 htab r hr (by omega)) ?_
    rintro e w6 ⟨rfl, hs7⟩
    refine ⟨_, rfl, ?_⟩
    refine st_m (m_lit (n := 1) (ps := [(0, .int .i64 ((low 16 r : Nat) : Int))]) (cs := [.int .i64 ((low 16 r : Nat) : Int)]) Tryd.underlying52 inf3 (.cons (.tmp rfl rfl) Evp.nil) (by decide) (by decide) rfl rfl hs7) ?_
    rintro _ w9 ⟨g8, rfl, hs11⟩
    have hln := lst_pred r (by omega) hr
    have hll : (lst s).length ≤ 16 := by rw [lst_length]; exact pc_le 16 s
    have hl2 : pre.length + (lst r).length ≤ 16 := by rw [hl] at hll; simpa using hll
    have hl3 : 1 ≤ (lst r).length := by rw [hln]; simp
    have hs12 : St H _ (row 3 1 v pre.length (pre.map encI) :: obj g8 3 [.int .i64 ((low 16 r : Nat) : Int)] :: L) := hs11.pick 1 rfl rfl
    refine st_m (m_app (news := [.int .i64 ((low 16 r : Nat) : Int)]) (m := 1) Tryd.underlying52 inf3 rfl (by decide) hs12 ok (.tmp rfl rfl) (.tmp rfl rfl) rfl (hs12.at_ 1 rfl 0 rfl) (by simp [Value.oneCell']) (by omega) (by decide)) ?_
    rintro v13 w14 ⟨ok16, hs17⟩
    refine st (v := v13) (x_assign (.tmp rfl rfl)) ?_
    refine c_nil ?_
    refine n_then ?_
    refine c_region ?_
    refine st (v := .int .u16 ((r : Nat) : Int)) (x_move (.tmp rfl hρ2)) ?_
    refine st (v := .int .u16 ((r : Nat) : Int)) (x_move (.tmp rfl hρ2)) ?_
    have hb18 : (r - 1) < 65536 := by omega
    refine st (v := .int .u16 (((r - 1) : Nat) : Int)) (x_sub (k := .u16) (a := ((r : Nat) : Int)) (b := 1) (.tmp rfl rfl) .const (wU rfl (by omega) hb18)) ?_
    have hb19 : (r &&& (r - 1)) < 65536 := Nat.lt_of_le_of_lt Nat.and_le_left hr
    refine st (v := .int .u16 (((r &&& (r - 1)) : Nat) : Int)) (x_and (k := .u16) (m := r) (n := (r - 1)) rfl (.tmp rfl rfl) (.tmp rfl rfl) (show _ < 2 ^ 16 from hr) (show _ < 2 ^ 16 from hb18)) ?_
    refine st (v := .int .u16 (((r &&& (r - 1)) : Nat) : Int)) (x_assign (.tmp rfl rfl)) ?_
    refine c_nil ?_
    refine n_block ?_
    refine n_then ⟨_, _, rfl, ?_, (r &&& (r - 1)), v13, (pre ++ [low 16 r]), rfl, rfl, (Nat.lt_of_le_of_lt Nat.and_le_left hr), (by rw [hl, lst_pred r (by omega) hr]; simp), (RowOk.snoc (enc := encI) ok16), (St.rowSnoc (enc := encI) hs17.drop2), rfl⟩
    exact (by rw [lst_pred r (by omega) hr]; simp)
  · have hp5 : ¬ ((((r : Nat) : Int) : Int) ≠ 0) := of_decide_eq_false hc5
    refine c_cond_f (t := false) (.tmp rfl (congrArg Value.bool hc5)) rfl ?_
    refine c_exit ?_
    refine x_then ?_
    refine x_then ?_
    refine x_here ?_
    refine n_then ?_
    refine c_seq ?_
    refine c_region ?_
    refine st (v := v) (x_move (.tmp rfl hρ3)) ?_
    refine st (v := v) (x_assign (.tmp rfl rfl)) ?_
    refine c_nil ?_
    refine n_then ?_
    refine c_ret ?_
    refine leave_ret (res_one (v := v) rfl (.mk rfl rfl)) ?_
    have er : r = 0 := by omega
    have e : lst s = pre := by rw [hl, er, lst, els_zero, List.append_nil]
    exact ⟨v, rfl, by rw [e]; exact ok, by rw [e]; exact hs4⟩

end Go.Proofs.YtojlmilkdijiaaaDoor
