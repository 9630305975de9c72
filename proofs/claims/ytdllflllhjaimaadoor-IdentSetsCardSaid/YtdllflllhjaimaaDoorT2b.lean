/- Steps of the proofs over the functions of this seat, printed by a program (gen.py) and checked by Lean. -/
import Derived.Test.YtdllflllhjaimaaDoorTy
import Derived.Test.YtdllflllhjaimaaDoorFmM4b
import Derived.Test.YtdllflllhjaimaaDoorT2a
set_option linter.unusedVariables false
set_option linter.unusedSimpArgs false
namespace Go.Proofs.YtdllflllhjaimaaDoor
open Go Go.FM Go.Proofs
attribute [local irreducible] wpList wpQuiet Code.wp Calls
set_option maxHeartbeats 8000000 in
theorem count_spec {H : Hp} {w : World} {L : List Res} (hs : St H w L) (s : Nat) (b_s : s < 65536) : Calls Tryd.prog 10 #[.int .u16 ((s : Nat) : Int)] w (fun e w' => e = .returned (.int .i64 ((cnt s : Nat) : Int)) ∧ St H w' L) := by
  refine enter (args := [.int .u16 ((s : Nat) : Int)]) (N := 5) Tryd.func10 rfl rfl rfl ?_
  refine c_seq ?_
  refine c_region ?_
  refine st (v := .int .i64 0) (x_assign .const) ?_
  refine c_nil ?_
  refine n_then ?_
  refine c_seq ?_
  refine c_region ?_
  refine st (v := .int .u16 ((s : Nat) : Int)) (x_move (.tmp rfl rfl)) ?_
  refine st_c cb25 .func (evs1 (.tmp rfl rfl)) (oc16_spec hs s b_s) ?_
  rintro e w1 ⟨rfl, hs2⟩
  refine ⟨_, rfl, ?_⟩
  refine st (v := .int .i64 ((cnt s : Nat) : Int)) (x_assign (.tmp rfl rfl)) ?_
  refine c_nil ?_
  refine n_then ?_
  refine c_ret ?_
  refine leave_ret (res_one (v := .int .i64 ((cnt s : Nat) : Int)) rfl (.mk rfl rfl)) ?_
  exact ⟨rfl, hs2⟩

set_option maxHeartbeats 8000000 in
theorem most_spec {H : Hp} {w : World} {L : List Res} (hs : St H w L) (s : Nat) (i : Int) (b_s : s < 65536) (b_i : -9223372036854775808 ≤ i ∧ i ≤ 9223372036854775807) : Calls Tryd.prog 8 #[.int .u16 ((s : Nat) : Int), .int .i64 i] w (fun e w' => e = .returned (.bool (most s i)) ∧ St H w' L) := by
  refine enter (args := [.int .u16 ((s : Nat) : Int), .int .i64 i]) (N := 18) Tryd.func8 rfl rfl rfl ?_
  refine c_seq ?_
  refine c_region ?_
  refine st (v := .bool false) (x_assign .const) ?_
  refine c_nil ?_
  refine n_then ?_
  refine c_seq ?_
  refine c_region ?_
  refine st (v := .int .i64 i) (x_move (.tmp rfl rfl)) ?_
  refine st (v := .bool (decide ((1 : Int) ≤ i))) (x_geq (k := .i64) (a := i) (b := 1) (.tmp rfl rfl) .const) ?_
  refine st (v := .bool (decide ((1 : Int) ≤ i))) (x_move (.tmp rfl rfl)) ?_
  rcases Bool.eq_false_or_eq_true (decide ((1 : Int) ≤ i)) with hc1 | hc1
  · have hp1 : (1 : Int) ≤ i := of_decide_eq_true hc1
    refine g_yes (yl (dj := 7) (b := true) rfl rfl (congrArg Value.bool hc1)) ?_
    refine st (v := .int .i64 i) (x_move (.tmp rfl rfl)) ?_
    refine g_yes (yl (dj := 7) (b := true) rfl rfl (congrArg Value.bool hc1)) ?_
    refine st (v := .bool (decide ((i : Int) ≤ 16))) (x_leq (k := .i64) (a := i) (b := 16) (.tmp rfl rfl) .const) ?_
    refine st (v := .bool (decide ((i : Int) ≤ 16))) (x_pick_t (.tmp rfl (congrArg Value.bool hc1)) (.tmp rfl rfl)) ?_
    refine st (v := .bool (decide ((i : Int) ≤ 16))) (x_move (.tmp rfl rfl)) ?_
    rcases Bool.eq_false_or_eq_true (decide ((i : Int) ≤ 16)) with hc2 | hc2
    · have hp2 : (i : Int) ≤ 16 := of_decide_eq_true hc2
      refine g_yes (yl (dj := 11) (b := true) rfl rfl (congrArg Value.bool hc2)) ?_
      refine st (v := .int .u16 ((s : Nat) : Int)) (x_move (.tmp rfl rfl)) ?_
      refine g_yes (yl (dj := 11) (b := true) rfl rfl (congrArg Value.bool hc2)) ?_
      have hpl := pc_le 16 s
      have hct : cnt s = pc 16 s := rfl
      refine st_c cb10 .func (evs1 (.tmp rfl rfl)) (count_spec hs s b_s) ?_
      rintro e w3 ⟨rfl, hs4⟩
      refine ⟨_, rfl, ?_⟩
      refine g_yes (yl (dj := 11) (b := true) rfl rfl (congrArg Value.bool hc2)) ?_
      refine st (v := .int .i64 (2 * ((cnt s : Nat) : Int))) (x_mul (k := .i64) (a := 2) (b := ((cnt s : Nat) : Int)) .const (.tmp rfl rfl) (w64 (by omega) (by omega))) ?_
      refine g_yes (yl (dj := 11) (b := true) rfl rfl (congrArg Value.bool hc2)) ?_
      refine st (v := .int .i64 i) (x_move (.tmp rfl rfl)) ?_
      refine g_yes (yl (dj := 11) (b := true) rfl rfl (congrArg Value.bool hc2)) ?_
      refine st (v := .bool (decide ((i : Int) < (2 * ((cnt s : Nat) : Int))))) (x_gtr (k := .i64) (a := (2 * ((cnt s : Nat) : Int))) (b := i) (.tmp rfl rfl) (.tmp rfl rfl)) ?_
      refine st (v := .bool (decide ((i : Int) < (2 * ((cnt s : Nat) : Int))))) (x_pick_t (.tmp rfl (congrArg Value.bool hc2)) (.tmp rfl rfl)) ?_
      refine st (v := .bool (decide ((i : Int) < (2 * ((cnt s : Nat) : Int))))) (x_assign (.tmp rfl rfl)) ?_
      refine c_nil ?_
      refine n_then ?_
      refine c_ret ?_
      refine leave_ret (res_one (v := .bool (decide ((i : Int) < (2 * ((cnt s : Nat) : Int))))) rfl (.mk rfl rfl)) ?_
      exact ⟨congrArg (fun b => Ending.returned (.bool b)) (most_yes (by omega) (by omega)), hs4⟩
    · have hp2 : ¬ ((i : Int) ≤ 16) := of_decide_eq_false hc2
      refine g_no (yl (dj := 11) (b := false) rfl rfl (congrArg Value.bool hc2)) rfl ?_
      refine g_no (yl (dj := 11) (b := false) rfl rfl (congrArg Value.bool hc2)) rfl ?_
      refine g_no (yl (dj := 11) (b := false) rfl rfl (congrArg Value.bool hc2)) rfl ?_
      refine g_no (yl (dj := 11) (b := false) rfl rfl (congrArg Value.bool hc2)) rfl ?_
      refine g_no (yl (dj := 11) (b := false) rfl rfl (congrArg Value.bool hc2)) rfl ?_
      refine st (v := .bool false) (x_pick_f (.tmp rfl (congrArg Value.bool hc2)) .const) ?_
      refine st (v := .bool false) (x_assign (.tmp rfl rfl)) ?_
      refine c_nil ?_
      refine n_then ?_
      refine c_ret ?_
      refine leave_ret (res_one (v := .bool false) rfl (.mk rfl rfl)) ?_
      exact ⟨congrArg (fun b => Ending.returned (.bool b)) (most_no (by omega)), hs⟩
  · have hp1 : ¬ ((1 : Int) ≤ i) := of_decide_eq_false hc1
    refine g_no (yl (dj := 7) (b := false) rfl rfl (congrArg Value.bool hc1)) rfl ?_
    refine g_no (yl (dj := 7) (b := false) rfl rfl (congrArg Value.bool hc1)) rfl ?_
    refine st (v := .bool false) (x_pick_f (.tmp rfl (congrArg Value.bool hc1)) .const) ?_
    refine st (v := .bool false) (x_move (.tmp rfl rfl)) ?_
    refine g_no (yl (dj := 11) (b := false) rfl rfl rfl) rfl ?_
    refine g_no (yl (dj := 11) (b := false) rfl rfl rfl) rfl ?_
    refine g_no (yl (dj := 11) (b := false) rfl rfl rfl) rfl ?_
    refine g_no (yl (dj := 11) (b := false) rfl rfl rfl) rfl ?_
    refine g_no (yl (dj := 11) (b := false) rfl rfl rfl) rfl ?_
    refine st (v := .bool false) (x_pick_f (.tmp rfl rfl) .const) ?_
    refine st (v := .bool false) (x_assign (.tmp rfl rfl)) ?_
    refine c_nil ?_
    refine n_then ?_
    refine c_ret ?_
    refine leave_ret (res_one (v := .bool false) rfl (.mk rfl rfl)) ?_
    exact ⟨congrArg (fun b => Ending.returned (.bool b)) (most_no (by omega)), hs⟩

set_option maxHeartbeats 8000000 in
theorem has_spec {H : Hp} {w : World} {L : List Res} (hs : St H w L) (s : Nat) (i : Int) (b_s : s < 65536) (b_i : -9223372036854775808 ≤ i ∧ i ≤ 9223372036854775807) : Calls Tryd.prog 16 #[.int .u16 ((s : Nat) : Int), .int .i64 i] w (fun e w' => e = .returned (.bool (has s i)) ∧ St H w' L) := by
  refine enter (args := [.int .u16 ((s : Nat) : Int), .int .i64 i]) (N := 18) Tryd.func16 rfl rfl rfl ?_
  refine c_seq ?_
  refine c_region ?_
  refine st (v := .bool false) (x_assign .const) ?_
  refine c_nil ?_
  refine n_then ?_
  refine c_seq ?_
  refine c_region ?_
  refine st (v := .int .i64 i) (x_move (.tmp rfl rfl)) ?_
  refine st (v := .bool (decide ((0 : Int) ≤ i))) (x_geq (k := .i64) (a := i) (b := 0) (.tmp rfl rfl) .const) ?_
  refine st (v := .bool (decide ((0 : Int) ≤ i))) (x_move (.tmp rfl rfl)) ?_
  rcases Bool.eq_false_or_eq_true (decide ((0 : Int) ≤ i)) with hc1 | hc1
  · have hp1 : (0 : Int) ≤ i := of_decide_eq_true hc1
    refine g_yes (yl (dj := 7) (b := true) rfl rfl (congrArg Value.bool hc1)) ?_
    refine st (v := .int .i64 i) (x_move (.tmp rfl rfl)) ?_
    refine g_yes (yl (dj := 7) (b := true) rfl rfl (congrArg Value.bool hc1)) ?_
    refine st (v := .bool (decide ((i : Int) < 16))) (x_lss (k := .i64) (a := i) (b := 16) (.tmp rfl rfl) .const) ?_
    refine st (v := .bool (decide ((i : Int) < 16))) (x_pick_t (.tmp rfl (congrArg Value.bool hc1)) (.tmp rfl rfl)) ?_
    refine st (v := .bool (decide ((i : Int) < 16))) (x_move (.tmp rfl rfl)) ?_
    rcases Bool.eq_false_or_eq_true (decide ((i : Int) < 16)) with hc2 | hc2
    · have hp2 : (i : Int) < 16 := of_decide_eq_true hc2
      refine g_yes (yl (dj := 11) (b := true) rfl rfl (congrArg Value.bool hc2)) ?_
      refine st (v := .int .u16 ((s : Nat) : Int)) (x_move (.tmp rfl rfl)) ?_
      refine g_yes (yl (dj := 11) (b := true) rfl rfl (congrArg Value.bool hc2)) ?_
      refine st (v := .int .i64 i) (x_move (.tmp rfl rfl)) ?_
      refine g_yes (yl (dj := 11) (b := true) rfl rfl (congrArg Value.bool hc2)) ?_
      have hb3 : (s / 2 ^ i.toNat) < 65536 := Nat.lt_of_le_of_lt (Nat.div_le_self _ _) b_s
      refine st (v := .int .u16 (((s / 2 ^ i.toNat) : Nat) : Int)) (x_shr (k := .u16) (m := s) (b := i) rfl (.tmp rfl rfl) (.tmp rfl rfl) (by omega) (show _ < 2 ^ 16 from b_s)) ?_
      refine g_yes (yl (dj := 11) (b := true) rfl rfl (congrArg Value.bool hc2)) ?_
      have hb4 : ((s / 2 ^ i.toNat) &&& 1) < 65536 := Nat.lt_of_le_of_lt Nat.and_le_left hb3
      refine st (v := .int .u16 ((((s / 2 ^ i.toNat) &&& 1) : Nat) : Int)) (x_and (k := .u16) (m := (s / 2 ^ i.toNat)) (n := 1) rfl (.tmp rfl rfl) .const (show _ < 2 ^ 16 from hb3) (show _ < 2 ^ 16 from (by decide))) ?_
      refine g_yes (yl (dj := 11) (b := true) rfl rfl (congrArg Value.bool hc2)) ?_
      refine st (v := .bool (decide ((((((s / 2 ^ i.toNat) &&& 1) : Nat) : Int) : Int) = 1))) (x_eql (k := .u16) (a := ((((s / 2 ^ i.toNat) &&& 1) : Nat) : Int)) (b := 1) (.tmp rfl rfl) .const) ?_
      refine st (v := .bool (decide ((((((s / 2 ^ i.toNat) &&& 1) : Nat) : Int) : Int) = 1))) (x_pick_t (.tmp rfl (congrArg Value.bool hc2)) (.tmp rfl rfl)) ?_
      refine st (v := .bool (decide ((((((s / 2 ^ i.toNat) &&& 1) : Nat) : Int) : Int) = 1))) (x_assign (.tmp rfl rfl)) ?_
      refine c_nil ?_
      refine n_then ?_
      refine c_ret ?_
      refine leave_ret (res_one (v := .bool (decide ((((((s / 2 ^ i.toNat) &&& 1) : Nat) : Int) : Int) = 1))) rfl (.mk rfl rfl)) ?_
      exact ⟨congrArg (fun b => Ending.returned (.bool b)) (has_yes (by omega) (by omega)), hs⟩
    · have hp2 : ¬ ((i : Int) < 16) := of_decide_eq_false hc2
      refine g_no (yl (dj := 11) (b := false) rfl rfl (congrArg Value.bool hc2)) rfl ?_
      refine g_no (yl (dj := 11) (b := false) rfl rfl (congrArg Value.bool hc2)) rfl ?_
      refine g_no (yl (dj := 11) (b := false) rfl rfl (congrArg Value.bool hc2)) rfl ?_
      refine g_no (yl (dj := 11) (b := false) rfl rfl (congrArg Value.bool hc2)) rfl ?_
      refine g_no (yl (dj := 11) (b := false) rfl rfl (congrArg Value.bool hc2)) rfl ?_
      refine st (v := .bool false) (x_pick_f (.tmp rfl (congrArg Value.bool hc2)) .const) ?_
      refine st (v := .bool false) (x_assign (.tmp rfl rfl)) ?_
      refine c_nil ?_
      refine n_then ?_
      refine c_ret ?_
      refine leave_ret (res_one (v := .bool false) rfl (.mk rfl rfl)) ?_
      exact ⟨congrArg (fun b => Ending.returned (.bool b)) (has_no (by omega)), hs⟩
  · have hp1 : ¬ ((0 : Int) ≤ i) := of_decide_eq_false hc1
    refine g_no (yl (dj := 7) (b := false) rfl rfl (congrArg Value.bool hc1)) rfl ?_
    refine g_no (yl (dj := 7) (b := false) rfl rfl (congrArg Value.bool hc1)) rfl ?_
    refine st (v := .bool false) (x_pick_f (.tmp rfl (congrArg Value.bool hc1)) .const) ?_
    refine st (v := .bool false) (x_move (.tmp rfl rfl)) ?_
    refine g_no (yl (dj := 11) (b := false) rfl rfl rfl) rfl ?_
    refine g_no (yl (dj := 11) (b := false) rfl rfl rfl) rfl ?_
    refine g_no (yl (dj := 11) (b := false) rfl rfl rfl) rfl ?_
    refine g_no (yl (dj := 11) (b := false) rfl rfl rfl) rfl ?_
    refine g_no (yl (dj := 11) (b := false) rfl rfl rfl) rfl ?_
    refine st (v := .bool false) (x_pick_f (.tmp rfl rfl) .const) ?_
    refine st (v := .bool false) (x_assign (.tmp rfl rfl)) ?_
    refine c_nil ?_
    refine n_then ?_
    refine c_ret ?_
    refine leave_ret (res_one (v := .bool false) rfl (.mk rfl rfl)) ?_
    exact ⟨congrArg (fun b => Ending.returned (.bool b)) (has_no (by omega)), hs⟩

set_option maxHeartbeats 8000000 in
theorem with_spec {H : Hp} {w : World} {L : List Res} (hs : St H w L) (s : Nat) (i : Int) (b_s : s < 65536) (b_i : -9223372036854775808 ≤ i ∧ i ≤ 9223372036854775807) : Calls Tryd.prog 12 #[.int .u16 ((s : Nat) : Int), .int .i64 i] w (fun e w' => e = .returned (.int .u16 ((wth s i : Nat) : Int)) ∧ St H w' L) := by
  refine enter (args := [.int .u16 ((s : Nat) : Int), .int .i64 i]) (N := 16) Tryd.func12 rfl rfl rfl ?_
  refine c_seq ?_
  refine c_region ?_
  refine st (v := .int .u16 0) (x_assign .const) ?_
  refine c_nil ?_
  refine n_then ?_
  refine c_seq ?_
  refine c_seq ?_
  refine c_region ?_
  refine st (v := .int .i64 i) (x_move (.tmp rfl rfl)) ?_
  refine st (v := .bool (decide ((0 : Int) ≤ i))) (x_geq (k := .i64) (a := i) (b := 0) (.tmp rfl rfl) .const) ?_
  refine st (v := .bool (decide ((0 : Int) ≤ i))) (x_move (.tmp rfl rfl)) ?_
  rcases Bool.eq_false_or_eq_true (decide ((0 : Int) ≤ i)) with hc1 | hc1
  · have hp1 : (0 : Int) ≤ i := of_decide_eq_true hc1
    refine g_yes (yl (dj := 7) (b := true) rfl rfl (congrArg Value.bool hc1)) ?_
    refine st (v := .int .i64 i) (x_move (.tmp rfl rfl)) ?_
    refine g_yes (yl (dj := 7) (b := true) rfl rfl (congrArg Value.bool hc1)) ?_
    refine st (v := .bool (decide ((i : Int) < 16))) (x_lss (k := .i64) (a := i) (b := 16) (.tmp rfl rfl) .const) ?_
    refine st (v := .bool (decide ((i : Int) < 16))) (x_pick_t (.tmp rfl (congrArg Value.bool hc1)) (.tmp rfl rfl)) ?_
    refine c_nil ?_
    refine n_then ?_
    rcases Bool.eq_false_or_eq_true (decide ((i : Int) < 16)) with hc2 | hc2
    · have hp2 : (i : Int) < 16 := of_decide_eq_true hc2
      refine c_cond_t (t := true) (.tmp rfl (congrArg Value.bool hc2)) rfl ?_
      refine c_region ?_
      refine st (v := .int .u16 ((s : Nat) : Int)) (x_move (.tmp rfl rfl)) ?_
      refine st (v := .int .i64 i) (x_move (.tmp rfl rfl)) ?_
      have hb3 : (1 * 2 ^ i.toNat % 65536) < 65536 := Nat.mod_lt _ (by decide)
      refine st (v := .int .u16 (((1 * 2 ^ i.toNat % 65536) : Nat) : Int)) (x_shl (k := .u16) (m := 1) (b := i) rfl .const (.tmp rfl rfl) (by omega)) ?_
      have hb4 : (s ||| (1 * 2 ^ i.toNat % 65536)) < 65536 := Nat.or_lt_two_pow (n := 16) b_s hb3
      refine st (v := .int .u16 (((s ||| (1 * 2 ^ i.toNat % 65536)) : Nat) : Int)) (x_or (k := .u16) (m := s) (n := (1 * 2 ^ i.toNat % 65536)) rfl (.tmp rfl rfl) (.tmp rfl rfl) (show _ < 2 ^ 16 from b_s) (show _ < 2 ^ 16 from hb3)) ?_
      refine st (v := .int .u16 (((s ||| (1 * 2 ^ i.toNat % 65536)) : Nat) : Int)) (x_assign (.tmp rfl rfl)) ?_
      refine c_nil ?_
      refine n_then ?_
      refine c_seq ?_
      refine c_region ?_
      refine st (v := .int .u16 (((s ||| (1 * 2 ^ i.toNat % 65536)) : Nat) : Int)) (x_move (.tmp rfl rfl)) ?_
      refine st (v := .int .u16 (((s ||| (1 * 2 ^ i.toNat % 65536)) : Nat) : Int)) (x_assign (.tmp rfl rfl)) ?_
      refine c_nil ?_
      refine n_then ?_
      refine c_ret ?_
      refine leave_ret (res_one (v := .int .u16 (((s ||| (1 * 2 ^ i.toNat % 65536)) : Nat) : Int)) rfl (.mk rfl rfl)) ?_
      exact ⟨by simp only [wth]; first | (rw [if_neg (by omega)]) | (rw [if_pos (by omega), Nat.one_mul, Nat.mod_eq_of_lt (bit_lt (by omega))]), hs⟩
    · have hp2 : ¬ ((i : Int) < 16) := of_decide_eq_false hc2
      refine c_cond_f (t := false) (.tmp rfl (congrArg Value.bool hc2)) rfl ?_
      refine c_skip ?_
      refine n_then ?_
      refine c_seq ?_
      refine c_region ?_
      refine st (v := .int .u16 ((s : Nat) : Int)) (x_move (.tmp rfl rfl)) ?_
      refine st (v := .int .u16 ((s : Nat) : Int)) (x_assign (.tmp rfl rfl)) ?_
      refine c_nil ?_
      refine n_then ?_
      refine c_ret ?_
      refine leave_ret (res_one (v := .int .u16 ((s : Nat) : Int)) rfl (.mk rfl rfl)) ?_
      exact ⟨by simp only [wth]; first | (rw [if_neg (by omega)]) | (rw [if_pos (by omega), Nat.one_mul, Nat.mod_eq_of_lt (bit_lt (by omega))]), hs⟩
  · have hp1 : ¬ ((0 : Int) ≤ i) := of_decide_eq_false hc1
    refine g_no (yl (dj := 7) (b := false) rfl rfl (congrArg Value.bool hc1)) rfl ?_
    refine g_no (yl (dj := 7) (b := false) rfl rfl (congrArg Value.bool hc1)) rfl ?_
    refine st (v := .bool false) (x_pick_f (.tmp rfl (congrArg Value.bool hc1)) .const) ?_
    refine c_nil ?_
    refine n_then ?_
    refine c_cond_f (t := false) (.tmp rfl rfl) rfl ?_
    refine c_skip ?_
    refine n_then ?_
    refine c_seq ?_
    refine c_region ?_
    refine st (v := .int .u16 ((s : Nat) : Int)) (x_move (.tmp rfl rfl)) ?_
    refine st (v := .int .u16 ((s : Nat) : Int)) (x_assign (.tmp rfl rfl)) ?_
    refine c_nil ?_
    refine n_then ?_
    refine c_ret ?_
    refine leave_ret (res_one (v := .int .u16 ((s : Nat) : Int)) rfl (.mk rfl rfl)) ?_
    exact ⟨by simp only [wth]; first | (rw [if_neg (by omega)]) | (rw [if_pos (by omega), Nat.one_mul, Nat.mod_eq_of_lt (bit_lt (by omega))]), hs⟩

set_option maxHeartbeats 8000000 in
theorem without_spec {H : Hp} {w : World} {L : List Res} (hs : St H w L) (s : Nat) (i : Int) (b_s : s < 65536) (b_i : -9223372036854775808 ≤ i ∧ i ≤ 9223372036854775807) : Calls Tryd.prog 13 #[.int .u16 ((s : Nat) : Int), .int .i64 i] w (fun e w' => e = .returned (.int .u16 ((wto s i : Nat) : Int)) ∧ St H w' L) := by
  refine enter (args := [.int .u16 ((s : Nat) : Int), .int .i64 i]) (N := 16) Tryd.func13 rfl rfl rfl ?_
  refine c_seq ?_
  refine c_region ?_
  refine st (v := .int .u16 0) (x_assign .const) ?_
  refine c_nil ?_
  refine n_then ?_
  refine c_seq ?_
  refine c_seq ?_
  refine c_region ?_
  refine st (v := .int .i64 i) (x_move (.tmp rfl rfl)) ?_
  refine st (v := .bool (decide ((0 : Int) ≤ i))) (x_geq (k := .i64) (a := i) (b := 0) (.tmp rfl rfl) .const) ?_
  refine st (v := .bool (decide ((0 : Int) ≤ i))) (x_move (.tmp rfl rfl)) ?_
  rcases Bool.eq_false_or_eq_true (decide ((0 : Int) ≤ i)) with hc1 | hc1
  · have hp1 : (0 : Int) ≤ i := of_decide_eq_true hc1
    refine g_yes (yl (dj := 7) (b := true) rfl rfl (congrArg Value.bool hc1)) ?_
    refine st (v := .int .i64 i) (x_move (.tmp rfl rfl)) ?_
    refine g_yes (yl (dj := 7) (b := true) rfl rfl (congrArg Value.bool hc1)) ?_
    refine st (v := .bool (decide ((i : Int) < 16))) (x_lss (k := .i64) (a := i) (b := 16) (.tmp rfl rfl) .const) ?_
    refine st (v := .bool (decide ((i : Int) < 16))) (x_pick_t (.tmp rfl (congrArg Value.bool hc1)) (.tmp rfl rfl)) ?_
    refine c_nil ?_
    refine n_then ?_
    rcases Bool.eq_false_or_eq_true (decide ((i : Int) < 16)) with hc2 | hc2
    · have hp2 : (i : Int) < 16 := of_decide_eq_true hc2
      refine c_cond_t (t := true) (.tmp rfl (congrArg Value.bool hc2)) rfl ?_
      refine c_region ?_
      refine st (v := .int .u16 ((s : Nat) : Int)) (x_move (.tmp rfl rfl)) ?_
      refine st (v := .int .i64 i) (x_move (.tmp rfl rfl)) ?_
      have hb3 : (1 * 2 ^ i.toNat % 65536) < 65536 := Nat.mod_lt _ (by decide)
      refine st (v := .int .u16 (((1 * 2 ^ i.toNat % 65536) : Nat) : Int)) (x_shl (k := .u16) (m := 1) (b := i) rfl .const (.tmp rfl rfl) (by omega)) ?_
      have hb4 : (s &&& (65535 - (1 * 2 ^ i.toNat % 65536))) < 65536 := Nat.lt_of_le_of_lt Nat.and_le_left b_s
      refine st (v := .int .u16 (((s &&& (65535 - (1 * 2 ^ i.toNat % 65536))) : Nat) : Int)) (x_andNot (k := .u16) (m := s) (n := (1 * 2 ^ i.toNat % 65536)) rfl (.tmp rfl rfl) (.tmp rfl rfl) (show _ < 2 ^ 16 from b_s) (show _ < 2 ^ 16 from hb3)) ?_
      refine st (v := .int .u16 (((s &&& (65535 - (1 * 2 ^ i.toNat % 65536))) : Nat) : Int)) (x_assign (.tmp rfl rfl)) ?_
      refine c_nil ?_
      refine n_then ?_
      refine c_seq ?_
      refine c_region ?_
      refine st (v := .int .u16 (((s &&& (65535 - (1 * 2 ^ i.toNat % 65536))) : Nat) : Int)) (x_move (.tmp rfl rfl)) ?_
      refine st (v := .int .u16 (((s &&& (65535 - (1 * 2 ^ i.toNat % 65536))) : Nat) : Int)) (x_assign (.tmp rfl rfl)) ?_
      refine c_nil ?_
      refine n_then ?_
      refine c_ret ?_
      refine leave_ret (res_one (v := .int .u16 (((s &&& (65535 - (1 * 2 ^ i.toNat % 65536))) : Nat) : Int)) rfl (.mk rfl rfl)) ?_
      exact ⟨by simp only [wto]; first | (rw [if_neg (by omega)]) | (rw [if_pos (by omega), Nat.one_mul, Nat.mod_eq_of_lt (bit_lt (by omega))]), hs⟩
    · have hp2 : ¬ ((i : Int) < 16) := of_decide_eq_false hc2
      refine c_cond_f (t := false) (.tmp rfl (congrArg Value.bool hc2)) rfl ?_
      refine c_skip ?_
      refine n_then ?_
      refine c_seq ?_
      refine c_region ?_
      refine st (v := .int .u16 ((s : Nat) : Int)) (x_move (.tmp rfl rfl)) ?_
      refine st (v := .int .u16 ((s : Nat) : Int)) (x_assign (.tmp rfl rfl)) ?_
      refine c_nil ?_
      refine n_then ?_
      refine c_ret ?_
      refine leave_ret (res_one (v := .int .u16 ((s : Nat) : Int)) rfl (.mk rfl rfl)) ?_
      exact ⟨by simp only [wto]; first | (rw [if_neg (by omega)]) | (rw [if_pos (by omega), Nat.one_mul, Nat.mod_eq_of_lt (bit_lt (by omega))]), hs⟩
  · have hp1 : ¬ ((0 : Int) ≤ i) := of_decide_eq_false hc1
    refine g_no (yl (dj := 7) (b := false) rfl rfl (congrArg Value.bool hc1)) rfl ?_
    refine g_no (yl (dj := 7) (b := false) rfl rfl (congrArg Value.bool hc1)) rfl ?_
    refine st (v := .bool false) (x_pick_f (.tmp rfl (congrArg Value.bool hc1)) .const) ?_
    refine c_nil ?_
    refine n_then ?_
    refine c_cond_f (t := false) (.tmp rfl rfl) rfl ?_
    refine c_skip ?_
    refine n_then ?_
    refine c_seq ?_
    refine c_region ?_
    refine st (v := .int .u16 ((s : Nat) : Int)) (x_move (.tmp rfl rfl)) ?_
    refine st (v := .int .u16 ((s : Nat) : Int)) (x_assign (.tmp rfl rfl)) ?_
    refine c_nil ?_
    refine n_then ?_
    refine c_ret ?_
    refine leave_ret (res_one (v := .int .u16 ((s : Nat) : Int)) rfl (.mk rfl rfl)) ?_
    exact ⟨by simp only [wto]; first | (rw [if_neg (by omega)]) | (rw [if_pos (by omega), Nat.one_mul, Nat.mod_eq_of_lt (bit_lt (by omega))]), hs⟩

set_option maxHeartbeats 8000000 in
theorem bit_spec {H : Hp} {w : World} {L : List Res} (hs : St H w L) (i : Int) (h0 : 0 ≤ i) (h1 : i < 16) : Calls Tryd.prog 27 #[.int .i64 i] w (fun e w' => e = .returned (.int .u16 ((2 ^ i.toNat : Nat) : Int)) ∧ St H w' L) := by
  refine enter (args := [.int .i64 i]) (N := 13) Tryd.func27 rfl rfl rfl ?_
  refine c_seq ?_
  refine c_region ?_
  refine st (v := .int .u16 0) (x_assign .const) ?_
  refine c_nil ?_
  refine n_then ?_
  refine c_seq ?_
  refine c_region ?_
  refine st (v := .int .u16 1) (x_assign .const) ?_
  refine c_nil ?_
  refine n_then ?_
  refine c_seq ?_
  refine c_seq ?_
  refine c_region ?_
  refine st (v := .int .i64 0) (x_assign .const) ?_
  refine c_nil ?_
  refine n_then ?_
  refine c_block ?_
  refine c_loop (fun ρ w k => ∃ (j : Nat), ρ 0 = .int .i64 i ∧ ρ 3 = .int .u16 (((2 ^ j) : Nat) : Int) ∧ ρ 4 = .int .i64 ((j : Nat) : Int) ∧ ((j : Int) ≤ i) ∧ St H w (L) ∧ k = i.toNat - j) _ ⟨0, rfl, rfl, rfl, (by omega), hs, rfl⟩ ?_
  rintro ρ w k ⟨j, hρ2, hρ3, hρ4, hj, hs5, rfl⟩
  refine c_seq ?_
  refine c_seq ?_
  refine c_region ?_
  refine st (v := .int .i64 ((j : Nat) : Int)) (x_move (.tmp rfl hρ4)) ?_
  refine st (v := .int .i64 i) (x_move (.tmp rfl hρ2)) ?_
  refine st (v := .bool (decide ((((j : Nat) : Int) : Int) < i))) (x_lss (k := .i64) (a := ((j : Nat) : Int)) (b := i) (.tmp rfl rfl) (.tmp rfl rfl)) ?_
  refine c_nil ?_
  refine n_then ?_
  rcases Bool.eq_false_or_eq_true (decide ((((j : Nat) : Int) : Int) < i)) with hc6 | hc6
  · have hp6 : (((j : Nat) : Int) : Int) < i := of_decide_eq_true hc6
    refine c_cond_t (t := true) (.tmp rfl (congrArg Value.bool hc6)) rfl ?_
    refine c_skip ?_
    refine n_then ?_
    refine c_seq ?_
    refine c_block ?_
    refine c_region ?_
    refine st (v := .int .u16 (((2 ^ j) : Nat) : Int)) (x_move (.tmp rfl hρ3)) ?_
    refine st (v := .int .u16 (((((2 ^ j) * 2) % 65536) : Nat) : Int)) (x_mul (k := .u16) (a := (((2 ^ j) : Nat) : Int)) (b := 2) (.tmp rfl rfl) .const (wMulN (m := (2 ^ j)) (n := 2) _ rfl rfl rfl)) ?_
    refine st (v := .int .u16 (((((2 ^ j) * 2) % 65536) : Nat) : Int)) (x_assign (.tmp rfl rfl)) ?_
    refine c_nil ?_
    refine n_block ?_
    refine n_then ?_
    refine c_region ?_
    refine st (v := .int .i64 ((j : Nat) : Int)) (x_move (.tmp rfl hρ4)) ?_
    refine st (v := .int .i64 (((j : Nat) : Int) + 1)) (x_add (k := .i64) (a := ((j : Nat) : Int)) (b := 1) (.tmp rfl rfl) .const (w64 (by omega) (by omega))) ?_
    refine st (v := .int .i64 (((j : Nat) : Int) + 1)) (x_assign (.tmp rfl rfl)) ?_
    refine c_nil ?_
    refine n_then ⟨_, _, rfl, ?_, j + 1, hρ2, (congrArg (fun z : Nat => Value.int .u16 (z : Int)) (pow_next (by omega))), rfl, (by omega), hs5, rfl⟩
    omega
  · have hp6 : ¬ ((((j : Nat) : Int) : Int) < i) := of_decide_eq_false hc6
    refine c_cond_f (t := false) (.tmp rfl (congrArg Value.bool hc6)) rfl ?_
    refine c_exit ?_
    refine x_then ?_
    refine x_then ?_
    refine x_here ?_
    refine n_then ?_
    refine c_seq ?_
    refine c_region ?_
    refine st (v := .int .u16 (((2 ^ j) : Nat) : Int)) (x_move (.tmp rfl hρ3)) ?_
    refine st (v := .int .u16 (((2 ^ j) : Nat) : Int)) (x_assign (.tmp rfl rfl)) ?_
    refine c_nil ?_
    refine n_then ?_
    refine c_ret ?_
    refine leave_ret (res_one (v := .int .u16 (((2 ^ j) : Nat) : Int)) rfl (.mk rfl rfl)) ?_
    exact ⟨by rw [show i.toNat = j by omega], hs5⟩

set_option maxHeartbeats 8000000 in
theorem rhas_spec {H : Hp} {w : World} {L : List Res} (hs : St H w L) (s : Nat) (i : Int) (b_s : s < 65536) (b_i : -9223372036854775808 ≤ i ∧ i ≤ 9223372036854775807) : Calls Tryd.prog 17 #[.int .u16 ((s : Nat) : Int), .int .i64 i] w (fun e w' => e = .returned (.bool (has s i)) ∧ St H w' L) := by
  refine enter (args := [.int .u16 ((s : Nat) : Int), .int .i64 i]) (N := 19) Tryd.func17 rfl rfl rfl ?_
  refine c_seq ?_
  refine c_region ?_
  refine st (v := .bool false) (x_assign .const) ?_
  refine c_nil ?_
  refine n_then ?_
  refine c_seq ?_
  refine c_region ?_
  refine st (v := .int .i64 i) (x_move (.tmp rfl rfl)) ?_
  refine st (v := .bool (decide ((0 : Int) ≤ i))) (x_geq (k := .i64) (a := i) (b := 0) (.tmp rfl rfl) .const) ?_
  refine st (v := .bool (decide ((0 : Int) ≤ i))) (x_move (.tmp rfl rfl)) ?_
  rcases Bool.eq_false_or_eq_true (decide ((0 : Int) ≤ i)) with hc1 | hc1
  · have hp1 : (0 : Int) ≤ i := of_decide_eq_true hc1
    refine g_yes (yl (dj := 7) (b := true) rfl rfl (congrArg Value.bool hc1)) ?_
    refine st (v := .int .i64 i) (x_move (.tmp rfl rfl)) ?_
    refine g_yes (yl (dj := 7) (b := true) rfl rfl (congrArg Value.bool hc1)) ?_
    refine st (v := .bool (decide ((i : Int) < 16))) (x_lss (k := .i64) (a := i) (b := 16) (.tmp rfl rfl) .const) ?_
    refine st (v := .bool (decide ((i : Int) < 16))) (x_pick_t (.tmp rfl (congrArg Value.bool hc1)) (.tmp rfl rfl)) ?_
    refine st (v := .bool (decide ((i : Int) < 16))) (x_move (.tmp rfl rfl)) ?_
    rcases Bool.eq_false_or_eq_true (decide ((i : Int) < 16)) with hc2 | hc2
    · have hp2 : (i : Int) < 16 := of_decide_eq_true hc2
      refine g_yes (yl (dj := 11) (b := true) rfl rfl (congrArg Value.bool hc2)) ?_
      refine st (v := .int .u16 ((s : Nat) : Int)) (x_move (.tmp rfl rfl)) ?_
      refine g_yes (yl (dj := 11) (b := true) rfl rfl (congrArg Value.bool hc2)) ?_
      refine st (v := .int .i64 i) (x_move (.tmp rfl rfl)) ?_
      refine g_yes (yl (dj := 11) (b := true) rfl rfl (congrArg Value.bool hc2)) ?_
      have hbp := Nat.two_pow_pos i.toNat
      refine st_c cb27 .func (evs1 (.tmp rfl rfl)) (bit_spec hs i (by omega) (by omega)) ?_
      rintro e w3 ⟨rfl, hs4⟩
      refine ⟨_, rfl, ?_⟩
      refine g_yes (yl (dj := 11) (b := true) rfl rfl (congrArg Value.bool hc2)) ?_
      refine st (v := .int .u16 (((s / (2 ^ i.toNat)) : Nat) : Int)) (x_quoN (k := .u16) (m := s) (n := (2 ^ i.toNat)) (.tmp rfl rfl) (.tmp rfl rfl) (by omega) (.inr ⟨rfl, show _ < 2 ^ 16 from b_s⟩)) ?_
      refine g_yes (yl (dj := 11) (b := true) rfl rfl (congrArg Value.bool hc2)) ?_
      refine st (v := .int .u16 ((((s / (2 ^ i.toNat)) % 2) : Nat) : Int)) (x_remN (k := .u16) (m := (s / (2 ^ i.toNat))) (n := 2) (.tmp rfl rfl) .const (by omega)) ?_
      refine g_yes (yl (dj := 11) (b := true) rfl rfl (congrArg Value.bool hc2)) ?_
      refine st (v := .bool (decide ((((((s / (2 ^ i.toNat)) % 2) : Nat) : Int) : Int) = 1))) (x_eql (k := .u16) (a := ((((s / (2 ^ i.toNat)) % 2) : Nat) : Int)) (b := 1) (.tmp rfl rfl) .const) ?_
      refine st (v := .bool (decide ((((((s / (2 ^ i.toNat)) % 2) : Nat) : Int) : Int) = 1))) (x_pick_t (.tmp rfl (congrArg Value.bool hc2)) (.tmp rfl rfl)) ?_
      refine st (v := .bool (decide ((((((s / (2 ^ i.toNat)) % 2) : Nat) : Int) : Int) = 1))) (x_assign (.tmp rfl rfl)) ?_
      refine c_nil ?_
      refine n_then ?_
      refine c_ret ?_
      refine leave_ret (res_one (v := .bool (decide ((((((s / (2 ^ i.toNat)) % 2) : Nat) : Int) : Int) = 1))) rfl (.mk rfl rfl)) ?_
      exact ⟨congrArg (fun b => Ending.returned (.bool b)) (has_yes' (by omega) (by omega)), hs4⟩
    · have hp2 : ¬ ((i : Int) < 16) := of_decide_eq_false hc2
      refine g_no (yl (dj := 11) (b := false) rfl rfl (congrArg Value.bool hc2)) rfl ?_
      refine g_no (yl (dj := 11) (b := false) rfl rfl (congrArg Value.bool hc2)) rfl ?_
      refine g_no (yl (dj := 11) (b := false) rfl rfl (congrArg Value.bool hc2)) rfl ?_
      refine g_no (yl (dj := 11) (b := false) rfl rfl (congrArg Value.bool hc2)) rfl ?_
      refine g_no (yl (dj := 11) (b := false) rfl rfl (congrArg Value.bool hc2)) rfl ?_
      refine g_no (yl (dj := 11) (b := false) rfl rfl (congrArg Value.bool hc2)) rfl ?_
      refine st (v := .bool false) (x_pick_f (.tmp rfl (congrArg Value.bool hc2)) .const) ?_
      refine st (v := .bool false) (x_assign (.tmp rfl rfl)) ?_
      refine c_nil ?_
      refine n_then ?_
      refine c_ret ?_
      refine leave_ret (res_one (v := .bool false) rfl (.mk rfl rfl)) ?_
      exact ⟨congrArg (fun b => Ending.returned (.bool b)) (has_no (by omega)), hs⟩
  · have hp1 : ¬ ((0 : Int) ≤ i) := of_decide_eq_false hc1
    refine g_no (yl (dj := 7) (b := false) rfl rfl (congrArg Value.bool hc1)) rfl ?_
    refine g_no (yl (dj := 7) (b := false) rfl rfl (congrArg Value.bool hc1)) rfl ?_
    refine st (v := .bool false) (x_pick_f (.tmp rfl (congrArg Value.bool hc1)) .const) ?_
    refine st (v := .bool false) (x_move (.tmp rfl rfl)) ?_
    refine g_no (yl (dj := 11) (b := false) rfl rfl rfl) rfl ?_
    refine g_no (yl (dj := 11) (b := false) rfl rfl rfl) rfl ?_
    refine g_no (yl (dj := 11) (b := false) rfl rfl rfl) rfl ?_
    refine g_no (yl (dj := 11) (b := false) rfl rfl rfl) rfl ?_
    refine g_no (yl (dj := 11) (b := false) rfl rfl rfl) rfl ?_
    refine g_no (yl (dj := 11) (b := false) rfl rfl rfl) rfl ?_
    refine st (v := .bool false) (x_pick_f (.tmp rfl rfl) .const) ?_
    refine st (v := .bool false) (x_assign (.tmp rfl rfl)) ?_
    refine c_nil ?_
    refine n_then ?_
    refine c_ret ?_
    refine leave_ret (res_one (v := .bool false) rfl (.mk rfl rfl)) ?_
    exact ⟨congrArg (fun b => Ending.returned (.bool b)) (has_no (by omega)), hs⟩

set_option maxHeartbeats 8000000 in
theorem rwith_spec {H : Hp} {w : World} {L : List Res} (hs : St H w L) (s : Nat) (i : Int) (b_s : s < 65536) (b_i : -9223372036854775808 ≤ i ∧ i ≤ 9223372036854775807) : Calls Tryd.prog 18 #[.int .u16 ((s : Nat) : Int), .int .i64 i] w (fun e w' => e = .returned (.int .u16 ((wth s i : Nat) : Int)) ∧ St H w' L) := by
  refine enter (args := [.int .u16 ((s : Nat) : Int), .int .i64 i]) (N := 21) Tryd.func18 rfl rfl rfl ?_
  refine c_seq ?_
  refine c_region ?_
  refine st (v := .int .u16 0) (x_assign .const) ?_
  refine c_nil ?_
  refine n_then ?_
  refine c_seq ?_
  refine c_seq ?_
  refine c_region ?_
  refine st (v := .int .i64 i) (x_move (.tmp rfl rfl)) ?_
  refine st (v := .bool (decide ((i : Int) < 0))) (x_lss (k := .i64) (a := i) (b := 0) (.tmp rfl rfl) .const) ?_
  refine st (v := .bool (decide ((i : Int) < 0))) (x_move (.tmp rfl rfl)) ?_
  rcases Bool.eq_false_or_eq_true (decide ((i : Int) < 0)) with hc1 | hc1
  · have hp1 : (i : Int) < 0 := of_decide_eq_true hc1
    refine g_no (yl (dj := 7) (b := true) rfl rfl (congrArg Value.bool hc1)) rfl ?_
    refine g_no (yl (dj := 7) (b := true) rfl rfl (congrArg Value.bool hc1)) rfl ?_
    refine st (v := .bool true) (x_pick_t (.tmp rfl (congrArg Value.bool hc1)) .const) ?_
    refine st (v := .bool true) (x_move (.tmp rfl rfl)) ?_
    refine g_no (yl (dj := 11) (b := true) rfl rfl rfl) rfl ?_
    refine g_no (yl (dj := 11) (b := true) rfl rfl rfl) rfl ?_
    refine g_no (yl (dj := 11) (b := true) rfl rfl rfl) rfl ?_
    refine st (v := .bool true) (x_pick_t (.tmp rfl rfl) .const) ?_
    refine c_nil ?_
    refine n_then ?_
    refine c_cond_t (t := true) (.tmp rfl rfl) rfl ?_
    refine c_seq ?_
    refine c_region ?_
    refine st (v := .int .u16 ((s : Nat) : Int)) (x_move (.tmp rfl rfl)) ?_
    refine st (v := .int .u16 ((s : Nat) : Int)) (x_assign (.tmp rfl rfl)) ?_
    refine c_nil ?_
    refine n_then ?_
    refine c_ret ?_
    refine r_then ?_
    refine leave_ret (res_one (v := .int .u16 ((s : Nat) : Int)) rfl (.mk rfl rfl)) ?_
    first | exact ⟨congrArg (fun n : Nat => Ending.returned (.int .u16 (n : Int))) (wth_out (by omega)), hs⟩ | exact ⟨congrArg (fun n : Nat => Ending.returned (.int .u16 (n : Int))) (wth_has (by assumption)), hs⟩ | exact ⟨congrArg (fun n : Nat => Ending.returned (.int .u16 (n : Int))) had, hs⟩
  · have hp1 : ¬ ((i : Int) < 0) := of_decide_eq_false hc1
    refine g_yes (yl (dj := 7) (b := false) rfl rfl (congrArg Value.bool hc1)) ?_
    refine st (v := .int .i64 i) (x_move (.tmp rfl rfl)) ?_
    refine g_yes (yl (dj := 7) (b := false) rfl rfl (congrArg Value.bool hc1)) ?_
    refine st (v := .bool (decide ((15 : Int) < i))) (x_gtr (k := .i64) (a := i) (b := 15) (.tmp rfl rfl) .const) ?_
    refine st (v := .bool (decide ((15 : Int) < i))) (x_pick_f (.tmp rfl (congrArg Value.bool hc1)) (.tmp rfl rfl)) ?_
    refine st (v := .bool (decide ((15 : Int) < i))) (x_move (.tmp rfl rfl)) ?_
    rcases Bool.eq_false_or_eq_true (decide ((15 : Int) < i)) with hc2 | hc2
    · have hp2 : (15 : Int) < i := of_decide_eq_true hc2
      refine g_no (yl (dj := 11) (b := true) rfl rfl (congrArg Value.bool hc2)) rfl ?_
      refine g_no (yl (dj := 11) (b := true) rfl rfl (congrArg Value.bool hc2)) rfl ?_
      refine g_no (yl (dj := 11) (b := true) rfl rfl (congrArg Value.bool hc2)) rfl ?_
      refine st (v := .bool true) (x_pick_t (.tmp rfl (congrArg Value.bool hc2)) .const) ?_
      refine c_nil ?_
      refine n_then ?_
      refine c_cond_t (t := true) (.tmp rfl rfl) rfl ?_
      refine c_seq ?_
      refine c_region ?_
      refine st (v := .int .u16 ((s : Nat) : Int)) (x_move (.tmp rfl rfl)) ?_
      refine st (v := .int .u16 ((s : Nat) : Int)) (x_assign (.tmp rfl rfl)) ?_
      refine c_nil ?_
      refine n_then ?_
      refine c_ret ?_
      refine r_then ?_
      refine leave_ret (res_one (v := .int .u16 ((s : Nat) : Int)) rfl (.mk rfl rfl)) ?_
      first | exact ⟨congrArg (fun n : Nat => Ending.returned (.int .u16 (n : Int))) (wth_out (by omega)), hs⟩ | exact ⟨congrArg (fun n : Nat => Ending.returned (.int .u16 (n : Int))) (wth_has (by assumption)), hs⟩ | exact ⟨congrArg (fun n : Nat => Ending.returned (.int .u16 (n : Int))) had, hs⟩
    · have hp2 : ¬ ((15 : Int) < i) := of_decide_eq_false hc2
      refine g_yes (yl (dj := 11) (b := false) rfl rfl (congrArg Value.bool hc2)) ?_
      refine st (v := .int .u16 ((s : Nat) : Int)) (x_move (.tmp rfl rfl)) ?_
      refine g_yes (yl (dj := 11) (b := false) rfl rfl (congrArg Value.bool hc2)) ?_
      refine st (v := .int .i64 i) (x_move (.tmp rfl rfl)) ?_
      refine g_yes (yl (dj := 11) (b := false) rfl rfl (congrArg Value.bool hc2)) ?_
      refine st_c cb17 .func (evs2 (.tmp rfl rfl) (.tmp rfl rfl)) (rhas_spec hs s i b_s (by omega)) ?_
      rintro e w3 ⟨rfl, hs4⟩
      refine ⟨_, rfl, ?_⟩
      refine st (v := .bool (has s i)) (x_pick_f (.tmp rfl (congrArg Value.bool hc2)) (.tmp rfl rfl)) ?_
      refine c_nil ?_
      refine n_then ?_
      rcases Bool.eq_false_or_eq_true (has s i) with hc5 | hc5
      · refine c_cond_t (t := true) (.tmp rfl (congrArg Value.bool hc5)) rfl ?_
        refine c_seq ?_
        refine c_region ?_
        refine st (v := .int .u16 ((s : Nat) : Int)) (x_move (.tmp rfl rfl)) ?_
        refine st (v := .int .u16 ((s : Nat) : Int)) (x_assign (.tmp rfl rfl)) ?_
        refine c_nil ?_
        refine n_then ?_
        refine c_ret ?_
        refine r_then ?_
        refine leave_ret (res_one (v := .int .u16 ((s : Nat) : Int)) rfl (.mk rfl rfl)) ?_
        first | exact ⟨congrArg (fun n : Nat => Ending.returned (.int .u16 (n : Int))) (wth_out (by omega)), hs4⟩ | exact ⟨congrArg (fun n : Nat => Ending.returned (.int .u16 (n : Int))) (wth_has (by assumption)), hs4⟩ | exact ⟨congrArg (fun n : Nat => Ending.returned (.int .u16 (n : Int))) had, hs4⟩
      · refine c_cond_f (t := false) (.tmp rfl (congrArg Value.bool hc5)) rfl ?_
        refine c_skip ?_
        refine n_then ?_
        refine c_seq ?_
        refine c_region ?_
        refine st (v := .int .u16 ((s : Nat) : Int)) (x_move (.tmp rfl rfl)) ?_
        refine st (v := .int .i64 i) (x_move (.tmp rfl rfl)) ?_
        refine st_c cb27 .func (evs1 (.tmp rfl rfl)) (bit_spec hs4 i (by omega) (by omega)) ?_
        rintro e w6 ⟨rfl, hs7⟩
        refine ⟨_, rfl, ?_⟩
        have had := wth_add (s := s) (i := i) hc5 (by omega) (by omega)
        have hlt := wth_lt b_s i
        have hb8 : (s + (2 ^ i.toNat)) < 65536 := by omega
        refine st (v := .int .u16 (((s + (2 ^ i.toNat)) : Nat) : Int)) (x_add (k := .u16) (a := ((s : Nat) : Int)) (b := (((2 ^ i.toNat) : Nat) : Int)) (.tmp rfl rfl) (.tmp rfl rfl) (wU rfl (by omega) hb8)) ?_
        refine st (v := .int .u16 (((s + (2 ^ i.toNat)) : Nat) : Int)) (x_assign (.tmp rfl rfl)) ?_
        refine c_nil ?_
        refine n_then ?_
        refine c_ret ?_
        refine leave_ret (res_one (v := .int .u16 (((s + (2 ^ i.toNat)) : Nat) : Int)) rfl (.mk rfl rfl)) ?_
        first | exact ⟨congrArg (fun n : Nat => Ending.returned (.int .u16 (n : Int))) (wth_out (by omega)), hs7⟩ | exact ⟨congrArg (fun n : Nat => Ending.returned (.int .u16 (n : Int))) (wth_has (by assumption)), hs7⟩ | exact ⟨congrArg (fun n : Nat => Ending.returned (.int .u16 (n : Int))) had, hs7⟩

set_option maxHeartbeats 8000000 in
theorem rwithout_spec {H : Hp} {w : World} {L : List Res} (hs : St H w L) (s : Nat) (i : Int) (b_s : s < 65536) (b_i : -9223372036854775808 ≤ i ∧ i ≤ 9223372036854775807) : Calls Tryd.prog 19 #[.int .u16 ((s : Nat) : Int), .int .i64 i] w (fun e w' => e = .returned (.int .u16 ((wto s i : Nat) : Int)) ∧ St H w' L) := by
  refine enter (args := [.int .u16 ((s : Nat) : Int), .int .i64 i]) (N := 14) Tryd.func19 rfl rfl rfl ?_
  refine c_seq ?_
  refine c_region ?_
  refine st (v := .int .u16 0) (x_assign .const) ?_
  refine c_nil ?_
  refine n_then ?_
  refine c_seq ?_
  refine c_seq ?_
  refine c_region ?_
  refine st (v := .int .u16 ((s : Nat) : Int)) (x_move (.tmp rfl rfl)) ?_
  refine st (v := .int .i64 i) (x_move (.tmp rfl rfl)) ?_
  refine st_c cb17 .func (evs2 (.tmp rfl rfl) (.tmp rfl rfl)) (rhas_spec hs s i b_s (by omega)) ?_
  rintro e w1 ⟨rfl, hs2⟩
  refine ⟨_, rfl, ?_⟩
  refine st (v := .bool (!(has s i))) (x_not (.tmp rfl rfl)) ?_
  refine c_nil ?_
  refine n_then ?_
  rcases Bool.eq_false_or_eq_true (has s i) with hc3 | hc3
  · refine c_cond_f (t := false) (.tmp rfl (congrArg Value.bool (by rw [hc3]; rfl))) rfl ?_
    refine c_skip ?_
    refine n_then ?_
    refine c_seq ?_
    refine c_region ?_
    refine st (v := .int .u16 ((s : Nat) : Int)) (x_move (.tmp rfl rfl)) ?_
    refine st (v := .int .i64 i) (x_move (.tmp rfl rfl)) ?_
    have hin := has_in hc3
    have hle := has_le hc3
    have had := wto_sub b_s hc3
    have hbp := Nat.two_pow_pos i.toNat
    refine st_c cb27 .func (evs1 (.tmp rfl rfl)) (bit_spec hs2 i (by omega) (by omega)) ?_
    rintro e w4 ⟨rfl, hs5⟩
    refine ⟨_, rfl, ?_⟩
    have hb6 : (s - (2 ^ i.toNat)) < 65536 := by omega
    refine st (v := .int .u16 (((s - (2 ^ i.toNat)) : Nat) : Int)) (x_sub (k := .u16) (a := ((s : Nat) : Int)) (b := (((2 ^ i.toNat) : Nat) : Int)) (.tmp rfl rfl) (.tmp rfl rfl) (wU rfl (by omega) hb6)) ?_
    refine st (v := .int .u16 (((s - (2 ^ i.toNat)) : Nat) : Int)) (x_assign (.tmp rfl rfl)) ?_
    refine c_nil ?_
    refine n_then ?_
    refine c_ret ?_
    refine leave_ret (res_one (v := .int .u16 (((s - (2 ^ i.toNat)) : Nat) : Int)) rfl (.mk rfl rfl)) ?_
    first | exact ⟨congrArg (fun n : Nat => Ending.returned (.int .u16 (n : Int))) (wto_has b_s (by assumption)), hs5⟩ | exact ⟨congrArg (fun n : Nat => Ending.returned (.int .u16 (n : Int))) had, hs5⟩
  · refine c_cond_t (t := true) (.tmp rfl (congrArg Value.bool (by rw [hc3]; rfl))) rfl ?_
    refine c_seq ?_
    refine c_region ?_
    refine st (v := .int .u16 ((s : Nat) : Int)) (x_move (.tmp rfl rfl)) ?_
    refine st (v := .int .u16 ((s : Nat) : Int)) (x_assign (.tmp rfl rfl)) ?_
    refine c_nil ?_
    refine n_then ?_
    refine c_ret ?_
    refine r_then ?_
    refine leave_ret (res_one (v := .int .u16 ((s : Nat) : Int)) rfl (.mk rfl rfl)) ?_
    first | exact ⟨congrArg (fun n : Nat => Ending.returned (.int .u16 (n : Int))) (wto_has b_s (by assumption)), hs2⟩ | exact ⟨congrArg (fun n : Nat => Ending.returned (.int .u16 (n : Int))) had, hs2⟩

set_option maxHeartbeats 8000000 in
theorem nan_u_spec {H : Hp} {w : World} {L : List Res} (hs : St H w L) (a : Int) : Calls Tryd.prog 30 #[.int .u64 a] w (fun e w' => e = .returned (.bool false) ∧ St H w' L) := by
  refine enter (args := [.int .u64 a]) (N := 6) Tryd.func30 rfl rfl rfl ?_
  refine c_seq ?_
  refine c_region ?_
  refine st (v := .bool false) (x_assign .const) ?_
  refine c_nil ?_
  refine n_then ?_
  refine c_seq ?_
  refine c_region ?_
  refine st (v := .int .u64 a) (x_move (.tmp rfl rfl)) ?_
  refine st (v := .int .u64 a) (x_move (.tmp rfl rfl)) ?_
  refine st (v := .bool (decide ((a : Int) ≠ a))) (x_neq (k := .u64) (a := a) (b := a) (.tmp rfl rfl) (.tmp rfl rfl)) ?_
  refine st (v := .bool false) (x_assign (.tmp rfl (congrArg Value.bool (show (decide ((a : Int) ≠ a)) = false from by simp)))) ?_
  refine c_nil ?_
  refine n_then ?_
  refine c_ret ?_
  refine leave_ret (res_one (v := .bool false) rfl (.mk rfl rfl)) ?_
  exact ⟨rfl, hs⟩

set_option maxHeartbeats 8000000 in
theorem cmp_u_spec {H : Hp} {w : World} {L : List Res} (hs : St H w L) (a b : Int) : Calls Tryd.prog 28 #[.int .u64 a, .int .u64 b] w (fun e w' => e = .returned (.int .i64 (cmpI a b)) ∧ St H w' L) := by
  refine enter (args := [.int .u64 a, .int .u64 b]) (N := 20) Tryd.func28 rfl rfl rfl ?_
  refine c_seq ?_
  refine c_region ?_
  refine st (v := .int .i64 0) (x_assign .const) ?_
  refine c_nil ?_
  refine n_then ?_
  refine c_seq ?_
  refine c_region ?_
  refine st (v := .int .u64 a) (x_move (.tmp rfl rfl)) ?_
  refine st_c cb30 .func (evs1 (.tmp rfl rfl)) (nan_u_spec hs a) ?_
  rintro e w1 ⟨rfl, hs2⟩
  refine ⟨_, rfl, ?_⟩
  refine st (v := .bool false) (x_assign (.tmp rfl rfl)) ?_
  refine c_nil ?_
  refine n_then ?_
  refine c_seq ?_
  refine c_region ?_
  refine st (v := .int .u64 b) (x_move (.tmp rfl rfl)) ?_
  refine st_c cb30 .func (evs1 (.tmp rfl rfl)) (nan_u_spec hs2 b) ?_
  rintro e w3 ⟨rfl, hs4⟩
  refine ⟨_, rfl, ?_⟩
  refine st (v := .bool false) (x_assign (.tmp rfl rfl)) ?_
  refine c_nil ?_
  refine n_then ?_
  refine c_seq ?_
  refine c_seq ?_
  refine c_region ?_
  refine st (v := .bool false) (x_move (.tmp rfl rfl)) ?_
  refine c_nil ?_
  refine n_then ?_
  refine c_cond_f (t := false) (.tmp rfl rfl) rfl ?_
  refine c_skip ?_
  refine n_then ?_
  refine c_seq ?_
  refine c_seq ?_
  refine c_region ?_
  refine st (v := .bool false) (x_move (.tmp rfl rfl)) ?_
  refine c_nil ?_
  refine n_then ?_
  refine c_cond_f (t := false) (.tmp rfl rfl) rfl ?_
  refine c_skip ?_
  refine n_then ?_
  refine c_seq ?_
  refine c_seq ?_
  refine c_region ?_
  refine st (v := .int .u64 a) (x_move (.tmp rfl rfl)) ?_
  refine st (v := .int .u64 b) (x_move (.tmp rfl rfl)) ?_
  refine st (v := .bool (decide ((a : Int) < b))) (x_lss (k := .u64) (a := a) (b := b) (.tmp rfl rfl) (.tmp rfl rfl)) ?_
  refine c_nil ?_
  refine n_then ?_
  rcases Bool.eq_false_or_eq_true (decide ((a : Int) < b)) with hc5 | hc5
  · have hp5 : (a : Int) < b := of_decide_eq_true hc5
    refine c_cond_t (t := true) (.tmp rfl (congrArg Value.bool hc5)) rfl ?_
    refine c_seq ?_
    refine c_region ?_
    refine st (v := .int .i64 (-1)) (x_assign .const) ?_
    refine c_nil ?_
    refine n_then ?_
    refine c_ret ?_
    refine r_then ?_
    refine leave_ret (res_one (v := .int .i64 (-1)) rfl (.mk rfl rfl)) ?_
    have hcm : (-1) = cmpI a b := by
      unfold cmpI
      repeat' split
      all_goals omega
    exact ⟨congrArg (fun z => Ending.returned (.int .i64 z)) hcm, hs4⟩
  · have hp5 : ¬ ((a : Int) < b) := of_decide_eq_false hc5
    refine c_cond_f (t := false) (.tmp rfl (congrArg Value.bool hc5)) rfl ?_
    refine c_skip ?_
    refine n_then ?_
    refine c_seq ?_
    refine c_seq ?_
    refine c_region ?_
    refine st (v := .int .u64 a) (x_move (.tmp rfl rfl)) ?_
    refine st (v := .int .u64 b) (x_move (.tmp rfl rfl)) ?_
    refine st (v := .bool (decide ((b : Int) < a))) (x_gtr (k := .u64) (a := a) (b := b) (.tmp rfl rfl) (.tmp rfl rfl)) ?_
    refine c_nil ?_
    refine n_then ?_
    rcases Bool.eq_false_or_eq_true (decide ((b : Int) < a)) with hc6 | hc6
    · have hp6 : (b : Int) < a := of_decide_eq_true hc6
      refine c_cond_t (t := true) (.tmp rfl (congrArg Value.bool hc6)) rfl ?_
      refine c_seq ?_
      refine c_region ?_
      refine st (v := .int .i64 1) (x_assign .const) ?_
      refine c_nil ?_
      refine n_then ?_
      refine c_ret ?_
      refine r_then ?_
      refine leave_ret (res_one (v := .int .i64 1) rfl (.mk rfl rfl)) ?_
      have hcm : 1 = cmpI a b := by
        unfold cmpI
        repeat' split
        all_goals omega
      exact ⟨congrArg (fun z => Ending.returned (.int .i64 z)) hcm, hs4⟩
    · have hp6 : ¬ ((b : Int) < a) := of_decide_eq_false hc6
      refine c_cond_f (t := false) (.tmp rfl (congrArg Value.bool hc6)) rfl ?_
      refine c_skip ?_
      refine n_then ?_
      refine c_seq ?_
      refine c_region ?_
      refine st (v := .int .i64 0) (x_assign .const) ?_
      refine c_nil ?_
      refine n_then ?_
      refine c_ret ?_
      refine leave_ret (res_one (v := .int .i64 0) rfl (.mk rfl rfl)) ?_
      have hcm : 0 = cmpI a b := by
        unfold cmpI
        repeat' split
        all_goals omega
      exact ⟨congrArg (fun z => Ending.returned (.int .i64 z)) hcm, hs4⟩

set_option maxHeartbeats 8000000 in
theorem nan_i_spec {H : Hp} {w : World} {L : List Res} (hs : St H w L) (a : Int) : Calls Tryd.prog 31 #[.int .i64 a] w (fun e w' => e = .returned (.bool false) ∧ St H w' L) := by
  refine enter (args := [.int .i64 a]) (N := 6) Tryd.func31 rfl rfl rfl ?_
  refine c_seq ?_
  refine c_region ?_
  refine st (v := .bool false) (x_assign .const) ?_
  refine c_nil ?_
  refine n_then ?_
  refine c_seq ?_
  refine c_region ?_
  refine st (v := .int .i64 a) (x_move (.tmp rfl rfl)) ?_
  refine st (v := .int .i64 a) (x_move (.tmp rfl rfl)) ?_
  refine st (v := .bool (decide ((a : Int) ≠ a))) (x_neq (k := .i64) (a := a) (b := a) (.tmp rfl rfl) (.tmp rfl rfl)) ?_
  refine st (v := .bool false) (x_assign (.tmp rfl (congrArg Value.bool (show (decide ((a : Int) ≠ a)) = false from by simp)))) ?_
  refine c_nil ?_
  refine n_then ?_
  refine c_ret ?_
  refine leave_ret (res_one (v := .bool false) rfl (.mk rfl rfl)) ?_
  exact ⟨rfl, hs⟩

set_option maxHeartbeats 8000000 in
theorem cmp_i_spec {H : Hp} {w : World} {L : List Res} (hs : St H w L) (a b : Int) : Calls Tryd.prog 29 #[.int .i64 a, .int .i64 b] w (fun e w' => e = .returned (.int .i64 (cmpI a b)) ∧ St H w' L) := by
  refine enter (args := [.int .i64 a, .int .i64 b]) (N := 20) Tryd.func29 rfl rfl rfl ?_
  refine c_seq ?_
  refine c_region ?_
  refine st (v := .int .i64 0) (x_assign .const) ?_
  refine c_nil ?_
  refine n_then ?_
  refine c_seq ?_
  refine c_region ?_
  refine st (v := .int .i64 a) (x_move (.tmp rfl rfl)) ?_
  refine st_c cb31 .func (evs1 (.tmp rfl rfl)) (nan_i_spec hs a) ?_
  rintro e w1 ⟨rfl, hs2⟩
  refine ⟨_, rfl, ?_⟩
  refine st (v := .bool false) (x_assign (.tmp rfl rfl)) ?_
  refine c_nil ?_
  refine n_then ?_
  refine c_seq ?_
  refine c_region ?_
  refine st (v := .int .i64 b) (x_move (.tmp rfl rfl)) ?_
  refine st_c cb31 .func (evs1 (.tmp rfl rfl)) (nan_i_spec hs2 b) ?_
  rintro e w3 ⟨rfl, hs4⟩
  refine ⟨_, rfl, ?_⟩
  refine st (v := .bool false) (x_assign (.tmp rfl rfl)) ?_
  refine c_nil ?_
  refine n_then ?_
  refine c_seq ?_
  refine c_seq ?_
  refine c_region ?_
  refine st (v := .bool false) (x_move (.tmp rfl rfl)) ?_
  refine c_nil ?_
  refine n_then ?_
  refine c_cond_f (t := false) (.tmp rfl rfl) rfl ?_
  refine c_skip ?_
  refine n_then ?_
  refine c_seq ?_
  refine c_seq ?_
  refine c_region ?_
  refine st (v := .bool false) (x_move (.tmp rfl rfl)) ?_
  refine c_nil ?_
  refine n_then ?_
  refine c_cond_f (t := false) (.tmp rfl rfl) rfl ?_
  refine c_skip ?_
  refine n_then ?_
  refine c_seq ?_
  refine c_seq ?_
  refine c_region ?_
  refine st (v := .int .i64 a) (x_move (.tmp rfl rfl)) ?_
  refine st (v := .int .i64 b) (x_move (.tmp rfl rfl)) ?_
  refine st (v := .bool (decide ((a : Int) < b))) (x_lss (k := .i64) (a := a) (b := b) (.tmp rfl rfl) (.tmp rfl rfl)) ?_
  refine c_nil ?_
  refine n_then ?_
  rcases Bool.eq_false_or_eq_true (decide ((a : Int) < b)) with hc5 | hc5
  · have hp5 : (a : Int) < b := of_decide_eq_true hc5
    refine c_cond_t (t := true) (.tmp rfl (congrArg Value.bool hc5)) rfl ?_
    refine c_seq ?_
    refine c_region ?_
    refine st (v := .int .i64 (-1)) (x_assign .const) ?_
    refine c_nil ?_
    refine n_then ?_
    refine c_ret ?_
    refine r_then ?_
    refine leave_ret (res_one (v := .int .i64 (-1)) rfl (.mk rfl rfl)) ?_
    have hcm : (-1) = cmpI a b := by
      unfold cmpI
      repeat' split
      all_goals omega
    exact ⟨congrArg (fun z => Ending.returned (.int .i64 z)) hcm, hs4⟩
  · have hp5 : ¬ ((a : Int) < b) := of_decide_eq_false hc5
    refine c_cond_f (t := false) (.tmp rfl (congrArg Value.bool hc5)) rfl ?_
    refine c_skip ?_
    refine n_then ?_
    refine c_seq ?_
    refine c_seq ?_
    refine c_region ?_
    refine st (v := .int .i64 a) (x_move (.tmp rfl rfl)) ?_
    refine st (v := .int .i64 b) (x_move (.tmp rfl rfl)) ?_
    refine st (v := .bool (decide ((b : Int) < a))) (x_gtr (k := .i64) (a := a) (b := b) (.tmp rfl rfl) (.tmp rfl rfl)) ?_
    refine c_nil ?_
    refine n_then ?_
    rcases Bool.eq_false_or_eq_true (decide ((b : Int) < a)) with hc6 | hc6
    · have hp6 : (b : Int) < a := of_decide_eq_true hc6
      refine c_cond_t (t := true) (.tmp rfl (congrArg Value.bool hc6)) rfl ?_
      refine c_seq ?_
      refine c_region ?_
      refine st (v := .int .i64 1) (x_assign .const) ?_
      refine c_nil ?_
      refine n_then ?_
      refine c_ret ?_
      refine r_then ?_
      refine leave_ret (res_one (v := .int .i64 1) rfl (.mk rfl rfl)) ?_
      have hcm : 1 = cmpI a b := by
        unfold cmpI
        repeat' split
        all_goals omega
      exact ⟨congrArg (fun z => Ending.returned (.int .i64 z)) hcm, hs4⟩
    · have hp6 : ¬ ((b : Int) < a) := of_decide_eq_false hc6
      refine c_cond_f (t := false) (.tmp rfl (congrArg Value.bool hc6)) rfl ?_
      refine c_skip ?_
      refine n_then ?_
      refine c_seq ?_
      refine c_region ?_
      refine st (v := .int .i64 0) (x_assign .const) ?_
      refine c_nil ?_
      refine n_then ?_
      refine c_ret ?_
      refine leave_ret (res_one (v := .int .i64 0) rfl (.mk rfl rfl)) ?_
      have hcm : 0 = cmpI a b := by
        unfold cmpI
        repeat' split
        all_goals omega
      exact ⟨congrArg (fun z => Ending.returned (.int .i64 z)) hcm, hs4⟩

set_option maxHeartbeats 8000000 in
theorem compare_spec {H : Hp} {w : World} {L : List Res} (hs : St H w L) (an : Nat) (ap : Int) (bn : Nat) (bp : Int) : Calls Tryd.prog 20 #[.agg #[.int .u64 ((an : Nat) : Int), .int .i64 ap], .agg #[.int .u64 ((bn : Nat) : Int), .int .i64 bp]] w (fun e w' => e = .returned (.int .i64 (cmpV an ap bn bp)) ∧ St H w' L) := by
  refine enter (args := [.agg #[.int .u64 ((an : Nat) : Int), .int .i64 ap], .agg #[.int .u64 ((bn : Nat) : Int), .int .i64 bp]]) (N := 19) Tryd.func20 rfl rfl rfl ?_
  refine c_seq ?_
  refine c_region ?_
  refine st_m (m_box (cs := [.int .u64 ((an : Nat) : Int), .int .i64 ap]) hs (v := .agg #[.int .u64 ((an : Nat) : Int), .int .i64 ap]) (.tmp rfl rfl) rfl) ?_
  rintro _ w2 ⟨g1, rfl, hs4⟩
  refine st_m (m_box (cs := [.int .u64 ((bn : Nat) : Int), .int .i64 bp]) hs4 (v := .agg #[.int .u64 ((bn : Nat) : Int), .int .i64 bp]) (.tmp rfl rfl) rfl) ?_
  rintro _ w6 ⟨g5, rfl, hs8⟩
  refine st (v := .int .i64 0) (x_assign .const) ?_
  refine c_nil ?_
  refine n_then ?_
  refine c_seq ?_
  refine c_seq ?_
  refine c_region ?_
  refine st (v := .pointer (some ⟨g1, 0 + 0, none⟩)) (fa34_0 (.tmp rfl rfl)) ?_
  refine st (v := .int .u64 ((an : Nat) : Int)) (ld32 (.tmp rfl rfl) (hs8.cell 1 rfl (0 + 0) rfl)) ?_
  refine st (v := .pointer (some ⟨g5, 0 + 0, none⟩)) (fa34_0 (.tmp rfl rfl)) ?_
  refine st (v := .int .u64 ((bn : Nat) : Int)) (ld32 (.tmp rfl rfl) (hs8.cell 0 rfl (0 + 0) rfl)) ?_
  refine st_c cb28 .func (evs2 (.tmp rfl rfl) (.tmp rfl rfl)) (cmp_u_spec hs8 ((an : Nat) : Int) ((bn : Nat) : Int)) ?_
  rintro e w9 ⟨rfl, hs10⟩
  refine ⟨_, rfl, ?_⟩
  refine st (v := .int .i64 (cmpI ((an : Nat) : Int) ((bn : Nat) : Int))) (x_assign (.tmp rfl rfl)) ?_
  refine c_nil ?_
  refine n_then ?_
  refine c_seq ?_
  refine c_region ?_
  refine st (v := .int .i64 (cmpI ((an : Nat) : Int) ((bn : Nat) : Int))) (x_move (.tmp rfl rfl)) ?_
  refine st (v := .bool (decide (((cmpI ((an : Nat) : Int) ((bn : Nat) : Int)) : Int) ≠ 0))) (x_neq (k := .i64) (a := (cmpI ((an : Nat) : Int) ((bn : Nat) : Int))) (b := 0) (.tmp rfl rfl) .const) ?_
  refine c_nil ?_
  refine n_then ?_
  rcases Bool.eq_false_or_eq_true (decide (((cmpI ((an : Nat) : Int) ((bn : Nat) : Int)) : Int) ≠ 0)) with hc11 | hc11
  · have hp11 : ((cmpI ((an : Nat) : Int) ((bn : Nat) : Int)) : Int) ≠ 0 := of_decide_eq_true hc11
    refine c_cond_t (t := true) (.tmp rfl (congrArg Value.bool hc11)) rfl ?_
    refine c_seq ?_
    refine c_region ?_
    refine st (v := .int .i64 (cmpI ((an : Nat) : Int) ((bn : Nat) : Int))) (x_move (.tmp rfl rfl)) ?_
    refine st (v := .int .i64 (cmpI ((an : Nat) : Int) ((bn : Nat) : Int))) (x_assign (.tmp rfl rfl)) ?_
    refine c_nil ?_
    refine n_then ?_
    refine c_ret ?_
    refine r_then ?_
    refine leave_ret (res_one (v := .int .i64 (cmpI ((an : Nat) : Int) ((bn : Nat) : Int))) rfl (.mk rfl rfl)) ?_
    exact ⟨congrArg (fun z => Ending.returned (.int .i64 z)) (by first | exact cmpV_ne (by assumption) | exact cmpV_eq (by assumption)), hs10.drop.drop⟩
  · have hp11 : ¬ (((cmpI ((an : Nat) : Int) ((bn : Nat) : Int)) : Int) ≠ 0) := of_decide_eq_false hc11
    refine c_cond_f (t := false) (.tmp rfl (congrArg Value.bool hc11)) rfl ?_
    refine c_skip ?_
    refine n_then ?_
    refine c_seq ?_
    refine c_region ?_
    refine st (v := .pointer (some ⟨g1, 0 + 1, none⟩)) (fa34_1 (.tmp rfl rfl)) ?_
    refine st (v := .int .i64 ap) (ld3 (.tmp rfl rfl) (hs10.cell 1 rfl (0 + 1) rfl)) ?_
    refine st (v := .pointer (some ⟨g5, 0 + 1, none⟩)) (fa34_1 (.tmp rfl rfl)) ?_
    refine st (v := .int .i64 bp) (ld3 (.tmp rfl rfl) (hs10.cell 0 rfl (0 + 1) rfl)) ?_
    refine st_c cb29 .func (evs2 (.tmp rfl rfl) (.tmp rfl rfl)) (cmp_i_spec hs10 ap bp) ?_
    rintro e w12 ⟨rfl, hs13⟩
    refine ⟨_, rfl, ?_⟩
    refine st (v := .int .i64 (cmpI ap bp)) (x_assign (.tmp rfl rfl)) ?_
    refine c_nil ?_
    refine n_then ?_
    refine c_ret ?_
    refine leave_ret (res_one (v := .int .i64 (cmpI ap bp)) rfl (.mk rfl rfl)) ?_
    exact ⟨congrArg (fun z => Ending.returned (.int .i64 z)) (by first | exact cmpV_ne (by assumption) | exact cmpV_eq (by assumption)), hs13.drop.drop⟩

set_option maxHeartbeats 8000000 in
theorem rcompare_spec {H : Hp} {w : World} {L : List Res} (hs : St H w L) (an : Nat) (ap : Int) (bn : Nat) (bp : Int) : Calls Tryd.prog 21 #[.agg #[.int .u64 ((an : Nat) : Int), .int .i64 ap], .agg #[.int .u64 ((bn : Nat) : Int), .int .i64 bp]] w (fun e w' => e = .returned (.int .i64 (cmpV an ap bn bp)) ∧ St H w' L) := by
  refine enter (args := [.agg #[.int .u64 ((an : Nat) : Int), .int .i64 ap], .agg #[.int .u64 ((bn : Nat) : Int), .int .i64 bp]]) (N := 29) Tryd.func21 rfl rfl rfl ?_
  refine c_seq ?_
  refine c_region ?_
  refine st_m (m_box (cs := [.int .u64 ((an : Nat) : Int), .int .i64 ap]) hs (v := .agg #[.int .u64 ((an : Nat) : Int), .int .i64 ap]) (.tmp rfl rfl) rfl) ?_
  rintro _ w2 ⟨g1, rfl, hs4⟩
  refine st_m (m_box (cs := [.int .u64 ((bn : Nat) : Int), .int .i64 bp]) hs4 (v := .agg #[.int .u64 ((bn : Nat) : Int), .int .i64 bp]) (.tmp rfl rfl) rfl) ?_
  rintro _ w6 ⟨g5, rfl, hs8⟩
  refine st (v := .int .i64 0) (x_assign .const) ?_
  refine c_nil ?_
  refine n_then ?_
  refine c_seq ?_
  refine c_block ?_
  refine c_seq ?_
  refine c_region ?_
  refine st (v := .pointer (some ⟨g1, 0 + 0, none⟩)) (fa34_0 (.tmp rfl rfl)) ?_
  refine st (v := .int .u64 ((an : Nat) : Int)) (ld32 (.tmp rfl rfl) (hs8.cell 1 rfl (0 + 0) rfl)) ?_
  refine st (v := .pointer (some ⟨g5, 0 + 0, none⟩)) (fa34_0 (.tmp rfl rfl)) ?_
  refine st (v := .int .u64 ((bn : Nat) : Int)) (ld32 (.tmp rfl rfl) (hs8.cell 0 rfl (0 + 0) rfl)) ?_
  refine st (v := .bool (decide ((((an : Nat) : Int) : Int) < ((bn : Nat) : Int)))) (x_lss (k := .u64) (a := ((an : Nat) : Int)) (b := ((bn : Nat) : Int)) (.tmp rfl rfl) (.tmp rfl rfl)) ?_
  refine st (v := .bool (decide ((((an : Nat) : Int) : Int) < ((bn : Nat) : Int)))) (x_move (.tmp rfl rfl)) ?_
  rcases Bool.eq_false_or_eq_true (decide ((((an : Nat) : Int) : Int) < ((bn : Nat) : Int))) with hc9 | hc9
  · have hp9 : (((an : Nat) : Int) : Int) < ((bn : Nat) : Int) := of_decide_eq_true hc9
    refine g_no (yl (dj := 11) (b := true) rfl rfl (congrArg Value.bool hc9)) rfl ?_
    refine g_no (yl (dj := 11) (b := true) rfl rfl (congrArg Value.bool hc9)) rfl ?_
    refine g_no (yl (dj := 11) (b := true) rfl rfl (congrArg Value.bool hc9)) rfl ?_
    refine g_no (yl (dj := 11) (b := true) rfl rfl (congrArg Value.bool hc9)) rfl ?_
    refine g_no (yl (dj := 11) (b := true) rfl rfl (congrArg Value.bool hc9)) rfl ?_
    refine g_no (yl (dj := 11) (b := true) rfl rfl (congrArg Value.bool hc9)) rfl ?_
    refine g_no0 (yn (dj := 17) rfl rfl) ?_
    refine g_no0 (yn (dj := 17) rfl rfl) ?_
    refine g_no0 (yn (dj := 17) rfl rfl) ?_
    refine g_no0 (yn (dj := 17) rfl rfl) ?_
    refine g_no0 (yn (dj := 17) rfl rfl) ?_
    refine g_no (yl (dj := 11) (b := true) rfl rfl (congrArg Value.bool hc9)) rfl ?_
    refine st (v := .bool true) (x_pick_t (.tmp rfl (congrArg Value.bool hc9)) .const) ?_
    refine st (v := .bool true) (x_assign (.tmp rfl rfl)) ?_
    refine c_nil ?_
    refine n_then ?_
    refine c_cond_t (t := true) (.tmp rfl rfl) rfl ?_
    refine c_seq ?_
    refine c_region ?_
    refine st (v := .int .i64 (-1)) (x_assign .const) ?_
    refine c_nil ?_
    refine n_then ?_
    refine c_ret ?_
    refine r_block ?_
    refine r_then ?_
    refine leave_ret (res_one (v := .int .i64 (-1)) rfl (.mk rfl rfl)) ?_
    have hcm : (-1) = cmpV an ap bn bp := by
      unfold cmpV cmpI
      repeat' split
      all_goals omega
    exact ⟨congrArg (fun z => Ending.returned (.int .i64 z)) hcm, hs8.drop.drop⟩
  · have hp9 : ¬ ((((an : Nat) : Int) : Int) < ((bn : Nat) : Int)) := of_decide_eq_false hc9
    refine g_yes (yl (dj := 11) (b := false) rfl rfl (congrArg Value.bool hc9)) ?_
    refine st (v := .pointer (some ⟨g1, 0 + 0, none⟩)) (fa34_0 (.tmp rfl rfl)) ?_
    refine g_yes (yl (dj := 11) (b := false) rfl rfl (congrArg Value.bool hc9)) ?_
    refine st (v := .int .u64 ((an : Nat) : Int)) (ld32 (.tmp rfl rfl) (hs8.cell 1 rfl (0 + 0) rfl)) ?_
    refine g_yes (yl (dj := 11) (b := false) rfl rfl (congrArg Value.bool hc9)) ?_
    refine st (v := .pointer (some ⟨g5, 0 + 0, none⟩)) (fa34_0 (.tmp rfl rfl)) ?_
    refine g_yes (yl (dj := 11) (b := false) rfl rfl (congrArg Value.bool hc9)) ?_
    refine st (v := .int .u64 ((bn : Nat) : Int)) (ld32 (.tmp rfl rfl) (hs8.cell 0 rfl (0 + 0) rfl)) ?_
    refine g_yes (yl (dj := 11) (b := false) rfl rfl (congrArg Value.bool hc9)) ?_
    refine st (v := .bool (decide ((((an : Nat) : Int) : Int) = ((bn : Nat) : Int)))) (x_eql (k := .u64) (a := ((an : Nat) : Int)) (b := ((bn : Nat) : Int)) (.tmp rfl rfl) (.tmp rfl rfl)) ?_
    refine g_yes (yl (dj := 11) (b := false) rfl rfl (congrArg Value.bool hc9)) ?_
    refine st (v := .bool (decide ((((an : Nat) : Int) : Int) = ((bn : Nat) : Int)))) (x_move (.tmp rfl rfl)) ?_
    rcases Bool.eq_false_or_eq_true (decide ((((an : Nat) : Int) : Int) = ((bn : Nat) : Int))) with hc10 | hc10
    · have hp10 : (((an : Nat) : Int) : Int) = ((bn : Nat) : Int) := of_decide_eq_true hc10
      refine g_yes (yl (dj := 17) (b := true) rfl rfl (congrArg Value.bool hc10)) ?_
      refine st (v := .pointer (some ⟨g1, 0 + 1, none⟩)) (fa34_1 (.tmp rfl rfl)) ?_
      refine g_yes (yl (dj := 17) (b := true) rfl rfl (congrArg Value.bool hc10)) ?_
      refine st (v := .int .i64 ap) (ld3 (.tmp rfl rfl) (hs8.cell 1 rfl (0 + 1) rfl)) ?_
      refine g_yes (yl (dj := 17) (b := true) rfl rfl (congrArg Value.bool hc10)) ?_
      refine st (v := .pointer (some ⟨g5, 0 + 1, none⟩)) (fa34_1 (.tmp rfl rfl)) ?_
      refine g_yes (yl (dj := 17) (b := true) rfl rfl (congrArg Value.bool hc10)) ?_
      refine st (v := .int .i64 bp) (ld3 (.tmp rfl rfl) (hs8.cell 0 rfl (0 + 1) rfl)) ?_
      refine g_yes (yl (dj := 17) (b := true) rfl rfl (congrArg Value.bool hc10)) ?_
      refine st (v := .bool (decide ((ap : Int) < bp))) (x_lss (k := .i64) (a := ap) (b := bp) (.tmp rfl rfl) (.tmp rfl rfl)) ?_
      refine g_yes (yl (dj := 11) (b := false) rfl rfl (congrArg Value.bool hc9)) ?_
      refine st (v := .bool (decide ((ap : Int) < bp))) (x_pick_t (.tmp rfl (congrArg Value.bool hc10)) (.tmp rfl rfl)) ?_
      refine st (v := .bool (decide ((ap : Int) < bp))) (x_pick_f (.tmp rfl (congrArg Value.bool hc9)) (.tmp rfl rfl)) ?_
      refine st (v := .bool (decide ((ap : Int) < bp))) (x_assign (.tmp rfl rfl)) ?_
      refine c_nil ?_
      refine n_then ?_
      rcases Bool.eq_false_or_eq_true (decide ((ap : Int) < bp)) with hc11 | hc11
      · have hp11 : (ap : Int) < bp := of_decide_eq_true hc11
        refine c_cond_t (t := true) (.tmp rfl (congrArg Value.bool hc11)) rfl ?_
        refine c_seq ?_
        refine c_region ?_
        refine st (v := .int .i64 (-1)) (x_assign .const) ?_
        refine c_nil ?_
        refine n_then ?_
        refine c_ret ?_
        refine r_block ?_
        refine r_then ?_
        refine leave_ret (res_one (v := .int .i64 (-1)) rfl (.mk rfl rfl)) ?_
        have hcm : (-1) = cmpV an ap bn bp := by
          unfold cmpV cmpI
          repeat' split
          all_goals omega
        exact ⟨congrArg (fun z => Ending.returned (.int .i64 z)) hcm, hs8.drop.drop⟩
      · have hp11 : ¬ ((ap : Int) < bp) := of_decide_eq_false hc11
        refine c_cond_f (t := false) (.tmp rfl (congrArg Value.bool hc11)) rfl ?_
        refine c_seq ?_
        refine c_region ?_
        refine st (v := .agg #[.int .u64 ((an : Nat) : Int), .int .i64 ap]) (ld34 (cs := [.int .u64 ((an : Nat) : Int), .int .i64 ap]) (.tmp rfl rfl) (hs8.at_ 1 rfl 0 rfl) rfl) ?_
        refine st (v := .agg #[.int .u64 ((bn : Nat) : Int), .int .i64 bp]) (ld34 (cs := [.int .u64 ((bn : Nat) : Int), .int .i64 bp]) (.tmp rfl rfl) (hs8.at_ 0 rfl 0 rfl) rfl) ?_
        refine st (v := .bool ((((an : Nat) : Int) == ((bn : Nat) : Int)) && ((ap == bp) && true))) (x_eqlA eqg34 (.tmp rfl rfl) (.tmp rfl rfl) (fun d => eqs34 (d + 98) _ ((an : Nat) : Int) ((bn : Nat) : Int) ap bp)) ?_
        refine st (v := .bool ((((an : Nat) : Int) == ((bn : Nat) : Int)) && ((ap == bp) && true))) (x_assign (.tmp rfl rfl)) ?_
        refine c_nil ?_
        refine n_then ?_
        rcases Bool.eq_false_or_eq_true ((((an : Nat) : Int) == ((bn : Nat) : Int)) && ((ap == bp) && true)) with hc12 | hc12
        · refine c_cond_t (t := true) (.tmp rfl (congrArg Value.bool hc12)) rfl ?_
          refine c_seq ?_
          refine c_region ?_
          refine st (v := .int .i64 0) (x_assign .const) ?_
          refine c_nil ?_
          refine n_then ?_
          refine c_ret ?_
          refine r_block ?_
          refine r_then ?_
          refine leave_ret (res_one (v := .int .i64 0) rfl (.mk rfl rfl)) ?_
          have hcm : 0 = cmpV an ap bn bp := by
            simp only [Bool.and_eq_true, beq_iff_eq, Bool.and_true] at hc12
            unfold cmpV cmpI
            repeat' split
            all_goals omega
          exact ⟨congrArg (fun z => Ending.returned (.int .i64 z)) hcm, hs8.drop.drop⟩
        · refine c_cond_f (t := false) (.tmp rfl (congrArg Value.bool hc12)) rfl ?_
          refine c_skip ?_
          refine n_block ?_
          refine n_then ?_
          refine c_seq ?_
          refine c_region ?_
          refine st (v := .int .i64 1) (x_assign .const) ?_
          refine c_nil ?_
          refine n_then ?_
          refine c_ret ?_
          refine leave_ret (res_one (v := .int .i64 1) rfl (.mk rfl rfl)) ?_
          have hcm : 1 = cmpV an ap bn bp := by
            have hne : ¬ ((an : Int) = bn ∧ ap = bp) := by simpa using hc12
            unfold cmpV cmpI
            repeat' split
            all_goals omega
          exact ⟨congrArg (fun z => Ending.returned (.int .i64 z)) hcm, hs8.drop.drop⟩
    · have hp10 : ¬ ((((an : Nat) : Int) : Int) = ((bn : Nat) : Int)) := of_decide_eq_false hc10
      refine g_no (yl (dj := 17) (b := false) rfl rfl (congrArg Value.bool hc10)) rfl ?_
      refine g_no (yl (dj := 17) (b := false) rfl rfl (congrArg Value.bool hc10)) rfl ?_
      refine g_no (yl (dj := 17) (b := false) rfl rfl (congrArg Value.bool hc10)) rfl ?_
      refine g_no (yl (dj := 17) (b := false) rfl rfl (congrArg Value.bool hc10)) rfl ?_
      refine g_no (yl (dj := 17) (b := false) rfl rfl (congrArg Value.bool hc10)) rfl ?_
      refine g_yes (yl (dj := 11) (b := false) rfl rfl (congrArg Value.bool hc9)) ?_
      refine st (v := .bool false) (x_pick_f (.tmp rfl (congrArg Value.bool hc10)) .const) ?_
      refine st (v := .bool false) (x_pick_f (.tmp rfl (congrArg Value.bool hc9)) (.tmp rfl rfl)) ?_
      refine st (v := .bool false) (x_assign (.tmp rfl rfl)) ?_
      refine c_nil ?_
      refine n_then ?_
      refine c_cond_f (t := false) (.tmp rfl rfl) rfl ?_
      refine c_seq ?_
      refine c_region ?_
      refine st (v := .agg #[.int .u64 ((an : Nat) : Int), .int .i64 ap]) (ld34 (cs := [.int .u64 ((an : Nat) : Int), .int .i64 ap]) (.tmp rfl rfl) (hs8.at_ 1 rfl 0 rfl) rfl) ?_
      refine st (v := .agg #[.int .u64 ((bn : Nat) : Int), .int .i64 bp]) (ld34 (cs := [.int .u64 ((bn : Nat) : Int), .int .i64 bp]) (.tmp rfl rfl) (hs8.at_ 0 rfl 0 rfl) rfl) ?_
      refine st (v := .bool ((((an : Nat) : Int) == ((bn : Nat) : Int)) && ((ap == bp) && true))) (x_eqlA eqg34 (.tmp rfl rfl) (.tmp rfl rfl) (fun d => eqs34 (d + 98) _ ((an : Nat) : Int) ((bn : Nat) : Int) ap bp)) ?_
      refine st (v := .bool ((((an : Nat) : Int) == ((bn : Nat) : Int)) && ((ap == bp) && true))) (x_assign (.tmp rfl rfl)) ?_
      refine c_nil ?_
      refine n_then ?_
      rcases Bool.eq_false_or_eq_true ((((an : Nat) : Int) == ((bn : Nat) : Int)) && ((ap == bp) && true)) with hc13 | hc13
      · refine c_cond_t (t := true) (.tmp rfl (congrArg Value.bool hc13)) rfl ?_
        refine c_seq ?_
        refine c_region ?_
        refine st (v := .int .i64 0) (x_assign .const) ?_
        refine c_nil ?_
        refine n_then ?_
        refine c_ret ?_
        refine r_block ?_
        refine r_then ?_
        refine leave_ret (res_one (v := .int .i64 0) rfl (.mk rfl rfl)) ?_
        have hcm : 0 = cmpV an ap bn bp := by
          simp only [Bool.and_eq_true, beq_iff_eq, Bool.and_true] at hc13
          unfold cmpV cmpI
          repeat' split
          all_goals omega
        exact ⟨congrArg (fun z => Ending.returned (.int .i64 z)) hcm, hs8.drop.drop⟩
      · refine c_cond_f (t := false) (.tmp rfl (congrArg Value.bool hc13)) rfl ?_
        refine c_skip ?_
        refine n_block ?_
        refine n_then ?_
        refine c_seq ?_
        refine c_region ?_
        refine st (v := .int .i64 1) (x_assign .const) ?_
        refine c_nil ?_
        refine n_then ?_
        refine c_ret ?_
        refine leave_ret (res_one (v := .int .i64 1) rfl (.mk rfl rfl)) ?_
        have hcm : 1 = cmpV an ap bn bp := by
          have hne : ¬ ((an : Int) = bn ∧ ap = bp) := by simpa using hc13
          unfold cmpV cmpI
          repeat' split
          all_goals omega
        exact ⟨congrArg (fun z => Ending.returned (.int .i64 z)) hcm, hs8.drop.drop⟩

set_option maxHeartbeats 8000000 in
theorem above_spec {H : Hp} {w : World} {L : List Res} (hs : St H w L) (an : Nat) (ap : Int) (bn : Nat) (bp : Int) : Calls Tryd.prog 22 #[.agg #[.int .u64 ((an : Nat) : Int), .int .i64 ap], .agg #[.int .u64 ((bn : Nat) : Int), .int .i64 bp]] w (fun e w' => e = .returned (.bool (decide (0 < cmpV an ap bn bp))) ∧ St H w' L) := by
  refine enter (args := [.agg #[.int .u64 ((an : Nat) : Int), .int .i64 ap], .agg #[.int .u64 ((bn : Nat) : Int), .int .i64 bp]]) (N := 9) Tryd.func22 rfl rfl rfl ?_
  refine c_seq ?_
  refine c_region ?_
  refine st_m (m_box (cs := [.int .u64 ((an : Nat) : Int), .int .i64 ap]) hs (v := .agg #[.int .u64 ((an : Nat) : Int), .int .i64 ap]) (.tmp rfl rfl) rfl) ?_
  rintro _ w2 ⟨g1, rfl, hs4⟩
  refine st_m (m_box (cs := [.int .u64 ((bn : Nat) : Int), .int .i64 bp]) hs4 (v := .agg #[.int .u64 ((bn : Nat) : Int), .int .i64 bp]) (.tmp rfl rfl) rfl) ?_
  rintro _ w6 ⟨g5, rfl, hs8⟩
  refine st (v := .bool false) (x_assign .const) ?_
  refine c_nil ?_
  refine n_then ?_
  refine c_seq ?_
  refine c_region ?_
  refine st (v := .agg #[.int .u64 ((an : Nat) : Int), .int .i64 ap]) (ld34 (cs := [.int .u64 ((an : Nat) : Int), .int .i64 ap]) (.tmp rfl rfl) (hs8.at_ 1 rfl 0 rfl) rfl) ?_
  refine st (v := .agg #[.int .u64 ((bn : Nat) : Int), .int .i64 bp]) (ld34 (cs := [.int .u64 ((bn : Nat) : Int), .int .i64 bp]) (.tmp rfl rfl) (hs8.at_ 0 rfl 0 rfl) rfl) ?_
  refine st_c cb20 .func (evs2 (.tmp rfl rfl) (.tmp rfl rfl)) (compare_spec hs8 an ap bn bp) ?_
  rintro e w9 ⟨rfl, hs10⟩
  refine ⟨_, rfl, ?_⟩
  refine st (v := .bool (decide ((0 : Int) < (cmpV an ap bn bp)))) (x_gtr (k := .i64) (a := (cmpV an ap bn bp)) (b := 0) (.tmp rfl rfl) .const) ?_
  refine st (v := .bool (decide ((0 : Int) < (cmpV an ap bn bp)))) (x_assign (.tmp rfl rfl)) ?_
  refine c_nil ?_
  refine n_then ?_
  refine c_ret ?_
  refine leave_ret (res_one (v := .bool (decide ((0 : Int) < (cmpV an ap bn bp)))) rfl (.mk rfl rfl)) ?_
  exact ⟨rfl, hs10.drop.drop⟩

set_option maxHeartbeats 8000000 in
theorem form_spec {H : Hp} {w : World} {L : List Res} (hs : St H w L) (n : Nat) (p : Int) : Calls Tryd.prog 23 #[.agg #[.int .u64 ((n : Nat) : Int), .int .i64 p]] w (fun e w' => e = .returned (.bool (formV n p)) ∧ St H w' L) := by
  refine enter (args := [.agg #[.int .u64 ((n : Nat) : Int), .int .i64 p]]) (N := 21) Tryd.func23 rfl rfl rfl ?_
  refine c_seq ?_
  refine c_region ?_
  refine st_m (m_box (cs := [.int .u64 ((n : Nat) : Int), .int .i64 p]) hs (v := .agg #[.int .u64 ((n : Nat) : Int), .int .i64 p]) (.tmp rfl rfl) rfl) ?_
  rintro _ w2 ⟨g1, rfl, hs4⟩
  refine st (v := .bool false) (x_assign .const) ?_
  refine c_nil ?_
  refine n_then ?_
  refine c_seq ?_
  refine c_region ?_
  refine st (v := .pointer (some ⟨g1, 0 + 1, none⟩)) (fa34_1 (.tmp rfl rfl)) ?_
  refine st (v := .int .i64 p) (ld3 (.tmp rfl rfl) (hs4.cell 0 rfl (0 + 1) rfl)) ?_
  refine st (v := .bool (decide ((0 : Int) ≤ p))) (x_geq (k := .i64) (a := p) (b := 0) (.tmp rfl rfl) .const) ?_
  refine st (v := .bool (decide ((0 : Int) ≤ p))) (x_move (.tmp rfl rfl)) ?_
  rcases Bool.eq_false_or_eq_true (decide ((0 : Int) ≤ p)) with hc5 | hc5
  · have hp5 : (0 : Int) ≤ p := of_decide_eq_true hc5
    refine g_yes (yl (dj := 6) (b := true) rfl rfl (congrArg Value.bool hc5)) ?_
    refine st (v := .pointer (some ⟨g1, 0 + 1, none⟩)) (fa34_1 (.tmp rfl rfl)) ?_
    refine g_yes (yl (dj := 6) (b := true) rfl rfl (congrArg Value.bool hc5)) ?_
    refine st (v := .int .i64 p) (ld3 (.tmp rfl rfl) (hs4.cell 0 rfl (0 + 1) rfl)) ?_
    refine g_yes (yl (dj := 6) (b := true) rfl rfl (congrArg Value.bool hc5)) ?_
    refine st (v := .bool (decide ((p : Int) < 16))) (x_lss (k := .i64) (a := p) (b := 16) (.tmp rfl rfl) .const) ?_
    refine st (v := .bool (decide ((p : Int) < 16))) (x_pick_t (.tmp rfl (congrArg Value.bool hc5)) (.tmp rfl rfl)) ?_
    refine st (v := .bool (decide ((p : Int) < 16))) (x_move (.tmp rfl rfl)) ?_
    rcases Bool.eq_false_or_eq_true (decide ((p : Int) < 16)) with hc6 | hc6
    · have hp6 : (p : Int) < 16 := of_decide_eq_true hc6
      refine g_yes (yl (dj := 11) (b := true) rfl rfl (congrArg Value.bool hc6)) ?_
      refine st (v := .pointer (some ⟨g1, 0 + 0, none⟩)) (fa34_0 (.tmp rfl rfl)) ?_
      refine g_yes (yl (dj := 11) (b := true) rfl rfl (congrArg Value.bool hc6)) ?_
      refine st (v := .int .u64 ((n : Nat) : Int)) (ld32 (.tmp rfl rfl) (hs4.cell 0 rfl (0 + 0) rfl)) ?_
      refine g_yes (yl (dj := 11) (b := true) rfl rfl (congrArg Value.bool hc6)) ?_
      refine st (v := .bool (decide ((0 : Int) < ((n : Nat) : Int)))) (x_gtr (k := .u64) (a := ((n : Nat) : Int)) (b := 0) (.tmp rfl rfl) .const) ?_
      refine g_yes (yl (dj := 11) (b := true) rfl rfl (congrArg Value.bool hc6)) ?_
      refine st (v := .bool (decide ((0 : Int) < ((n : Nat) : Int)))) (x_move (.tmp rfl rfl)) ?_
      rcases Bool.eq_false_or_eq_true (decide ((0 : Int) < ((n : Nat) : Int))) with hc7 | hc7
      · have hp7 : (0 : Int) < ((n : Nat) : Int) := of_decide_eq_true hc7
        refine g_no (yl (dj := 15) (b := true) rfl rfl (congrArg Value.bool hc7)) rfl ?_
        refine g_no (yl (dj := 15) (b := true) rfl rfl (congrArg Value.bool hc7)) rfl ?_
        refine g_no (yl (dj := 15) (b := true) rfl rfl (congrArg Value.bool hc7)) rfl ?_
        refine g_yes (yl (dj := 11) (b := true) rfl rfl (congrArg Value.bool hc6)) ?_
        refine st (v := .bool true) (x_pick_t (.tmp rfl (congrArg Value.bool hc7)) .const) ?_
        refine st (v := .bool true) (x_pick_t (.tmp rfl (congrArg Value.bool hc6)) (.tmp rfl rfl)) ?_
        refine st (v := .bool true) (x_assign (.tmp rfl rfl)) ?_
        refine c_nil ?_
        refine n_then ?_
        refine c_ret ?_
        refine leave_ret (res_one (v := .bool true) rfl (.mk rfl rfl)) ?_
        have hfm : true = formV n p := by
          unfold formV
          first | exact decide_eq_decide.2 (by omega) | exact (decide_eq_true (by omega)).symm | exact (decide_eq_false (by omega)).symm
        exact ⟨congrArg (fun b => Ending.returned (.bool b)) hfm, hs4.drop⟩
      · have hp7 : ¬ ((0 : Int) < ((n : Nat) : Int)) := of_decide_eq_false hc7
        refine g_yes (yl (dj := 15) (b := false) rfl rfl (congrArg Value.bool hc7)) ?_
        refine st (v := .pointer (some ⟨g1, 0 + 1, none⟩)) (fa34_1 (.tmp rfl rfl)) ?_
        refine g_yes (yl (dj := 15) (b := false) rfl rfl (congrArg Value.bool hc7)) ?_
        refine st (v := .int .i64 p) (ld3 (.tmp rfl rfl) (hs4.cell 0 rfl (0 + 1) rfl)) ?_
        refine g_yes (yl (dj := 15) (b := false) rfl rfl (congrArg Value.bool hc7)) ?_
        refine st (v := .bool (decide ((p : Int) = 0))) (x_eql (k := .i64) (a := p) (b := 0) (.tmp rfl rfl) .const) ?_
        refine g_yes (yl (dj := 11) (b := true) rfl rfl (congrArg Value.bool hc6)) ?_
        refine st (v := .bool (decide ((p : Int) = 0))) (x_pick_f (.tmp rfl (congrArg Value.bool hc7)) (.tmp rfl rfl)) ?_
        refine st (v := .bool (decide ((p : Int) = 0))) (x_pick_t (.tmp rfl (congrArg Value.bool hc6)) (.tmp rfl rfl)) ?_
        refine st (v := .bool (decide ((p : Int) = 0))) (x_assign (.tmp rfl rfl)) ?_
        refine c_nil ?_
        refine n_then ?_
        refine c_ret ?_
        refine leave_ret (res_one (v := .bool (decide ((p : Int) = 0))) rfl (.mk rfl rfl)) ?_
        have hfm : (decide ((p : Int) = 0)) = formV n p := by
          unfold formV
          first | exact decide_eq_decide.2 (by omega) | exact (decide_eq_true (by omega)).symm | exact (decide_eq_false (by omega)).symm
        exact ⟨congrArg (fun b => Ending.returned (.bool b)) hfm, hs4.drop⟩
    · have hp6 : ¬ ((p : Int) < 16) := of_decide_eq_false hc6
      refine g_no (yl (dj := 11) (b := false) rfl rfl (congrArg Value.bool hc6)) rfl ?_
      refine g_no (yl (dj := 11) (b := false) rfl rfl (congrArg Value.bool hc6)) rfl ?_
      refine g_no (yl (dj := 11) (b := false) rfl rfl (congrArg Value.bool hc6)) rfl ?_
      refine g_no (yl (dj := 11) (b := false) rfl rfl (congrArg Value.bool hc6)) rfl ?_
      refine g_no0 (yn (dj := 15) rfl rfl) ?_
      refine g_no0 (yn (dj := 15) rfl rfl) ?_
      refine g_no0 (yn (dj := 15) rfl rfl) ?_
      refine g_no (yl (dj := 11) (b := false) rfl rfl (congrArg Value.bool hc6)) rfl ?_
      refine st (v := .bool false) (x_pick_f (.tmp rfl (congrArg Value.bool hc6)) .const) ?_
      refine st (v := .bool false) (x_assign (.tmp rfl rfl)) ?_
      refine c_nil ?_
      refine n_then ?_
      refine c_ret ?_
      refine leave_ret (res_one (v := .bool false) rfl (.mk rfl rfl)) ?_
      have hfm : false = formV n p := by
        unfold formV
        first | exact decide_eq_decide.2 (by omega) | exact (decide_eq_true (by omega)).symm | exact (decide_eq_false (by omega)).symm
      exact ⟨congrArg (fun b => Ending.returned (.bool b)) hfm, hs4.drop⟩
  · have hp5 : ¬ ((0 : Int) ≤ p) := of_decide_eq_false hc5
    refine g_no (yl (dj := 6) (b := false) rfl rfl (congrArg Value.bool hc5)) rfl ?_
    refine g_no (yl (dj := 6) (b := false) rfl rfl (congrArg Value.bool hc5)) rfl ?_
    refine g_no (yl (dj := 6) (b := false) rfl rfl (congrArg Value.bool hc5)) rfl ?_
    refine st (v := .bool false) (x_pick_f (.tmp rfl (congrArg Value.bool hc5)) .const) ?_
    refine st (v := .bool false) (x_move (.tmp rfl rfl)) ?_
    refine g_no (yl (dj := 11) (b := false) rfl rfl rfl) rfl ?_
    refine g_no (yl (dj := 11) (b := false) rfl rfl rfl) rfl ?_
    refine g_no (yl (dj := 11) (b := false) rfl rfl rfl) rfl ?_
    refine g_no (yl (dj := 11) (b := false) rfl rfl rfl) rfl ?_
    refine g_no0 (yn (dj := 15) rfl rfl) ?_
    refine g_no0 (yn (dj := 15) rfl rfl) ?_
    refine g_no0 (yn (dj := 15) rfl rfl) ?_
    refine g_no (yl (dj := 11) (b := false) rfl rfl rfl) rfl ?_
    refine st (v := .bool false) (x_pick_f (.tmp rfl rfl) .const) ?_
    refine st (v := .bool false) (x_assign (.tmp rfl rfl)) ?_
    refine c_nil ?_
    refine n_then ?_
    refine c_ret ?_
    refine leave_ret (res_one (v := .bool false) rfl (.mk rfl rfl)) ?_
    have hfm : false = formV n p := by
      unfold formV
      first | exact decide_eq_decide.2 (by omega) | exact (decide_eq_true (by omega)).symm | exact (decide_eq_false (by omega)).symm
    exact ⟨congrArg (fun b => Ending.returned (.bool b)) hfm, hs4.drop⟩

set_option maxHeartbeats 8000000 in
theorem rform_spec {H : Hp} {w : World} {L : List Res} (hs : St H w L) (n : Nat) (p : Int) : Calls Tryd.prog 24 #[.agg #[.int .u64 ((n : Nat) : Int), .int .i64 p]] w (fun e w' => e = .returned (.bool (formV n p)) ∧ St H w' L) := by
  refine enter (args := [.agg #[.int .u64 ((n : Nat) : Int), .int .i64 p]]) (N := 17) Tryd.func24 rfl rfl rfl ?_
  refine c_seq ?_
  refine c_region ?_
  refine st_m (m_box (cs := [.int .u64 ((n : Nat) : Int), .int .i64 p]) hs (v := .agg #[.int .u64 ((n : Nat) : Int), .int .i64 p]) (.tmp rfl rfl) rfl) ?_
  rintro _ w2 ⟨g1, rfl, hs4⟩
  refine st (v := .bool false) (x_assign .const) ?_
  refine c_nil ?_
  refine n_then ?_
  refine c_seq ?_
  refine c_seq ?_
  refine c_region ?_
  refine st (v := .pointer (some ⟨g1, 0 + 0, none⟩)) (fa34_0 (.tmp rfl rfl)) ?_
  refine st (v := .int .u64 ((n : Nat) : Int)) (ld32 (.tmp rfl rfl) (hs4.cell 0 rfl (0 + 0) rfl)) ?_
  refine st (v := .bool (decide ((((n : Nat) : Int) : Int) = 0))) (x_eql (k := .u64) (a := ((n : Nat) : Int)) (b := 0) (.tmp rfl rfl) .const) ?_
  refine c_nil ?_
  refine n_then ?_
  rcases Bool.eq_false_or_eq_true (decide ((((n : Nat) : Int) : Int) = 0)) with hc5 | hc5
  · have hp5 : (((n : Nat) : Int) : Int) = 0 := of_decide_eq_true hc5
    refine c_cond_t (t := true) (.tmp rfl (congrArg Value.bool hc5)) rfl ?_
    refine c_seq ?_
    refine c_region ?_
    refine st (v := .pointer (some ⟨g1, 0 + 1, none⟩)) (fa34_1 (.tmp rfl rfl)) ?_
    refine st (v := .int .i64 p) (ld3 (.tmp rfl rfl) (hs4.cell 0 rfl (0 + 1) rfl)) ?_
    refine st (v := .bool (decide ((p : Int) = 0))) (x_eql (k := .i64) (a := p) (b := 0) (.tmp rfl rfl) .const) ?_
    refine st (v := .bool (decide ((p : Int) = 0))) (x_assign (.tmp rfl rfl)) ?_
    refine c_nil ?_
    refine n_then ?_
    refine c_ret ?_
    refine r_then ?_
    refine leave_ret (res_one (v := .bool (decide ((p : Int) = 0))) rfl (.mk rfl rfl)) ?_
    have hfm : (decide ((p : Int) = 0)) = formV n p := by
      unfold formV
      first | exact decide_eq_decide.2 (by omega) | exact (decide_eq_true (by omega)).symm | exact (decide_eq_false (by omega)).symm
    exact ⟨congrArg (fun b => Ending.returned (.bool b)) hfm, hs4.drop⟩
  · have hp5 : ¬ ((((n : Nat) : Int) : Int) = 0) := of_decide_eq_false hc5
    refine c_cond_f (t := false) (.tmp rfl (congrArg Value.bool hc5)) rfl ?_
    refine c_skip ?_
    refine n_then ?_
    refine c_seq ?_
    refine c_region ?_
    refine st (v := .pointer (some ⟨g1, 0 + 1, none⟩)) (fa34_1 (.tmp rfl rfl)) ?_
    refine st (v := .int .i64 p) (ld3 (.tmp rfl rfl) (hs4.cell 0 rfl (0 + 1) rfl)) ?_
    refine st (v := .bool (decide ((0 : Int) ≤ p))) (x_geq (k := .i64) (a := p) (b := 0) (.tmp rfl rfl) .const) ?_
    refine st (v := .bool (decide ((0 : Int) ≤ p))) (x_move (.tmp rfl rfl)) ?_
    rcases Bool.eq_false_or_eq_true (decide ((0 : Int) ≤ p)) with hc6 | hc6
    · have hp6 : (0 : Int) ≤ p := of_decide_eq_true hc6
      refine g_yes (yl (dj := 12) (b := true) rfl rfl (congrArg Value.bool hc6)) ?_
      refine st (v := .pointer (some ⟨g1, 0 + 1, none⟩)) (fa34_1 (.tmp rfl rfl)) ?_
      refine g_yes (yl (dj := 12) (b := true) rfl rfl (congrArg Value.bool hc6)) ?_
      refine st (v := .int .i64 p) (ld3 (.tmp rfl rfl) (hs4.cell 0 rfl (0 + 1) rfl)) ?_
      refine g_yes (yl (dj := 12) (b := true) rfl rfl (congrArg Value.bool hc6)) ?_
      refine st (v := .bool (decide ((p : Int) ≤ 15))) (x_leq (k := .i64) (a := p) (b := 15) (.tmp rfl rfl) .const) ?_
      refine st (v := .bool (decide ((p : Int) ≤ 15))) (x_pick_t (.tmp rfl (congrArg Value.bool hc6)) (.tmp rfl rfl)) ?_
      refine st (v := .bool (decide ((p : Int) ≤ 15))) (x_assign (.tmp rfl rfl)) ?_
      refine c_nil ?_
      refine n_then ?_
      refine c_ret ?_
      refine leave_ret (res_one (v := .bool (decide ((p : Int) ≤ 15))) rfl (.mk rfl rfl)) ?_
      have hfm : (decide ((p : Int) ≤ 15)) = formV n p := by
        unfold formV
        first | exact decide_eq_decide.2 (by omega) | exact (decide_eq_true (by omega)).symm | exact (decide_eq_false (by omega)).symm
      exact ⟨congrArg (fun b => Ending.returned (.bool b)) hfm, hs4.drop⟩
    · have hp6 : ¬ ((0 : Int) ≤ p) := of_decide_eq_false hc6
      refine g_no (yl (dj := 12) (b := false) rfl rfl (congrArg Value.bool hc6)) rfl ?_
      refine g_no (yl (dj := 12) (b := false) rfl rfl (congrArg Value.bool hc6)) rfl ?_
      refine g_no (yl (dj := 12) (b := false) rfl rfl (congrArg Value.bool hc6)) rfl ?_
      refine st (v := .bool false) (x_pick_f (.tmp rfl (congrArg Value.bool hc6)) .const) ?_
      refine st (v := .bool false) (x_assign (.tmp rfl rfl)) ?_
      refine c_nil ?_
      refine n_then ?_
      refine c_ret ?_
      refine leave_ret (res_one (v := .bool false) rfl (.mk rfl rfl)) ?_
      have hfm : false = formV n p := by
        unfold formV
        first | exact decide_eq_decide.2 (by omega) | exact (decide_eq_true (by omega)).symm | exact (decide_eq_false (by omega)).symm
      exact ⟨congrArg (fun b => Ending.returned (.bool b)) hfm, hs4.drop⟩

end Go.Proofs.YtdllflllhjaimaaDoor
