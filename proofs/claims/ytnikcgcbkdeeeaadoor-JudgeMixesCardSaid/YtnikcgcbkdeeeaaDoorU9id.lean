/- Steps of the proofs over the functions of this seat, printed by a program (gen.py) and checked by Lean. -/
import Derived.Test.YtnikcgcbkdeeeaaDoorUty
import Derived.Test.YtnikcgcbkdeeeaaDoorFmM4b
import Derived.Test.YtnikcgcbkdeeeaaDoorFmP
import Derived.Test.YtnikcgcbkdeeeaaDoorFmK
import Derived.Test.YtnikcgcbkdeeeaaDoorFmT
import Derived.Test.YtnikcgcbkdeeeaaDoorU9tab
set_option linter.unusedVariables false
set_option linter.unusedSimpArgs false
namespace Go.Proofs.YtnikcgcbkdeeeaaDoor
open Go Go.FM Go.Proofs
attribute [local irreducible] wpList wpQuiet wpS Code.wp Calls
set_option maxHeartbeats 8000000 in
theorem has_spec {H : Hp} {w : World} {L : List Res} (hs : St H w L) (s : Nat) (i : Int) (b_s : s < 65536) (b_i : -9223372036854775808 ≤ i ∧ i ≤ 9223372036854775807) : Calls Tryd.prog 28 #[.int .u16 ((s : Nat) : Int), .int .i64 i] w (fun e w' => e = .returned (.bool (has s i)) ∧ St H w' L) := by
  refine enter (args := [.int .u16 ((s : Nat) : Int), .int .i64 i]) (N := 18) Tryd.func28 rfl rfl rfl ?_
  refine c_seq ?_
  refine c_region ?_
  refine st (v := .bool false) (x_assign .const) ?_
  refine c_nil ?_
  refine n_then ?_
  refine c_seq ?_
  refine c_region ?_
  refine st (v := .int .i64 i) (x_move (.tmp rfl rfl)) ?_
  refine st (v := .bool (decide ((0 : Int) ≤ i))) (x_geq (k := .i64) (a := i) (b := 0) (.tmp rfl rfl) .const) ?_
  refine st (v := .bool (decide ((0 : Int) ≤ i))) (x_move (.tmp rfl rfl)) ?_
  rcases Bool.eq_false_or_eq_true (decide ((0 : Int) ≤ i)) with hc1 | hc1
  · have hp1 : (0 : Int) ≤ i := of_decide_eq_true hc1
    refine g_yes (yl (dj := 7) (b := true) rfl rfl (congrArg Value.bool hc1)) ?_
    refine st (v := .int .i64 i) (x_move (.tmp rfl rfl)) ?_
    refine g_yes (yl (dj := 7) (b := true) rfl rfl (congrArg Value.bool hc1)) ?_
    refine st (v := .bool (decide ((i : Int) < 16))) (x_lss (k := .i64) (a := i) (b := 16) (.tmp rfl rfl) .const) ?_
    refine st (v := .bool (decide ((i : Int) < 16))) (x_pick_t (.tmp rfl (congrArg Value.bool hc1)) (.tmp rfl rfl)) ?_
    refine st (v := .bool (decide ((i : Int) < 16))) (x_move (.tmp rfl rfl)) ?_
    rcases Bool.eq_false_or_eq_true (decide ((i : Int) < 16)) with hc2 | hc2
    · have hp2 : (i : Int) < 16 := of_decide_eq_true hc2
      refine g_yes (yl (dj := 11) (b := true) rfl rfl (congrArg Value.bool hc2)) ?_
      refine st (v := .int .u16 ((s : Nat) : Int)) (x_move (.tmp rfl rfl)) ?_
      refine g_yes (yl (dj := 11) (b := true) rfl rfl (congrArg Value.bool hc2)) ?_
      refine st (v := .int .i64 i) (x_move (.tmp rfl rfl)) ?_
      refine g_yes (yl (dj := 11) (b := true) rfl rfl (congrArg Value.bool hc2)) ?_
      have hb3 : (s / 2 ^ i.toNat) < 65536 := Nat.lt_of_le_of_lt (Nat.div_le_self _ _) b_s
      refine st (v := .int .u16 (((s / 2 ^ i.toNat) : Nat) : Int)) (x_shr (k := .u16) (m := s) (b := i) rfl (.tmp rfl rfl) (.tmp rfl rfl) (by omega) (show _ < 2 ^ 16 from b_s)) ?_
      refine g_yes (yl (dj := 11) (b := true) rfl rfl (congrArg Value.bool hc2)) ?_
      have hb4 : ((s / 2 ^ i.toNat) &&& 1) < 65536 := Nat.lt_of_le_of_lt Nat.and_le_left hb3
      refine st (v := .int .u16 ((((s / 2 ^ i.toNat) &&& 1) : Nat) : Int)) (x_and (k := .u16) (m := (s / 2 ^ i.toNat)) (n := 1) rfl (.tmp rfl rfl) .const (show _ < 2 ^ 16 from hb3) (show _ < 2 ^ 16 from (by decide))) ?_
      refine g_yes (yl (dj := 11) (b := true) rfl rfl (congrArg Value.bool hc2)) ?_
      refine st (v := .bool (decide ((((((s / 2 ^ i.toNat) &&& 1) : Nat) : Int) : Int) = 1))) (x_eql (k := .u16) (a := ((((s / 2 ^ i.toNat) &&& 1) : Nat) : Int)) (b := 1) (.tmp rfl rfl) .const) ?_
      refine st (v := .bool (decide ((((((s / 2 ^ i.toNat) &&& 1) : Nat) : Int) : Int) = 1))) (x_pick_t (.tmp rfl (congrArg Value.bool hc2)) (.tmp rfl rfl)) ?_
      refine st (v := .bool (decide ((((((s / 2 ^ i.toNat) &&& 1) : Nat) : Int) : Int) = 1))) (x_assign (.tmp rfl rfl)) ?_
      refine c_nil ?_
      refine n_then ?_
      refine c_ret ?_
      refine leave_ret (res_one (v := .bool (decide ((((((s / 2 ^ i.toNat) &&& 1) : Nat) : Int) : Int) = 1))) rfl (.mk rfl rfl)) ?_
      exact ⟨congrArg (fun b => Ending.returned (.bool b)) (has_yes (by omega) (by omega)), hs⟩
    · have hp2 : ¬ ((i : Int) < 16) := of_decide_eq_false hc2
      refine g_no (yl (dj := 11) (b := false) rfl rfl (congrArg Value.bool hc2)) rfl ?_
      refine g_no (yl (dj := 11) (b := false) rfl rfl (congrArg Value.bool hc2)) rfl ?_
      refine g_no (yl (dj := 11) (b := false) rfl rfl (congrArg Value.bool hc2)) rfl ?_
      refine g_no (yl (dj := 11) (b := false) rfl rfl (congrArg Value.bool hc2)) rfl ?_
      refine g_no (yl (dj := 11) (b := false) rfl rfl (congrArg Value.bool hc2)) rfl ?_
      refine st (v := .bool false) (x_pick_f (.tmp rfl (congrArg Value.bool hc2)) .const) ?_
      refine st (v := .bool false) (x_assign (.tmp rfl rfl)) ?_
      refine c_nil ?_
      refine n_then ?_
      refine c_ret ?_
      refine leave_ret (res_one (v := .bool false) rfl (.mk rfl rfl)) ?_
      exact ⟨congrArg (fun b => Ending.returned (.bool b)) (has_no (by omega)), hs⟩
  · have hp1 : ¬ ((0 : Int) ≤ i) := of_decide_eq_false hc1
    refine g_no (yl (dj := 7) (b := false) rfl rfl (congrArg Value.bool hc1)) rfl ?_
    refine g_no (yl (dj := 7) (b := false) rfl rfl (congrArg Value.bool hc1)) rfl ?_
    refine st (v := .bool false) (x_pick_f (.tmp rfl (congrArg Value.bool hc1)) .const) ?_
    refine st (v := .bool false) (x_move (.tmp rfl rfl)) ?_
    refine g_no (yl (dj := 11) (b := false) rfl rfl rfl) rfl ?_
    refine g_no (yl (dj := 11) (b := false) rfl rfl rfl) rfl ?_
    refine g_no (yl (dj := 11) (b := false) rfl rfl rfl) rfl ?_
    refine g_no (yl (dj := 11) (b := false) rfl rfl rfl) rfl ?_
    refine g_no (yl (dj := 11) (b := false) rfl rfl rfl) rfl ?_
    refine st (v := .bool false) (x_pick_f (.tmp rfl rfl) .const) ?_
    refine st (v := .bool false) (x_assign (.tmp rfl rfl)) ?_
    refine c_nil ?_
    refine n_then ?_
    refine c_ret ?_
    refine leave_ret (res_one (v := .bool false) rfl (.mk rfl rfl)) ?_
    exact ⟨congrArg (fun b => Ending.returned (.bool b)) (has_no (by omega)), hs⟩

set_option maxHeartbeats 8000000 in
theorem bit_spec {H : Hp} {w : World} {L : List Res} (hs : St H w L) (i : Int) (h0 : 0 ≤ i) (h1 : i < 16) : Calls Tryd.prog 50 #[.int .i64 i] w (fun e w' => e = .returned (.int .u16 ((2 ^ i.toNat : Nat) : Int)) ∧ St H w' L) := by
  refine enter (args := [.int .i64 i]) (N := 13) Tryd.func50 rfl rfl rfl ?_
  refine c_seq ?_
  refine c_region ?_
  refine st (v := .int .u16 0) (x_assign .const) ?_
  refine c_nil ?_
  refine n_then ?_
  refine c_seq ?_
  refine c_region ?_
  refine st (v := .int .u16 1) (x_assign .const) ?_
  refine c_nil ?_
  refine n_then ?_
  refine c_seq ?_
  refine c_seq ?_
  refine c_region ?_
  refine st (v := .int .i64 0) (x_assign .const) ?_
  refine c_nil ?_
  refine n_then ?_
  refine c_block ?_
  refine c_loop (fun ρ w mm => ∃ (j : Nat), ρ 0 = .int .i64 i ∧ ρ 3 = .int .u16 (((2 ^ j) : Nat) : Int) ∧ ρ 4 = .int .i64 ((j : Nat) : Int) ∧ ((j : Int) ≤ i) ∧ St H w (L) ∧ mm = i.toNat - j) _ ⟨0, rfl, rfl, rfl, (by omega), hs, rfl⟩ ?_
  rintro ρ w mm ⟨j, hρ2, hρ3, hρ4, hj, hs5, rfl⟩
  refine c_seq ?_
  refine c_seq ?_
  refine c_region ?_
  refine st (v := .int .i64 ((j : Nat) : Int)) (x_move (.tmp rfl hρ4)) ?_
  refine st (v := .int .i64 i) (x_move (.tmp rfl hρ2)) ?_
  refine st (v := .bool (decide ((((j : Nat) : Int) : Int) < i))) (x_lss (k := .i64) (a := ((j : Nat) : Int)) (b := i) (.tmp rfl rfl) (.tmp rfl rfl)) ?_
  refine c_nil ?_
  refine n_then ?_
  rcases Bool.eq_false_or_eq_true (decide ((((j : Nat) : Int) : Int) < i)) with hc6 | hc6
  · have hp6 : (((j : Nat) : Int) : Int) < i := of_decide_eq_true hc6
    refine c_cond_t (t := true) (.tmp rfl (congrArg Value.bool hc6)) rfl ?_
    refine c_skip ?_
    refine n_then ?_
    refine c_seq ?_
    refine c_block ?_
    refine c_region ?_
    refine st (v := .int .u16 (((2 ^ j) : Nat) : Int)) (x_move (.tmp rfl hρ3)) ?_
    refine st (v := .int .u16 (((((2 ^ j) * 2) % 65536) : Nat) : Int)) (x_mul (k := .u16) (a := (((2 ^ j) : Nat) : Int)) (b := 2) (.tmp rfl rfl) .const (wMulN (m := (2 ^ j)) (n := 2) _ rfl rfl rfl)) ?_
    refine st (v := .int .u16 (((((2 ^ j) * 2) % 65536) : Nat) : Int)) (x_assign (.tmp rfl rfl)) ?_
    refine c_nil ?_
    refine n_block ?_
    refine n_then ?_
    refine c_region ?_
    refine st (v := .int .i64 ((j : Nat) : Int)) (x_move (.tmp rfl hρ4)) ?_
    refine st (v := .int .i64 (((j : Nat) : Int) + 1)) (x_add (k := .i64) (a := ((j : Nat) : Int)) (b := 1) (.tmp rfl rfl) .const (w64 (by omega) (by omega))) ?_
    refine st (v := .int .i64 (((j : Nat) : Int) + 1)) (x_assign (.tmp rfl rfl)) ?_
    refine c_nil ?_
    refine n_then ⟨_, _, rfl, ?_, j + 1, hρ2, (congrArg (fun z : Nat => Value.int .u16 (z : Int)) (pow_next (by omega))), rfl, (by omega), hs5, rfl⟩
    omega
  · have hp6 : ¬ ((((j : Nat) : Int) : Int) < i) := of_decide_eq_false hc6
    refine c_cond_f (t := false) (.tmp rfl (congrArg Value.bool hc6)) rfl ?_
    refine c_exit ?_
    refine x_then ?_
    refine x_then ?_
    refine x_here ?_
    refine n_then ?_
    refine c_seq ?_
    refine c_region ?_
    refine st (v := .int .u16 (((2 ^ j) : Nat) : Int)) (x_move (.tmp rfl hρ3)) ?_
    refine st (v := .int .u16 (((2 ^ j) : Nat) : Int)) (x_assign (.tmp rfl rfl)) ?_
    refine c_nil ?_
    refine n_then ?_
    refine c_ret ?_
    refine leave_ret (res_one (v := .int .u16 (((2 ^ j) : Nat) : Int)) rfl (.mk rfl rfl)) ?_
    exact ⟨by rw [show i.toNat = j by omega], hs5⟩

set_option maxHeartbeats 8000000 in
theorem rhas_spec {H : Hp} {w : World} {L : List Res} (hs : St H w L) (s : Nat) (i : Int) (b_s : s < 65536) (b_i : -9223372036854775808 ≤ i ∧ i ≤ 9223372036854775807) : Calls Tryd.prog 40 #[.int .u16 ((s : Nat) : Int), .int .i64 i] w (fun e w' => e = .returned (.bool (has s i)) ∧ St H w' L) := by
  refine enter (args := [.int .u16 ((s : Nat) : Int), .int .i64 i]) (N := 19) Tryd.func40 rfl rfl rfl ?_
  refine c_seq ?_
  refine c_region ?_
  refine st (v := .bool false) (x_assign .const) ?_
  refine c_nil ?_
  refine n_then ?_
  refine c_seq ?_
  refine c_region ?_
  refine st (v := .int .i64 i) (x_move (.tmp rfl rfl)) ?_
  refine st (v := .bool (decide ((0 : Int) ≤ i))) (x_geq (k := .i64) (a := i) (b := 0) (.tmp rfl rfl) .const) ?_
  refine st (v := .bool (decide ((0 : Int) ≤ i))) (x_move (.tmp rfl rfl)) ?_
  rcases Bool.eq_false_or_eq_true (decide ((0 : Int) ≤ i)) with hc1 | hc1
  · have hp1 : (0 : Int) ≤ i := of_decide_eq_true hc1
    refine g_yes (yl (dj := 7) (b := true) rfl rfl (congrArg Value.bool hc1)) ?_
    refine st (v := .int .i64 i) (x_move (.tmp rfl rfl)) ?_
    refine g_yes (yl (dj := 7) (b := true) rfl rfl (congrArg Value.bool hc1)) ?_
    refine st (v := .bool (decide ((i : Int) < 16))) (x_lss (k := .i64) (a := i) (b := 16) (.tmp rfl rfl) .const) ?_
    refine st (v := .bool (decide ((i : Int) < 16))) (x_pick_t (.tmp rfl (congrArg Value.bool hc1)) (.tmp rfl rfl)) ?_
    refine st (v := .bool (decide ((i : Int) < 16))) (x_move (.tmp rfl rfl)) ?_
    rcases Bool.eq_false_or_eq_true (decide ((i : Int) < 16)) with hc2 | hc2
    · have hp2 : (i : Int) < 16 := of_decide_eq_true hc2
      refine g_yes (yl (dj := 11) (b := true) rfl rfl (congrArg Value.bool hc2)) ?_
      refine st (v := .int .u16 ((s : Nat) : Int)) (x_move (.tmp rfl rfl)) ?_
      refine g_yes (yl (dj := 11) (b := true) rfl rfl (congrArg Value.bool hc2)) ?_
      refine st (v := .int .i64 i) (x_move (.tmp rfl rfl)) ?_
      refine g_yes (yl (dj := 11) (b := true) rfl rfl (congrArg Value.bool hc2)) ?_
      have hbp := Nat.two_pow_pos i.toNat
      refine st_c cb50 .func (evs1 (.tmp rfl rfl)) (bit_spec hs i (by omega) (by omega)) ?_
      rintro e w3 ⟨rfl, hs4⟩
      refine ⟨_, rfl, ?_⟩
      refine g_yes (yl (dj := 11) (b := true) rfl rfl (congrArg Value.bool hc2)) ?_
      refine st (v := .int .u16 (((s / (2 ^ i.toNat)) : Nat) : Int)) (x_quoN (k := .u16) (m := s) (n := (2 ^ i.toNat)) (.tmp rfl rfl) (.tmp rfl rfl) (by omega) (.inr ⟨rfl, show _ < 2 ^ 16 from b_s⟩)) ?_
      refine g_yes (yl (dj := 11) (b := true) rfl rfl (congrArg Value.bool hc2)) ?_
      refine st (v := .int .u16 ((((s / (2 ^ i.toNat)) % 2) : Nat) : Int)) (x_remN (k := .u16) (m := (s / (2 ^ i.toNat))) (n := 2) (.tmp rfl rfl) .const (by omega)) ?_
      refine g_yes (yl (dj := 11) (b := true) rfl rfl (congrArg Value.bool hc2)) ?_
      refine st (v := .bool (decide ((((((s / (2 ^ i.toNat)) % 2) : Nat) : Int) : Int) = 1))) (x_eql (k := .u16) (a := ((((s / (2 ^ i.toNat)) % 2) : Nat) : Int)) (b := 1) (.tmp rfl rfl) .const) ?_
      refine st (v := .bool (decide ((((((s / (2 ^ i.toNat)) % 2) : Nat) : Int) : Int) = 1))) (x_pick_t (.tmp rfl (congrArg Value.bool hc2)) (.tmp rfl rfl)) ?_
      refine st (v := .bool (decide ((((((s / (2 ^ i.toNat)) % 2) : Nat) : Int) : Int) = 1))) (x_assign (.tmp rfl rfl)) ?_
      refine c_nil ?_
      refine n_then ?_
      refine c_ret ?_
      refine leave_ret (res_one (v := .bool (decide ((((((s / (2 ^ i.toNat)) % 2) : Nat) : Int) : Int) = 1))) rfl (.mk rfl rfl)) ?_
      exact ⟨congrArg (fun b => Ending.returned (.bool b)) (has_yes' (by omega) (by omega)), hs4⟩
    · have hp2 : ¬ ((i : Int) < 16) := of_decide_eq_false hc2
      refine g_no (yl (dj := 11) (b := false) rfl rfl (congrArg Value.bool hc2)) rfl ?_
      refine g_no (yl (dj := 11) (b := false) rfl rfl (congrArg Value.bool hc2)) rfl ?_
      refine g_no (yl (dj := 11) (b := false) rfl rfl (congrArg Value.bool hc2)) rfl ?_
      refine g_no (yl (dj := 11) (b := false) rfl rfl (congrArg Value.bool hc2)) rfl ?_
      refine g_no (yl (dj := 11) (b := false) rfl rfl (congrArg Value.bool hc2)) rfl ?_
      refine g_no (yl (dj := 11) (b := false) rfl rfl (congrArg Value.bool hc2)) rfl ?_
      refine st (v := .bool false) (x_pick_f (.tmp rfl (congrArg Value.bool hc2)) .const) ?_
      refine st (v := .bool false) (x_assign (.tmp rfl rfl)) ?_
      refine c_nil ?_
      refine n_then ?_
      refine c_ret ?_
      refine leave_ret (res_one (v := .bool false) rfl (.mk rfl rfl)) ?_
      exact ⟨congrArg (fun b => Ending.returned (.bool b)) (has_no (by omega)), hs⟩
  · have hp1 : ¬ ((0 : Int) ≤ i) := of_decide_eq_false hc1
    refine g_no (yl (dj := 7) (b := false) rfl rfl (congrArg Value.bool hc1)) rfl ?_
    refine g_no (yl (dj := 7) (b := false) rfl rfl (congrArg Value.bool hc1)) rfl ?_
    refine st (v := .bool false) (x_pick_f (.tmp rfl (congrArg Value.bool hc1)) .const) ?_
    refine st (v := .bool false) (x_move (.tmp rfl rfl)) ?_
    refine g_no (yl (dj := 11) (b := false) rfl rfl rfl) rfl ?_
    refine g_no (yl (dj := 11) (b := false) rfl rfl rfl) rfl ?_
    refine g_no (yl (dj := 11) (b := false) rfl rfl rfl) rfl ?_
    refine g_no (yl (dj := 11) (b := false) rfl rfl rfl) rfl ?_
    refine g_no (yl (dj := 11) (b := false) rfl rfl rfl) rfl ?_
    refine g_no (yl (dj := 11) (b := false) rfl rfl rfl) rfl ?_
    refine st (v := .bool false) (x_pick_f (.tmp rfl rfl) .const) ?_
    refine st (v := .bool false) (x_assign (.tmp rfl rfl)) ?_
    refine c_nil ?_
    refine n_then ?_
    refine c_ret ?_
    refine leave_ret (res_one (v := .bool false) rfl (.mk rfl rfl)) ?_
    exact ⟨congrArg (fun b => Ending.returned (.bool b)) (has_no (by omega)), hs⟩

set_option maxHeartbeats 8000000 in
theorem nan_u_spec {H : Hp} {w : World} {L : List Res} (hs : St H w L) (a : Int) : Calls Tryd.prog 51 #[.int .u64 a] w (fun e w' => e = .returned (.bool false) ∧ St H w' L) := by
  refine enter (args := [.int .u64 a]) (N := 6) Tryd.func51 rfl rfl rfl ?_
  refine c_seq ?_
  refine c_region ?_
  refine st (v := .bool false) (x_assign .const) ?_
  refine c_nil ?_
  refine n_then ?_
  refine c_seq ?_
  refine c_region ?_
  refine st (v := .int .u64 a) (x_move (.tmp rfl rfl)) ?_
  refine st (v := .int .u64 a) (x_move (.tmp rfl rfl)) ?_
  refine st (v := .bool (decide ((a : Int) ≠ a))) (x_neq (k := .u64) (a := a) (b := a) (.tmp rfl rfl) (.tmp rfl rfl)) ?_
  refine st (v := .bool false) (x_assign (.tmp rfl (congrArg Value.bool (show (decide ((a : Int) ≠ a)) = false from by simp)))) ?_
  refine c_nil ?_
  refine n_then ?_
  refine c_ret ?_
  refine leave_ret (res_one (v := .bool false) rfl (.mk rfl rfl)) ?_
  exact ⟨rfl, hs⟩

set_option maxHeartbeats 8000000 in
theorem cmp_u_spec {H : Hp} {w : World} {L : List Res} (hs : St H w L) (a b : Int) : Calls Tryd.prog 47 #[.int .u64 a, .int .u64 b] w (fun e w' => e = .returned (.int .i64 (cmpI a b)) ∧ St H w' L) := by
  refine enter (args := [.int .u64 a, .int .u64 b]) (N := 20) Tryd.func47 rfl rfl rfl ?_
  refine c_seq ?_
  refine c_region ?_
  refine st (v := .int .i64 0) (x_assign .const) ?_
  refine c_nil ?_
  refine n_then ?_
  refine c_seq ?_
  refine c_region ?_
  refine st (v := .int .u64 a) (x_move (.tmp rfl rfl)) ?_
  refine st_c cb51 .func (evs1 (.tmp rfl rfl)) (nan_u_spec hs a) ?_
  rintro e w1 ⟨rfl, hs2⟩
  refine ⟨_, rfl, ?_⟩
  refine st (v := .bool false) (x_assign (.tmp rfl rfl)) ?_
  refine c_nil ?_
  refine n_then ?_
  refine c_seq ?_
  refine c_region ?_
  refine st (v := .int .u64 b) (x_move (.tmp rfl rfl)) ?_
  refine st_c cb51 .func (evs1 (.tmp rfl rfl)) (nan_u_spec hs2 b) ?_
  rintro e w3 ⟨rfl, hs4⟩
  refine ⟨_, rfl, ?_⟩
  refine st (v := .bool false) (x_assign (.tmp rfl rfl)) ?_
  refine c_nil ?_
  refine n_then ?_
  refine c_seq ?_
  refine c_seq ?_
  refine c_region ?_
  refine st (v := .bool false) (x_move (.tmp rfl rfl)) ?_
  refine c_nil ?_
  refine n_then ?_
  refine c_cond_f (t := false) (.tmp rfl rfl) rfl ?_
  refine c_skip ?_
  refine n_then ?_
  refine c_seq ?_
  refine c_seq ?_
  refine c_region ?_
  refine st (v := .bool false) (x_move (.tmp rfl rfl)) ?_
  refine c_nil ?_
  refine n_then ?_
  refine c_cond_f (t := false) (.tmp rfl rfl) rfl ?_
  refine c_skip ?_
  refine n_then ?_
  refine c_seq ?_
  refine c_seq ?_
  refine c_region ?_
  refine st (v := .int .u64 a) (x_move (.tmp rfl rfl)) ?_
  refine st (v := .int .u64 b) (x_move (.tmp rfl rfl)) ?_
  refine st (v := .bool (decide ((a : Int) < b))) (x_lss (k := .u64) (a := a) (b := b) (.tmp rfl rfl) (.tmp rfl rfl)) ?_
  refine c_nil ?_
  refine n_then ?_
  rcases Bool.eq_false_or_eq_true (decide ((a : Int) < b)) with hc5 | hc5
  · have hp5 : (a : Int) < b := of_decide_eq_true hc5
    refine c_cond_t (t := true) (.tmp rfl (congrArg Value.bool hc5)) rfl ?_
    refine c_seq ?_
    refine c_region ?_
    refine st (v := .int .i64 (-1)) (x_assign .const) ?_
    refine c_nil ?_
    refine n_then ?_
    refine c_ret ?_
    refine r_then ?_
    refine leave_ret (res_one (v := .int .i64 (-1)) rfl (.mk rfl rfl)) ?_
    have hcm : (-1) = cmpI a b := by
      unfold cmpI
      repeat' split
      all_goals omega
    exact ⟨congrArg (fun z => Ending.returned (.int .i64 z)) hcm, hs4⟩
  · have hp5 : ¬ ((a : Int) < b) := of_decide_eq_false hc5
    refine c_cond_f (t := false) (.tmp rfl (congrArg Value.bool hc5)) rfl ?_
    refine c_skip ?_
    refine n_then ?_
    refine c_seq ?_
    refine c_seq ?_
    refine c_region ?_
    refine st (v := .int .u64 a) (x_move (.tmp rfl rfl)) ?_
    refine st (v := .int .u64 b) (x_move (.tmp rfl rfl)) ?_
    refine st (v := .bool (decide ((b : Int) < a))) (x_gtr (k := .u64) (a := a) (b := b) (.tmp rfl rfl) (.tmp rfl rfl)) ?_
    refine c_nil ?_
    refine n_then ?_
    rcases Bool.eq_false_or_eq_true (decide ((b : Int) < a)) with hc6 | hc6
    · have hp6 : (b : Int) < a := of_decide_eq_true hc6
      refine c_cond_t (t := true) (.tmp rfl (congrArg Value.bool hc6)) rfl ?_
      refine c_seq ?_
      refine c_region ?_
      refine st (v := .int .i64 1) (x_assign .const) ?_
      refine c_nil ?_
      refine n_then ?_
      refine c_ret ?_
      refine r_then ?_
      refine leave_ret (res_one (v := .int .i64 1) rfl (.mk rfl rfl)) ?_
      have hcm : 1 = cmpI a b := by
        unfold cmpI
        repeat' split
        all_goals omega
      exact ⟨congrArg (fun z => Ending.returned (.int .i64 z)) hcm, hs4⟩
    · have hp6 : ¬ ((b : Int) < a) := of_decide_eq_false hc6
      refine c_cond_f (t := false) (.tmp rfl (congrArg Value.bool hc6)) rfl ?_
      refine c_skip ?_
      refine n_then ?_
      refine c_seq ?_
      refine c_region ?_
      refine st (v := .int .i64 0) (x_assign .const) ?_
      refine c_nil ?_
      refine n_then ?_
      refine c_ret ?_
      refine leave_ret (res_one (v := .int .i64 0) rfl (.mk rfl rfl)) ?_
      have hcm : 0 = cmpI a b := by
        unfold cmpI
        repeat' split
        all_goals omega
      exact ⟨congrArg (fun z => Ending.returned (.int .i64 z)) hcm, hs4⟩

set_option maxHeartbeats 8000000 in
theorem nan_i_spec {H : Hp} {w : World} {L : List Res} (hs : St H w L) (a : Int) : Calls Tryd.prog 52 #[.int .i64 a] w (fun e w' => e = .returned (.bool false) ∧ St H w' L) := by
  refine enter (args := [.int .i64 a]) (N := 6) Tryd.func52 rfl rfl rfl ?_
  refine c_seq ?_
  refine c_region ?_
  refine st (v := .bool false) (x_assign .const) ?_
  refine c_nil ?_
  refine n_then ?_
  refine c_seq ?_
  refine c_region ?_
  refine st (v := .int .i64 a) (x_move (.tmp rfl rfl)) ?_
  refine st (v := .int .i64 a) (x_move (.tmp rfl rfl)) ?_
  refine st (v := .bool (decide ((a : Int) ≠ a))) (x_neq (k := .i64) (a := a) (b := a) (.tmp rfl rfl) (.tmp rfl rfl)) ?_
  refine st (v := .bool false) (x_assign (.tmp rfl (congrArg Value.bool (show (decide ((a : Int) ≠ a)) = false from by simp)))) ?_
  refine c_nil ?_
  refine n_then ?_
  refine c_ret ?_
  refine leave_ret (res_one (v := .bool false) rfl (.mk rfl rfl)) ?_
  exact ⟨rfl, hs⟩

set_option maxHeartbeats 8000000 in
theorem cmp_i_spec {H : Hp} {w : World} {L : List Res} (hs : St H w L) (a b : Int) : Calls Tryd.prog 48 #[.int .i64 a, .int .i64 b] w (fun e w' => e = .returned (.int .i64 (cmpI a b)) ∧ St H w' L) := by
  refine enter (args := [.int .i64 a, .int .i64 b]) (N := 20) Tryd.func48 rfl rfl rfl ?_
  refine c_seq ?_
  refine c_region ?_
  refine st (v := .int .i64 0) (x_assign .const) ?_
  refine c_nil ?_
  refine n_then ?_
  refine c_seq ?_
  refine c_region ?_
  refine st (v := .int .i64 a) (x_move (.tmp rfl rfl)) ?_
  refine st_c cb52 .func (evs1 (.tmp rfl rfl)) (nan_i_spec hs a) ?_
  rintro e w1 ⟨rfl, hs2⟩
  refine ⟨_, rfl, ?_⟩
  refine st (v := .bool false) (x_assign (.tmp rfl rfl)) ?_
  refine c_nil ?_
  refine n_then ?_
  refine c_seq ?_
  refine c_region ?_
  refine st (v := .int .i64 b) (x_move (.tmp rfl rfl)) ?_
  refine st_c cb52 .func (evs1 (.tmp rfl rfl)) (nan_i_spec hs2 b) ?_
  rintro e w3 ⟨rfl, hs4⟩
  refine ⟨_, rfl, ?_⟩
  refine st (v := .bool false) (x_assign (.tmp rfl rfl)) ?_
  refine c_nil ?_
  refine n_then ?_
  refine c_seq ?_
  refine c_seq ?_
  refine c_region ?_
  refine st (v := .bool false) (x_move (.tmp rfl rfl)) ?_
  refine c_nil ?_
  refine n_then ?_
  refine c_cond_f (t := false) (.tmp rfl rfl) rfl ?_
  refine c_skip ?_
  refine n_then ?_
  refine c_seq ?_
  refine c_seq ?_
  refine c_region ?_
  refine st (v := .bool false) (x_move (.tmp rfl rfl)) ?_
  refine c_nil ?_
  refine n_then ?_
  refine c_cond_f (t := false) (.tmp rfl rfl) rfl ?_
  refine c_skip ?_
  refine n_then ?_
  refine c_seq ?_
  refine c_seq ?_
  refine c_region ?_
  refine st (v := .int .i64 a) (x_move (.tmp rfl rfl)) ?_
  refine st (v := .int .i64 b) (x_move (.tmp rfl rfl)) ?_
  refine st (v := .bool (decide ((a : Int) < b))) (x_lss (k := .i64) (a := a) (b := b) (.tmp rfl rfl) (.tmp rfl rfl)) ?_
  refine c_nil ?_
  refine n_then ?_
  rcases Bool.eq_false_or_eq_true (decide ((a : Int) < b)) with hc5 | hc5
  · have hp5 : (a : Int) < b := of_decide_eq_true hc5
    refine c_cond_t (t := true) (.tmp rfl (congrArg Value.bool hc5)) rfl ?_
    refine c_seq ?_
    refine c_region ?_
    refine st (v := .int .i64 (-1)) (x_assign .const) ?_
    refine c_nil ?_
    refine n_then ?_
    refine c_ret ?_
    refine r_then ?_
    refine leave_ret (res_one (v := .int .i64 (-1)) rfl (.mk rfl rfl)) ?_
    have hcm : (-1) = cmpI a b := by
      unfold cmpI
      repeat' split
      all_goals omega
    exact ⟨congrArg (fun z => Ending.returned (.int .i64 z)) hcm, hs4⟩
  · have hp5 : ¬ ((a : Int) < b) := of_decide_eq_false hc5
    refine c_cond_f (t := false) (.tmp rfl (congrArg Value.bool hc5)) rfl ?_
    refine c_skip ?_
    refine n_then ?_
    refine c_seq ?_
    refine c_seq ?_
    refine c_region ?_
    refine st (v := .int .i64 a) (x_move (.tmp rfl rfl)) ?_
    refine st (v := .int .i64 b) (x_move (.tmp rfl rfl)) ?_
    refine st (v := .bool (decide ((b : Int) < a))) (x_gtr (k := .i64) (a := a) (b := b) (.tmp rfl rfl) (.tmp rfl rfl)) ?_
    refine c_nil ?_
    refine n_then ?_
    rcases Bool.eq_false_or_eq_true (decide ((b : Int) < a)) with hc6 | hc6
    · have hp6 : (b : Int) < a := of_decide_eq_true hc6
      refine c_cond_t (t := true) (.tmp rfl (congrArg Value.bool hc6)) rfl ?_
      refine c_seq ?_
      refine c_region ?_
      refine st (v := .int .i64 1) (x_assign .const) ?_
      refine c_nil ?_
      refine n_then ?_
      refine c_ret ?_
      refine r_then ?_
      refine leave_ret (res_one (v := .int .i64 1) rfl (.mk rfl rfl)) ?_
      have hcm : 1 = cmpI a b := by
        unfold cmpI
        repeat' split
        all_goals omega
      exact ⟨congrArg (fun z => Ending.returned (.int .i64 z)) hcm, hs4⟩
    · have hp6 : ¬ ((b : Int) < a) := of_decide_eq_false hc6
      refine c_cond_f (t := false) (.tmp rfl (congrArg Value.bool hc6)) rfl ?_
      refine c_skip ?_
      refine n_then ?_
      refine c_seq ?_
      refine c_region ?_
      refine st (v := .int .i64 0) (x_assign .const) ?_
      refine c_nil ?_
      refine n_then ?_
      refine c_ret ?_
      refine leave_ret (res_one (v := .int .i64 0) rfl (.mk rfl rfl)) ?_
      have hcm : 0 = cmpI a b := by
        unfold cmpI
        repeat' split
        all_goals omega
      exact ⟨congrArg (fun z => Ending.returned (.int .i64 z)) hcm, hs4⟩

set_option maxHeartbeats 8000000 in
theorem compare_spec {H : Hp} {w : World} {L : List Res} (hs : St H w L) (an : Nat) (ap : Int) (bn : Nat) (bp : Int) : Calls Tryd.prog 38 #[.agg #[.int .u64 ((an : Nat) : Int), .int .i64 ap], .agg #[.int .u64 ((bn : Nat) : Int), .int .i64 bp]] w (fun e w' => e = .returned (.int .i64 (cmpV an ap bn bp)) ∧ St H w' L) := by
  refine enter (args := [.agg #[.int .u64 ((an : Nat) : Int), .int .i64 ap], .agg #[.int .u64 ((bn : Nat) : Int), .int .i64 bp]]) (N := 19) Tryd.func38 rfl rfl rfl ?_
  refine c_seq ?_
  refine c_region ?_
  refine st_m (m_box (cs := [.int .u64 ((an : Nat) : Int), .int .i64 ap]) hs (v := .agg #[.int .u64 ((an : Nat) : Int), .int .i64 ap]) (.tmp rfl rfl) rfl) ?_
  rintro _ w2 ⟨g1, rfl, hs4⟩
  refine st_m (m_box (cs := [.int .u64 ((bn : Nat) : Int), .int .i64 bp]) hs4 (v := .agg #[.int .u64 ((bn : Nat) : Int), .int .i64 bp]) (.tmp rfl rfl) rfl) ?_
  rintro _ w6 ⟨g5, rfl, hs8⟩
  refine st (v := .int .i64 0) (x_assign .const) ?_
  refine c_nil ?_
  refine n_then ?_
  refine c_seq ?_
  refine c_seq ?_
  refine c_region ?_
  refine st (v := .pointer (some ⟨g1, 0 + 0, none⟩)) (fa44_0 (.tmp rfl rfl)) ?_
  refine st (v := .int .u64 ((an : Nat) : Int)) (ld42 (.tmp rfl rfl) (hs8.cell 1 rfl (0 + 0) rfl)) ?_
  refine st (v := .pointer (some ⟨g5, 0 + 0, none⟩)) (fa44_0 (.tmp rfl rfl)) ?_
  refine st (v := .int .u64 ((bn : Nat) : Int)) (ld42 (.tmp rfl rfl) (hs8.cell 0 rfl (0 + 0) rfl)) ?_
  refine st_c cb47 .func (evs2 (.tmp rfl rfl) (.tmp rfl rfl)) (cmp_u_spec hs8 ((an : Nat) : Int) ((bn : Nat) : Int)) ?_
  rintro e w9 ⟨rfl, hs10⟩
  refine ⟨_, rfl, ?_⟩
  refine st (v := .int .i64 (cmpI ((an : Nat) : Int) ((bn : Nat) : Int))) (x_assign (.tmp rfl rfl)) ?_
  refine c_nil ?_
  refine n_then ?_
  refine c_seq ?_
  refine c_region ?_
  refine st (v := .int .i64 (cmpI ((an : Nat) : Int) ((bn : Nat) : Int))) (x_move (.tmp rfl rfl)) ?_
  refine st (v := .bool (decide (((cmpI ((an : Nat) : Int) ((bn : Nat) : Int)) : Int) ≠ 0))) (x_neq (k := .i64) (a := (cmpI ((an : Nat) : Int) ((bn : Nat) : Int))) (b := 0) (.tmp rfl rfl) .const) ?_
  refine c_nil ?_
  refine n_then ?_
  rcases Bool.eq_false_or_eq_true (decide (((cmpI ((an : Nat) : Int) ((bn : Nat) : Int)) : Int) ≠ 0)) with hc11 | hc11
  · have hp11 : ((cmpI ((an : Nat) : Int) ((bn : Nat) : Int)) : Int) ≠ 0 := of_decide_eq_true hc11
    refine c_cond_t (t := true) (.tmp rfl (congrArg Value.bool hc11)) rfl ?_
    refine c_seq ?_
    refine c_region ?_
    refine st (v := .int .i64 (cmpI ((an : Nat) : Int) ((bn : Nat) : Int))) (x_move (.tmp rfl rfl)) ?_
    refine st (v := .int .i64 (cmpI ((an : Nat) : Int) ((bn : Nat) : Int))) (x_assign (.tmp rfl rfl)) ?_
    refine c_nil ?_
    refine n_then ?_
    refine c_ret ?_
    refine r_then ?_
    refine leave_ret (res_one (v := .int .i64 (cmpI ((an : Nat) : Int) ((bn : Nat) : Int))) rfl (.mk rfl rfl)) ?_
    exact ⟨congrArg (fun z => Ending.returned (.int .i64 z)) (by first | exact cmpV_ne (by assumption) | exact cmpV_eq (by assumption)), hs10.drop.drop⟩
  · have hp11 : ¬ (((cmpI ((an : Nat) : Int) ((bn : Nat) : Int)) : Int) ≠ 0) := of_decide_eq_false hc11
    refine c_cond_f (t := false) (.tmp rfl (congrArg Value.bool hc11)) rfl ?_
    refine c_skip ?_
    refine n_then ?_
    refine c_seq ?_
    refine c_region ?_
    refine st (v := .pointer (some ⟨g1, 0 + 1, none⟩)) (fa44_1 (.tmp rfl rfl)) ?_
    refine st (v := .int .i64 ap) (ld3 (.tmp rfl rfl) (hs10.cell 1 rfl (0 + 1) rfl)) ?_
    refine st (v := .pointer (some ⟨g5, 0 + 1, none⟩)) (fa44_1 (.tmp rfl rfl)) ?_
    refine st (v := .int .i64 bp) (ld3 (.tmp rfl rfl) (hs10.cell 0 rfl (0 + 1) rfl)) ?_
    refine st_c cb48 .func (evs2 (.tmp rfl rfl) (.tmp rfl rfl)) (cmp_i_spec hs10 ap bp) ?_
    rintro e w12 ⟨rfl, hs13⟩
    refine ⟨_, rfl, ?_⟩
    refine st (v := .int .i64 (cmpI ap bp)) (x_assign (.tmp rfl rfl)) ?_
    refine c_nil ?_
    refine n_then ?_
    refine c_ret ?_
    refine leave_ret (res_one (v := .int .i64 (cmpI ap bp)) rfl (.mk rfl rfl)) ?_
    exact ⟨congrArg (fun z => Ending.returned (.int .i64 z)) (by first | exact cmpV_ne (by assumption) | exact cmpV_eq (by assumption)), hs13.drop.drop⟩

set_option maxHeartbeats 8000000 in
theorem rcompare_spec {H : Hp} {w : World} {L : List Res} (hs : St H w L) (an : Nat) (ap : Int) (bn : Nat) (bp : Int) : Calls Tryd.prog 41 #[.agg #[.int .u64 ((an : Nat) : Int), .int .i64 ap], .agg #[.int .u64 ((bn : Nat) : Int), .int .i64 bp]] w (fun e w' => e = .returned (.int .i64 (cmpV an ap bn bp)) ∧ St H w' L) := by
  refine enter (args := [.agg #[.int .u64 ((an : Nat) : Int), .int .i64 ap], .agg #[.int .u64 ((bn : Nat) : Int), .int .i64 bp]]) (N := 29) Tryd.func41 rfl rfl rfl ?_
  refine c_seq ?_
  refine c_region ?_
  refine st_m (m_box (cs := [.int .u64 ((an : Nat) : Int), .int .i64 ap]) hs (v := .agg #[.int .u64 ((an : Nat) : Int), .int .i64 ap]) (.tmp rfl rfl) rfl) ?_
  rintro _ w2 ⟨g1, rfl, hs4⟩
  refine st_m (m_box (cs := [.int .u64 ((bn : Nat) : Int), .int .i64 bp]) hs4 (v := .agg #[.int .u64 ((bn : Nat) : Int), .int .i64 bp]) (.tmp rfl rfl) rfl) ?_
  rintro _ w6 ⟨g5, rfl, hs8⟩
  refine st (v := .int .i64 0) (x_assign .const) ?_
  refine c_nil ?_
  refine n_then ?_
  refine c_seq ?_
  refine c_block ?_
  refine c_seq ?_
  refine c_region ?_
  refine st (v := .pointer (some ⟨g1, 0 + 0, none⟩)) (fa44_0 (.tmp rfl rfl)) ?_
  refine st (v := .int .u64 ((an : Nat) : Int)) (ld42 (.tmp rfl rfl) (hs8.cell 1 rfl (0 + 0) rfl)) ?_
  refine st (v := .pointer (some ⟨g5, 0 + 0, none⟩)) (fa44_0 (.tmp rfl rfl)) ?_
  refine st (v := .int .u64 ((bn : Nat) : Int)) (ld42 (.tmp rfl rfl) (hs8.cell 0 rfl (0 + 0) rfl)) ?_
  refine st (v := .bool (decide ((((an : Nat) : Int) : Int) < ((bn : Nat) : Int)))) (x_lss (k := .u64) (a := ((an : Nat) : Int)) (b := ((bn : Nat) : Int)) (.tmp rfl rfl) (.tmp rfl rfl)) ?_
  refine st (v := .bool (decide ((((an : Nat) : Int) : Int) < ((bn : Nat) : Int)))) (x_move (.tmp rfl rfl)) ?_
  rcases Bool.eq_false_or_eq_true (decide ((((an : Nat) : Int) : Int) < ((bn : Nat) : Int))) with hc9 | hc9
  · have hp9 : (((an : Nat) : Int) : Int) < ((bn : Nat) : Int) := of_decide_eq_true hc9
    refine g_no (yl (dj := 11) (b := true) rfl rfl (congrArg Value.bool hc9)) rfl ?_
    refine g_no (yl (dj := 11) (b := true) rfl rfl (congrArg Value.bool hc9)) rfl ?_
    refine g_no (yl (dj := 11) (b := true) rfl rfl (congrArg Value.bool hc9)) rfl ?_
    refine g_no (yl (dj := 11) (b := true) rfl rfl (congrArg Value.bool hc9)) rfl ?_
    refine g_no (yl (dj := 11) (b := true) rfl rfl (congrArg Value.bool hc9)) rfl ?_
    refine g_no (yl (dj := 11) (b := true) rfl rfl (congrArg Value.bool hc9)) rfl ?_
    refine g_no0 (yn (dj := 17) rfl rfl) ?_
    refine g_no0 (yn (dj := 17) rfl rfl) ?_
    refine g_no0 (yn (dj := 17) rfl rfl) ?_
    refine g_no0 (yn (dj := 17) rfl rfl) ?_
    refine g_no0 (yn (dj := 17) rfl rfl) ?_
    refine g_no (yl (dj := 11) (b := true) rfl rfl (congrArg Value.bool hc9)) rfl ?_
    refine st (v := .bool true) (x_pick_t (.tmp rfl (congrArg Value.bool hc9)) .const) ?_
    refine st (v := .bool true) (x_assign (.tmp rfl rfl)) ?_
    refine c_nil ?_
    refine n_then ?_
    refine c_cond_t (t := true) (.tmp rfl rfl) rfl ?_
    refine c_seq ?_
    refine c_region ?_
    refine st (v := .int .i64 (-1)) (x_assign .const) ?_
    refine c_nil ?_
    refine n_then ?_
    refine c_ret ?_
    refine r_block ?_
    refine r_then ?_
    refine leave_ret (res_one (v := .int .i64 (-1)) rfl (.mk rfl rfl)) ?_
    have hcm : (-1) = cmpV an ap bn bp := by
      unfold cmpV cmpI
      repeat' split
      all_goals omega
    exact ⟨congrArg (fun z => Ending.returned (.int .i64 z)) hcm, hs8.drop.drop⟩
  · have hp9 : ¬ ((((an : Nat) : Int) : Int) < ((bn : Nat) : Int)) := of_decide_eq_false hc9
    refine g_yes (yl (dj := 11) (b := false) rfl rfl (congrArg Value.bool hc9)) ?_
    refine st (v := .pointer (some ⟨g1, 0 + 0, none⟩)) (fa44_0 (.tmp rfl rfl)) ?_
    refine g_yes (yl (dj := 11) (b := false) rfl rfl (congrArg Value.bool hc9)) ?_
    refine st (v := .int .u64 ((an : Nat) : Int)) (ld42 (.tmp rfl rfl) (hs8.cell 1 rfl (0 + 0) rfl)) ?_
    refine g_yes (yl (dj := 11) (b := false) rfl rfl (congrArg Value.bool hc9)) ?_
    refine st (v := .pointer (some ⟨g5, 0 + 0, none⟩)) (fa44_0 (.tmp rfl rfl)) ?_
    refine g_yes (yl (dj := 11) (b := false) rfl rfl (congrArg Value.bool hc9)) ?_
    refine st (v := .int .u64 ((bn : Nat) : Int)) (ld42 (.tmp rfl rfl) (hs8.cell 0 rfl (0 + 0) rfl)) ?_
    refine g_yes (yl (dj := 11) (b := false) rfl rfl (congrArg Value.bool hc9)) ?_
    refine st (v := .bool (decide ((((an : Nat) : Int) : Int) = ((bn : Nat) : Int)))) (x_eql (k := .u64) (a := ((an : Nat) : Int)) (b := ((bn : Nat) : Int)) (.tmp rfl rfl) (.tmp rfl rfl)) ?_
    refine g_yes (yl (dj := 11) (b := false) rfl rfl (congrArg Value.bool hc9)) ?_
    refine st (v := .bool (decide ((((an : Nat) : Int) : Int) = ((bn : Nat) : Int)))) (x_move (.tmp rfl rfl)) ?_
    rcases Bool.eq_false_or_eq_true (decide ((((an : Nat) : Int) : Int) = ((bn : Nat) : Int))) with hc10 | hc10
    · have hp10 : (((an : Nat) : Int) : Int) = ((bn : Nat) : Int) := of_decide_eq_true hc10
      refine g_yes (yl (dj := 17) (b := true) rfl rfl (congrArg Value.bool hc10)) ?_
      refine st (v := .pointer (some ⟨g1, 0 + 1, none⟩)) (fa44_1 (.tmp rfl rfl)) ?_
      refine g_yes (yl (dj := 17) (b := true) rfl rfl (congrArg Value.bool hc10)) ?_
      refine st (v := .int .i64 ap) (ld3 (.tmp rfl rfl) (hs8.cell 1 rfl (0 + 1) rfl)) ?_
      refine g_yes (yl (dj := 17) (b := true) rfl rfl (congrArg Value.bool hc10)) ?_
      refine st (v := .pointer (some ⟨g5, 0 + 1, none⟩)) (fa44_1 (.tmp rfl rfl)) ?_
      refine g_yes (yl (dj := 17) (b := true) rfl rfl (congrArg Value.bool hc10)) ?_
      refine st (v := .int .i64 bp) (ld3 (.tmp rfl rfl) (hs8.cell 0 rfl (0 + 1) rfl)) ?_
      refine g_yes (yl (dj := 17) (b := true) rfl rfl (congrArg Value.bool hc10)) ?_
      refine st (v := .bool (decide ((ap : Int) < bp))) (x_lss (k := .i64) (a := ap) (b := bp) (.tmp rfl rfl) (.tmp rfl rfl)) ?_
      refine g_yes (yl (dj := 11) (b := false) rfl rfl (congrArg Value.bool hc9)) ?_
      refine st (v := .bool (decide ((ap : Int) < bp))) (x_pick_t (.tmp rfl (congrArg Value.bool hc10)) (.tmp rfl rfl)) ?_
      refine st (v := .bool (decide ((ap : Int) < bp))) (x_pick_f (.tmp rfl (congrArg Value.bool hc9)) (.tmp rfl rfl)) ?_
      refine st (v := .bool (decide ((ap : Int) < bp))) (x_assign (.tmp rfl rfl)) ?_
      refine c_nil ?_
      refine n_then ?_
      rcases Bool.eq_false_or_eq_true (decide ((ap : Int) < bp)) with hc11 | hc11
      · have hp11 : (ap : Int) < bp := of_decide_eq_true hc11
        refine c_cond_t (t := true) (.tmp rfl (congrArg Value.bool hc11)) rfl ?_
        refine c_seq ?_
        refine c_region ?_
        refine st (v := .int .i64 (-1)) (x_assign .const) ?_
        refine c_nil ?_
        refine n_then ?_
        refine c_ret ?_
        refine r_block ?_
        refine r_then ?_
        refine leave_ret (res_one (v := .int .i64 (-1)) rfl (.mk rfl rfl)) ?_
        have hcm : (-1) = cmpV an ap bn bp := by
          unfold cmpV cmpI
          repeat' split
          all_goals omega
        exact ⟨congrArg (fun z => Ending.returned (.int .i64 z)) hcm, hs8.drop.drop⟩
      · have hp11 : ¬ ((ap : Int) < bp) := of_decide_eq_false hc11
        refine c_cond_f (t := false) (.tmp rfl (congrArg Value.bool hc11)) rfl ?_
        refine c_seq ?_
        refine c_region ?_
        refine st (v := .agg #[.int .u64 ((an : Nat) : Int), .int .i64 ap]) (ld44 (cs := [.int .u64 ((an : Nat) : Int), .int .i64 ap]) (.tmp rfl rfl) (hs8.at_ 1 rfl (0) rfl) rfl) ?_
        refine st (v := .agg #[.int .u64 ((bn : Nat) : Int), .int .i64 bp]) (ld44 (cs := [.int .u64 ((bn : Nat) : Int), .int .i64 bp]) (.tmp rfl rfl) (hs8.at_ 0 rfl (0) rfl) rfl) ?_
        refine st (v := .bool ((((an : Nat) : Int) == ((bn : Nat) : Int)) && ((ap == bp) && true))) (x_eqlA eqg44 (.tmp rfl rfl) (.tmp rfl rfl) (fun d => eqs44 (d + 98) _ ((an : Nat) : Int) ((bn : Nat) : Int) ap bp)) ?_
        refine st (v := .bool ((((an : Nat) : Int) == ((bn : Nat) : Int)) && ((ap == bp) && true))) (x_assign (.tmp rfl rfl)) ?_
        refine c_nil ?_
        refine n_then ?_
        rcases Bool.eq_false_or_eq_true ((((an : Nat) : Int) == ((bn : Nat) : Int)) && ((ap == bp) && true)) with hc12 | hc12
        · refine c_cond_t (t := true) (.tmp rfl (congrArg Value.bool hc12)) rfl ?_
          refine c_seq ?_
          refine c_region ?_
          refine st (v := .int .i64 0) (x_assign .const) ?_
          refine c_nil ?_
          refine n_then ?_
          refine c_ret ?_
          refine r_block ?_
          refine r_then ?_
          refine leave_ret (res_one (v := .int .i64 0) rfl (.mk rfl rfl)) ?_
          have hcm : 0 = cmpV an ap bn bp := by
            simp only [Bool.and_eq_true, beq_iff_eq, Bool.and_true] at hc12
            unfold cmpV cmpI
            repeat' split
            all_goals omega
          exact ⟨congrArg (fun z => Ending.returned (.int .i64 z)) hcm, hs8.drop.drop⟩
        · refine c_cond_f (t := false) (.tmp rfl (congrArg Value.bool hc12)) rfl ?_
          refine c_skip ?_
          refine n_block ?_
          refine n_then ?_
          refine c_seq ?_
          refine c_region ?_
          refine st (v := .int .i64 1) (x_assign .const) ?_
          refine c_nil ?_
          refine n_then ?_
          refine c_ret ?_
          refine leave_ret (res_one (v := .int .i64 1) rfl (.mk rfl rfl)) ?_
          have hcm : 1 = cmpV an ap bn bp := by
            have hne : ¬ ((an : Int) = bn ∧ ap = bp) := by simpa using hc12
            unfold cmpV cmpI
            repeat' split
            all_goals omega
          exact ⟨congrArg (fun z => Ending.returned (.int .i64 z)) hcm, hs8.drop.drop⟩
    · have hp10 : ¬ ((((an : Nat) : Int) : Int) = ((bn : Nat) : Int)) := of_decide_eq_false hc10
      refine g_no (yl (dj := 17) (b := false) rfl rfl (congrArg Value.bool hc10)) rfl ?_
      refine g_no (yl (dj := 17) (b := false) rfl rfl (congrArg Value.bool hc10)) rfl ?_
      refine g_no (yl (dj := 17) (b := false) rfl rfl (congrArg Value.bool hc10)) rfl ?_
      refine g_no (yl (dj := 17) (b := false) rfl rfl (congrArg Value.bool hc10)) rfl ?_
      refine g_no (yl (dj := 17) (b := false) rfl rfl (congrArg Value.bool hc10)) rfl ?_
      refine g_yes (yl (dj := 11) (b := false) rfl rfl (congrArg Value.bool hc9)) ?_
      refine st (v := .bool false) (x_pick_f (.tmp rfl (congrArg Value.bool hc10)) .const) ?_
      refine st (v := .bool false) (x_pick_f (.tmp rfl (congrArg Value.bool hc9)) (.tmp rfl rfl)) ?_
      refine st (v := .bool false) (x_assign (.tmp rfl rfl)) ?_
      refine c_nil ?_
      refine n_then ?_
      refine c_cond_f (t := false) (.tmp rfl rfl) rfl ?_
      refine c_seq ?_
      refine c_region ?_
      refine st (v := .agg #[.int .u64 ((an : Nat) : Int), .int .i64 ap]) (ld44 (cs := [.int .u64 ((an : Nat) : Int), .int .i64 ap]) (.tmp rfl rfl) (hs8.at_ 1 rfl (0) rfl) rfl) ?_
      refine st (v := .agg #[.int .u64 ((bn : Nat) : Int), .int .i64 bp]) (ld44 (cs := [.int .u64 ((bn : Nat) : Int), .int .i64 bp]) (.tmp rfl rfl) (hs8.at_ 0 rfl (0) rfl) rfl) ?_
      refine st (v := .bool ((((an : Nat) : Int) == ((bn : Nat) : Int)) && ((ap == bp) && true))) (x_eqlA eqg44 (.tmp rfl rfl) (.tmp rfl rfl) (fun d => eqs44 (d + 98) _ ((an : Nat) : Int) ((bn : Nat) : Int) ap bp)) ?_
      refine st (v := .bool ((((an : Nat) : Int) == ((bn : Nat) : Int)) && ((ap == bp) && true))) (x_assign (.tmp rfl rfl)) ?_
      refine c_nil ?_
      refine n_then ?_
      rcases Bool.eq_false_or_eq_true ((((an : Nat) : Int) == ((bn : Nat) : Int)) && ((ap == bp) && true)) with hc13 | hc13
      · refine c_cond_t (t := true) (.tmp rfl (congrArg Value.bool hc13)) rfl ?_
        refine c_seq ?_
        refine c_region ?_
        refine st (v := .int .i64 0) (x_assign .const) ?_
        refine c_nil ?_
        refine n_then ?_
        refine c_ret ?_
        refine r_block ?_
        refine r_then ?_
        refine leave_ret (res_one (v := .int .i64 0) rfl (.mk rfl rfl)) ?_
        have hcm : 0 = cmpV an ap bn bp := by
          simp only [Bool.and_eq_true, beq_iff_eq, Bool.and_true] at hc13
          unfold cmpV cmpI
          repeat' split
          all_goals omega
        exact ⟨congrArg (fun z => Ending.returned (.int .i64 z)) hcm, hs8.drop.drop⟩
      · refine c_cond_f (t := false) (.tmp rfl (congrArg Value.bool hc13)) rfl ?_
        refine c_skip ?_
        refine n_block ?_
        refine n_then ?_
        refine c_seq ?_
        refine c_region ?_
        refine st (v := .int .i64 1) (x_assign .const) ?_
        refine c_nil ?_
        refine n_then ?_
        refine c_ret ?_
        refine leave_ret (res_one (v := .int .i64 1) rfl (.mk rfl rfl)) ?_
        have hcm : 1 = cmpV an ap bn bp := by
          have hne : ¬ ((an : Int) = bn ∧ ap = bp) := by simpa using hc13
          unfold cmpV cmpI
          repeat' split
          all_goals omega
        exact ⟨congrArg (fun z => Ending.returned (.int .i64 z)) hcm, hs8.drop.drop⟩

set_option maxHeartbeats 8000000 in
theorem above_spec {H : Hp} {w : World} {L : List Res} (hs : St H w L) (an : Nat) (ap : Int) (bn : Nat) (bp : Int) : Calls Tryd.prog 29 #[.agg #[.int .u64 ((an : Nat) : Int), .int .i64 ap], .agg #[.int .u64 ((bn : Nat) : Int), .int .i64 bp]] w (fun e w' => e = .returned (.bool (decide (0 < cmpV an ap bn bp))) ∧ St H w' L) := by
  refine enter (args := [.agg #[.int .u64 ((an : Nat) : Int), .int .i64 ap], .agg #[.int .u64 ((bn : Nat) : Int), .int .i64 bp]]) (N := 9) Tryd.func29 rfl rfl rfl ?_
  refine c_seq ?_
  refine c_region ?_
  refine st_m (m_box (cs := [.int .u64 ((an : Nat) : Int), .int .i64 ap]) hs (v := .agg #[.int .u64 ((an : Nat) : Int), .int .i64 ap]) (.tmp rfl rfl) rfl) ?_
  rintro _ w2 ⟨g1, rfl, hs4⟩
  refine st_m (m_box (cs := [.int .u64 ((bn : Nat) : Int), .int .i64 bp]) hs4 (v := .agg #[.int .u64 ((bn : Nat) : Int), .int .i64 bp]) (.tmp rfl rfl) rfl) ?_
  rintro _ w6 ⟨g5, rfl, hs8⟩
  refine st (v := .bool false) (x_assign .const) ?_
  refine c_nil ?_
  refine n_then ?_
  refine c_seq ?_
  refine c_region ?_
  refine st (v := .agg #[.int .u64 ((an : Nat) : Int), .int .i64 ap]) (ld44 (cs := [.int .u64 ((an : Nat) : Int), .int .i64 ap]) (.tmp rfl rfl) (hs8.at_ 1 rfl (0) rfl) rfl) ?_
  refine st (v := .agg #[.int .u64 ((bn : Nat) : Int), .int .i64 bp]) (ld44 (cs := [.int .u64 ((bn : Nat) : Int), .int .i64 bp]) (.tmp rfl rfl) (hs8.at_ 0 rfl (0) rfl) rfl) ?_
  refine st_c cb38 .func (evs2 (.tmp rfl rfl) (.tmp rfl rfl)) (compare_spec hs8 an ap bn bp) ?_
  rintro e w9 ⟨rfl, hs10⟩
  refine ⟨_, rfl, ?_⟩
  refine st (v := .bool (decide ((0 : Int) < (cmpV an ap bn bp)))) (x_gtr (k := .i64) (a := (cmpV an ap bn bp)) (b := 0) (.tmp rfl rfl) .const) ?_
  refine st (v := .bool (decide ((0 : Int) < (cmpV an ap bn bp)))) (x_assign (.tmp rfl rfl)) ?_
  refine c_nil ?_
  refine n_then ?_
  refine c_ret ?_
  refine leave_ret (res_one (v := .bool (decide ((0 : Int) < (cmpV an ap bn bp)))) rfl (.mk rfl rfl)) ?_
  exact ⟨rfl, hs10.drop.drop⟩

theorem least_spec2 {H : Hp} {w : World} {L : List Res} (hs : St H w L) (htab : Tab H) (s : Nat) (b_s : s < 65536) (h0 : s ≠ 0) : Calls Tryd.prog 39 #[.int .u16 ((s : Nat) : Int)] w (fun e w' => e = .returned (.int .i64 ((low 16 s : Nat) : Int)) ∧ St H w' L) := by
  have := least_spec hs htab s b_s
  simp only [least, if_neg h0] at this
  exact this
set_option maxHeartbeats 8000000 in
theorem list_spec {H : Hp} {w : World} {L : List Res} (hs : St H w L) (htab : Tab H) (s : Nat) (b_s : s < 65536) : Calls Tryd.prog 32 #[.int .u16 ((s : Nat) : Int)] w (fun e w' => ∃ v, e = .returned v ∧ RowOk 1 v (lst s).length ((lst s).map encI) ∧ St H w' (row 3 1 v (lst s).length ((lst s).map encI) :: L)) := by
  refine enter (args := [.int .u16 ((s : Nat) : Int)]) (N := 16) Tryd.func32 rfl rfl rfl ?_
  refine c_seq ?_
  refine c_region ?_
  refine st (v := .slice none 0 0) (x_assign .const) ?_
  refine c_nil ?_
  refine n_then ?_
  refine c_seq ?_
  refine c_region ?_
  refine st (v := .slice none 0 0) (x_assign .const) ?_
  refine c_nil ?_
  refine n_then ?_
  refine c_seq ?_
  refine c_block ?_
  have hs0 := hs.rowNil 3 1
  refine c_loop (fun ρ w mm => ∃ (r : Nat) (v : Value) (pre : List Nat), ρ 0 = .int .u16 ((r : Nat) : Int) ∧ ρ 3 = v ∧ (r < 65536) ∧ (lst s = pre ++ lst r) ∧ (RowOk 1 v pre.length (pre.map encI)) ∧ St H w (row 3 1 v pre.length (pre.map encI) :: L) ∧ mm = (lst r).length) _ ⟨s, (.slice none 0 0), [], rfl, rfl, b_s, (by simp), (RowOk.nil 1), hs0, rfl⟩ ?_
  rintro ρ w mm ⟨r, v, pre, hρ2, hρ3, hr, hl, ok, hs4, rfl⟩
  refine c_seq ?_
  refine c_seq ?_
  refine c_region ?_
  refine st (v := .int .u16 ((r : Nat) : Int)) (x_move (.tmp rfl hρ2)) ?_
  refine st (v := .bool (decide ((((r : Nat) : Int) : Int) ≠ 0))) (x_neq (k := .u16) (a := ((r : Nat) : Int)) (b := 0) (.tmp rfl rfl) .const) ?_
  refine c_nil ?_
  refine n_then ?_
  rcases Bool.eq_false_or_eq_true (decide ((((r : Nat) : Int) : Int) ≠ 0)) with hc5 | hc5
  · have hp5 : (((r : Nat) : Int) : Int) ≠ 0 := of_decide_eq_true hc5
    refine c_cond_t (t := true) (.tmp rfl (congrArg Value.bool hc5)) rfl ?_
    refine c_skip ?_
    refine n_then ?_
    refine c_block ?_
    refine c_seq ?_
    refine c_region ?_
    refine st (v := v) (x_move (.tmp rfl hρ3)) ?_
    refine st (v := .int .u16 ((r : Nat) : Int)) (x_move (.tmp rfl hρ2)) ?_
    refine st_c cb39 .func (evs1 (.tmp rfl rfl)) (least_spec2 hs4 htab r hr (by omega)) ?_
    rintro e w6 ⟨rfl, hs7⟩
    refine ⟨_, rfl, ?_⟩
    refine st_m (m_lit (n := 1) (ps := [(0, .int .i64 ((low 16 r : Nat) : Int))]) (cs := [.int .i64 ((low 16 r : Nat) : Int)]) Tryd.underlying31 inf3 (.cons (.tmp rfl rfl) Evp.nil) (by decide) (by decide) rfl rfl hs7) ?_
    rintro _ w9 ⟨g8, rfl, hs11⟩
    have hln := lst_pred r (by omega) hr
    have hll : (lst s).length ≤ 16 := by rw [lst_length]; exact pc_le 16 s
    have hl2 : pre.length + (lst r).length ≤ 16 := by rw [hl] at hll; simpa using hll
    have hl3 : 1 ≤ (lst r).length := by rw [hln]; simp
    have hs12 : St H _ (row 3 1 v pre.length (pre.map encI) :: obj g8 3 [.int .i64 ((low 16 r : Nat) : Int)] :: L) := hs11.pick 1 rfl rfl
    refine st_m (m_app (news := [.int .i64 ((low 16 r : Nat) : Int)]) (m := 1) Tryd.underlying31 inf3 rfl (by decide) hs12 ok (.tmp rfl rfl) (.tmp rfl rfl) rfl (hs12.at_ 1 rfl 0 rfl) (by simp [Value.oneCell']) (by omega) (by decide)) ?_
    rintro v13 w14 ⟨ok16, hs17⟩
    refine st (v := v13) (x_assign (.tmp rfl rfl)) ?_
    refine c_nil ?_
    refine n_then ?_
    refine c_region ?_
    refine st (v := .int .u16 ((r : Nat) : Int)) (x_move (.tmp rfl hρ2)) ?_
    refine st (v := .int .u16 ((r : Nat) : Int)) (x_move (.tmp rfl hρ2)) ?_
    have hb18 : (r - 1) < 65536 := by omega
    refine st (v := .int .u16 (((r - 1) : Nat) : Int)) (x_sub (k := .u16) (a := ((r : Nat) : Int)) (b := 1) (.tmp rfl rfl) .const (wU rfl (by omega) hb18)) ?_
    have hb19 : (r &&& (r - 1)) < 65536 := Nat.lt_of_le_of_lt Nat.and_le_left hr
    refine st (v := .int .u16 (((r &&& (r - 1)) : Nat) : Int)) (x_and (k := .u16) (m := r) (n := (r - 1)) rfl (.tmp rfl rfl) (.tmp rfl rfl) (show _ < 2 ^ 16 from hr) (show _ < 2 ^ 16 from hb18)) ?_
    refine st (v := .int .u16 (((r &&& (r - 1)) : Nat) : Int)) (x_assign (.tmp rfl rfl)) ?_
    refine c_nil ?_
    refine n_block ?_
    refine n_then ⟨_, _, rfl, ?_, (r &&& (r - 1)), v13, (pre ++ [low 16 r]), rfl, rfl, (Nat.lt_of_le_of_lt Nat.and_le_left hr), (by rw [hl, lst_pred r (by omega) hr]; simp), (RowOk.snoc (enc := encI) ok16), (St.rowSnoc (enc := encI) hs17.drop2), rfl⟩
    exact (by rw [lst_pred r (by omega) hr]; simp)
  · have hp5 : ¬ ((((r : Nat) : Int) : Int) ≠ 0) := of_decide_eq_false hc5
    refine c_cond_f (t := false) (.tmp rfl (congrArg Value.bool hc5)) rfl ?_
    refine c_exit ?_
    refine x_then ?_
    refine x_then ?_
    refine x_here ?_
    refine n_then ?_
    refine c_seq ?_
    refine c_region ?_
    refine st (v := v) (x_move (.tmp rfl hρ3)) ?_
    refine st (v := v) (x_assign (.tmp rfl rfl)) ?_
    refine c_nil ?_
    refine n_then ?_
    refine c_ret ?_
    refine leave_ret (res_one (v := v) rfl (.mk rfl rfl)) ?_
    have er : r = 0 := by omega
    have e : lst s = pre := by rw [hl, er, lst, els_zero, List.append_nil]
    exact ⟨v, rfl, by rw [e]; exact ok, by rw [e]; exact hs4⟩

end Go.Proofs.YtnikcgcbkdeeeaaDoor
