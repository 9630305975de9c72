/- Steps of the proofs over the functions of this seat, printed by a program (gen.py) and checked by Lean. -/
import Derived.Test.YtkbllbphkdnmbaaUty
import Derived.Test.YtkbllbphkdnmbaaFmM6
set_option linter.unusedVariables false
set_option linter.unusedSimpArgs false
namespace Go.Proofs.Ytkbllbphkdnmbaa
open Go Go.FM Go.Proofs
attribute [local irreducible] wpList wpQuiet wpS Code.wp Calls
set_option maxHeartbeats 8000000 in
theorem nan_u_spec {H : Hp} {w : World} {L : List Res} (hs : St H w L) (a : Int) : Calls Try.prog 41 #[.int .u64 a] w (fun e w' => e = .returned (.bool false) ∧ St H w' L) := by
  refine enter (args := [.int .u64 a]) (N := 6) Try.func41 rfl rfl rfl ?_
  refine c_seq ?_
  refine c_region ?_
  refine st (v := .bool false) (x_assign .const) ?_
  refine c_nil ?_
  refine n_then ?_
  refine c_seq ?_
  refine c_region ?_
  refine st (v := .int .u64 a) (x_move (.tmp rfl rfl)) ?_
  refine st (v := .int .u64 a) (x_move (.tmp rfl rfl)) ?_
  refine st (v := .bool (decide ((a : Int) ≠ a))) (x_neq (k := .u64) (a := a) (b := a) (.tmp rfl rfl) (.tmp rfl rfl)) ?_
  refine st (v := .bool false) (x_assign (.tmp rfl (congrArg Value.bool (show (decide ((a : Int) ≠ a)) = false from by simp)))) ?_
  refine c_nil ?_
  refine n_then ?_
  refine c_ret ?_
  refine leave_ret (res_one (v := .bool false) rfl (.mk rfl rfl)) ?_
  exact ⟨rfl, hs⟩

set_option maxHeartbeats 8000000 in
theorem cmp_u_spec {H : Hp} {w : World} {L : List Res} (hs : St H w L) (a b : Int) : Calls Try.prog 36 #[.int .u64 a, .int .u64 b] w (fun e w' => e = .returned (.int .i64 (cmpI a b)) ∧ St H w' L) := by
  refine enter (args := [.int .u64 a, .int .u64 b]) (N := 20) Try.func36 rfl rfl rfl ?_
  refine c_seq ?_
  refine c_region ?_
  refine st (v := .int .i64 0) (x_assign .const) ?_
  refine c_nil ?_
  refine n_then ?_
  refine c_seq ?_
  refine c_region ?_
  refine st (v := .int .u64 a) (x_move (.tmp rfl rfl)) ?_
  refine st_c cb41 .func (evs1 (.tmp rfl rfl)) (nan_u_spec hs a) ?_
  rintro e w1 ⟨rfl, hs2⟩
  refine ⟨_, rfl, ?_⟩
  refine st (v := .bool false) (x_assign (.tmp rfl rfl)) ?_
  refine c_nil ?_
  refine n_then ?_
  refine c_seq ?_
  refine c_region ?_
  refine st (v := .int .u64 b) (x_move (.tmp rfl rfl)) ?_
  refine st_c cb41 .func (evs1 (.tmp rfl rfl)) (nan_u_spec hs2 b) ?_
  rintro e w3 ⟨rfl, hs4⟩
  refine ⟨_, rfl, ?_⟩
  refine st (v := .bool false) (x_assign (.tmp rfl rfl)) ?_
  refine c_nil ?_
  refine n_then ?_
  refine c_seq ?_
  refine c_seq ?_
  refine c_region ?_
  refine st (v := .bool false) (x_move (.tmp rfl rfl)) ?_
  refine c_nil ?_
  refine n_then ?_
  refine c_cond_f (t := false) (.tmp rfl rfl) rfl ?_
  refine c_skip ?_
  refine n_then ?_
  refine c_seq ?_
  refine c_seq ?_
  refine c_region ?_
  refine st (v := .bool false) (x_move (.tmp rfl rfl)) ?_
  refine c_nil ?_
  refine n_then ?_
  refine c_cond_f (t := false) (.tmp rfl rfl) rfl ?_
  refine c_skip ?_
  refine n_then ?_
  refine c_seq ?_
  refine c_seq ?_
  refine c_region ?_
  refine st (v := .int .u64 a) (x_move (.tmp rfl rfl)) ?_
  refine st (v := .int .u64 b) (x_move (.tmp rfl rfl)) ?_
  refine st (v := .bool (decide ((a : Int) < b))) (x_lss (k := .u64) (a := a) (b := b) (.tmp rfl rfl) (.tmp rfl rfl)) ?_
  refine c_nil ?_
  refine n_then ?_
  rcases Bool.eq_false_or_eq_true (decide ((a : Int) < b)) with hc5 | hc5
  · have hp5 : (a : Int) < b := of_decide_eq_true hc5
    refine c_cond_t (t := true) (.tmp rfl (congrArg Value.bool hc5)) rfl ?_
    refine c_seq ?_
    refine c_region ?_
    refine st (v := .int .i64 (-1)) (x_assign .const) ?_
    refine c_nil ?_
    refine n_then ?_
    refine c_ret ?_
    refine r_then ?_
    refine leave_ret (res_one (v := .int .i64 (-1)) rfl (.mk rfl rfl)) ?_
    have hcm : (-1) = cmpI a b := by
      unfold cmpI
      repeat' split
      all_goals omega
    exact ⟨congrArg (fun z => Ending.returned (.int .i64 z)) hcm, hs4⟩
  · have hp5 : ¬ ((a : Int) < b) := of_decide_eq_false hc5
    refine c_cond_f (t := false) (.tmp rfl (congrArg Value.bool hc5)) rfl ?_
    refine c_skip ?_
    refine n_then ?_
    refine c_seq ?_
    refine c_seq ?_
    refine c_region ?_
    refine st (v := .int .u64 a) (x_move (.tmp rfl rfl)) ?_
    refine st (v := .int .u64 b) (x_move (.tmp rfl rfl)) ?_
    refine st (v := .bool (decide ((b : Int) < a))) (x_gtr (k := .u64) (a := a) (b := b) (.tmp rfl rfl) (.tmp rfl rfl)) ?_
    refine c_nil ?_
    refine n_then ?_
    rcases Bool.eq_false_or_eq_true (decide ((b : Int) < a)) with hc6 | hc6
    · have hp6 : (b : Int) < a := of_decide_eq_true hc6
      refine c_cond_t (t := true) (.tmp rfl (congrArg Value.bool hc6)) rfl ?_
      refine c_seq ?_
      refine c_region ?_
      refine st (v := .int .i64 1) (x_assign .const) ?_
      refine c_nil ?_
      refine n_then ?_
      refine c_ret ?_
      refine r_then ?_
      refine leave_ret (res_one (v := .int .i64 1) rfl (.mk rfl rfl)) ?_
      have hcm : 1 = cmpI a b := by
        unfold cmpI
        repeat' split
        all_goals omega
      exact ⟨congrArg (fun z => Ending.returned (.int .i64 z)) hcm, hs4⟩
    · have hp6 : ¬ ((b : Int) < a) := of_decide_eq_false hc6
      refine c_cond_f (t := false) (.tmp rfl (congrArg Value.bool hc6)) rfl ?_
      refine c_skip ?_
      refine n_then ?_
      refine c_seq ?_
      refine c_region ?_
      refine st (v := .int .i64 0) (x_assign .const) ?_
      refine c_nil ?_
      refine n_then ?_
      refine c_ret ?_
      refine leave_ret (res_one (v := .int .i64 0) rfl (.mk rfl rfl)) ?_
      have hcm : 0 = cmpI a b := by
        unfold cmpI
        repeat' split
        all_goals omega
      exact ⟨congrArg (fun z => Ending.returned (.int .i64 z)) hcm, hs4⟩

set_option maxHeartbeats 8000000 in
theorem nan_i_spec {H : Hp} {w : World} {L : List Res} (hs : St H w L) (a : Int) : Calls Try.prog 42 #[.int .i64 a] w (fun e w' => e = .returned (.bool false) ∧ St H w' L) := by
  refine enter (args := [.int .i64 a]) (N := 6) Try.func42 rfl rfl rfl ?_
  refine c_seq ?_
  refine c_region ?_
  refine st (v := .bool false) (x_assign .const) ?_
  refine c_nil ?_
  refine n_then ?_
  refine c_seq ?_
  refine c_region ?_
  refine st (v := .int .i64 a) (x_move (.tmp rfl rfl)) ?_
  refine st (v := .int .i64 a) (x_move (.tmp rfl rfl)) ?_
  refine st (v := .bool (decide ((a : Int) ≠ a))) (x_neq (k := .i64) (a := a) (b := a) (.tmp rfl rfl) (.tmp rfl rfl)) ?_
  refine st (v := .bool false) (x_assign (.tmp rfl (congrArg Value.bool (show (decide ((a : Int) ≠ a)) = false from by simp)))) ?_
  refine c_nil ?_
  refine n_then ?_
  refine c_ret ?_
  refine leave_ret (res_one (v := .bool false) rfl (.mk rfl rfl)) ?_
  exact ⟨rfl, hs⟩

set_option maxHeartbeats 8000000 in
theorem cmp_i_spec {H : Hp} {w : World} {L : List Res} (hs : St H w L) (a b : Int) : Calls Try.prog 37 #[.int .i64 a, .int .i64 b] w (fun e w' => e = .returned (.int .i64 (cmpI a b)) ∧ St H w' L) := by
  refine enter (args := [.int .i64 a, .int .i64 b]) (N := 20) Try.func37 rfl rfl rfl ?_
  refine c_seq ?_
  refine c_region ?_
  refine st (v := .int .i64 0) (x_assign .const) ?_
  refine c_nil ?_
  refine n_then ?_
  refine c_seq ?_
  refine c_region ?_
  refine st (v := .int .i64 a) (x_move (.tmp rfl rfl)) ?_
  refine st_c cb42 .func (evs1 (.tmp rfl rfl)) (nan_i_spec hs a) ?_
  rintro e w1 ⟨rfl, hs2⟩
  refine ⟨_, rfl, ?_⟩
  refine st (v := .bool false) (x_assign (.tmp rfl rfl)) ?_
  refine c_nil ?_
  refine n_then ?_
  refine c_seq ?_
  refine c_region ?_
  refine st (v := .int .i64 b) (x_move (.tmp rfl rfl)) ?_
  refine st_c cb42 .func (evs1 (.tmp rfl rfl)) (nan_i_spec hs2 b) ?_
  rintro e w3 ⟨rfl, hs4⟩
  refine ⟨_, rfl, ?_⟩
  refine st (v := .bool false) (x_assign (.tmp rfl rfl)) ?_
  refine c_nil ?_
  refine n_then ?_
  refine c_seq ?_
  refine c_seq ?_
  refine c_region ?_
  refine st (v := .bool false) (x_move (.tmp rfl rfl)) ?_
  refine c_nil ?_
  refine n_then ?_
  refine c_cond_f (t := false) (.tmp rfl rfl) rfl ?_
  refine c_skip ?_
  refine n_then ?_
  refine c_seq ?_
  refine c_seq ?_
  refine c_region ?_
  refine st (v := .bool false) (x_move (.tmp rfl rfl)) ?_
  refine c_nil ?_
  refine n_then ?_
  refine c_cond_f (t := false) (.tmp rfl rfl) rfl ?_
  refine c_skip ?_
  refine n_then ?_
  refine c_seq ?_
  refine c_seq ?_
  refine c_region ?_
  refine st (v := .int .i64 a) (x_move (.tmp rfl rfl)) ?_
  refine st (v := .int .i64 b) (x_move (.tmp rfl rfl)) ?_
  refine st (v := .bool (decide ((a : Int) < b))) (x_lss (k := .i64) (a := a) (b := b) (.tmp rfl rfl) (.tmp rfl rfl)) ?_
  refine c_nil ?_
  refine n_then ?_
  rcases Bool.eq_false_or_eq_true (decide ((a : Int) < b)) with hc5 | hc5
  · have hp5 : (a : Int) < b := of_decide_eq_true hc5
    refine c_cond_t (t := true) (.tmp rfl (congrArg Value.bool hc5)) rfl ?_
    refine c_seq ?_
    refine c_region ?_
    refine st (v := .int .i64 (-1)) (x_assign .const) ?_
    refine c_nil ?_
    refine n_then ?_
    refine c_ret ?_
    refine r_then ?_
    refine leave_ret (res_one (v := .int .i64 (-1)) rfl (.mk rfl rfl)) ?_
    have hcm : (-1) = cmpI a b := by
      unfold cmpI
      repeat' split
      all_goals omega
    exact ⟨congrArg (fun z => Ending.returned (.int .i64 z)) hcm, hs4⟩
  · have hp5 : ¬ ((a : Int) < b) := of_decide_eq_false hc5
    refine c_cond_f (t := false) (.tmp rfl (congrArg Value.bool hc5)) rfl ?_
    refine c_skip ?_
    refine n_then ?_
    refine c_seq ?_
    refine c_seq ?_
    refine c_region ?_
    refine st (v := .int .i64 a) (x_move (.tmp rfl rfl)) ?_
    refine st (v := .int .i64 b) (x_move (.tmp rfl rfl)) ?_
    refine st (v := .bool (decide ((b : Int) < a))) (x_gtr (k := .i64) (a := a) (b := b) (.tmp rfl rfl) (.tmp rfl rfl)) ?_
    refine c_nil ?_
    refine n_then ?_
    rcases Bool.eq_false_or_eq_true (decide ((b : Int) < a)) with hc6 | hc6
    · have hp6 : (b : Int) < a := of_decide_eq_true hc6
      refine c_cond_t (t := true) (.tmp rfl (congrArg Value.bool hc6)) rfl ?_
      refine c_seq ?_
      refine c_region ?_
      refine st (v := .int .i64 1) (x_assign .const) ?_
      refine c_nil ?_
      refine n_then ?_
      refine c_ret ?_
      refine r_then ?_
      refine leave_ret (res_one (v := .int .i64 1) rfl (.mk rfl rfl)) ?_
      have hcm : 1 = cmpI a b := by
        unfold cmpI
        repeat' split
        all_goals omega
      exact ⟨congrArg (fun z => Ending.returned (.int .i64 z)) hcm, hs4⟩
    · have hp6 : ¬ ((b : Int) < a) := of_decide_eq_false hc6
      refine c_cond_f (t := false) (.tmp rfl (congrArg Value.bool hc6)) rfl ?_
      refine c_skip ?_
      refine n_then ?_
      refine c_seq ?_
      refine c_region ?_
      refine st (v := .int .i64 0) (x_assign .const) ?_
      refine c_nil ?_
      refine n_then ?_
      refine c_ret ?_
      refine leave_ret (res_one (v := .int .i64 0) rfl (.mk rfl rfl)) ?_
      have hcm : 0 = cmpI a b := by
        unfold cmpI
        repeat' split
        all_goals omega
      exact ⟨congrArg (fun z => Ending.returned (.int .i64 z)) hcm, hs4⟩

set_option maxHeartbeats 8000000 in
theorem compare_spec {H : Hp} {w : World} {L : List Res} (hs : St H w L) (an : Nat) (ap : Int) (bn : Nat) (bp : Int) : Calls Try.prog 28 #[.agg #[.int .u64 ((an : Nat) : Int), .int .i64 ap], .agg #[.int .u64 ((bn : Nat) : Int), .int .i64 bp]] w (fun e w' => e = .returned (.int .i64 (cmpV an ap bn bp)) ∧ St H w' L) := by
  refine enter (args := [.agg #[.int .u64 ((an : Nat) : Int), .int .i64 ap], .agg #[.int .u64 ((bn : Nat) : Int), .int .i64 bp]]) (N := 19) Try.func28 rfl rfl rfl ?_
  refine c_seq ?_
  refine c_region ?_
  refine st_m (m_box (cs := [.int .u64 ((an : Nat) : Int), .int .i64 ap]) hs (v := .agg #[.int .u64 ((an : Nat) : Int), .int .i64 ap]) (.tmp rfl rfl) rfl) ?_
  rintro _ w2 ⟨g1, rfl, hs4⟩
  refine st_m (m_box (cs := [.int .u64 ((bn : Nat) : Int), .int .i64 bp]) hs4 (v := .agg #[.int .u64 ((bn : Nat) : Int), .int .i64 bp]) (.tmp rfl rfl) rfl) ?_
  rintro _ w6 ⟨g5, rfl, hs8⟩
  refine st (v := .int .i64 0) (x_assign .const) ?_
  refine c_nil ?_
  refine n_then ?_
  refine c_seq ?_
  refine c_seq ?_
  refine c_region ?_
  refine st (v := .pointer (some ⟨g1, 0 + 0, none⟩)) (fa25_0 (.tmp rfl rfl)) ?_
  refine st (v := .int .u64 ((an : Nat) : Int)) (ld23 (.tmp rfl rfl) (hs8.cell 1 rfl (0 + 0) rfl)) ?_
  refine st (v := .pointer (some ⟨g5, 0 + 0, none⟩)) (fa25_0 (.tmp rfl rfl)) ?_
  refine st (v := .int .u64 ((bn : Nat) : Int)) (ld23 (.tmp rfl rfl) (hs8.cell 0 rfl (0 + 0) rfl)) ?_
  refine st_c cb36 .func (evs2 (.tmp rfl rfl) (.tmp rfl rfl)) (cmp_u_spec hs8 ((an : Nat) : Int) ((bn : Nat) : Int)) ?_
  rintro e w9 ⟨rfl, hs10⟩
  refine ⟨_, rfl, ?_⟩
  refine st (v := .int .i64 (cmpI ((an : Nat) : Int) ((bn : Nat) : Int))) (x_assign (.tmp rfl rfl)) ?_
  refine c_nil ?_
  refine n_then ?_
  refine c_seq ?_
  refine c_region ?_
  refine st (v := .int .i64 (cmpI ((an : Nat) : Int) ((bn : Nat) : Int))) (x_move (.tmp rfl rfl)) ?_
  refine st (v := .bool (decide (((cmpI ((an : Nat) : Int) ((bn : Nat) : Int)) : Int) ≠ 0))) (x_neq (k := .i64) (a := (cmpI ((an : Nat) : Int) ((bn : Nat) : Int))) (b := 0) (.tmp rfl rfl) .const) ?_
  refine c_nil ?_
  refine n_then ?_
  rcases Bool.eq_false_or_eq_true (decide (((cmpI ((an : Nat) : Int) ((bn : Nat) : Int)) : Int) ≠ 0)) with hc11 | hc11
  · have hp11 : ((cmpI ((an : Nat) : Int) ((bn : Nat) : Int)) : Int) ≠ 0 := of_decide_eq_true hc11
    refine c_cond_t (t := true) (.tmp rfl (congrArg Value.bool hc11)) rfl ?_
    refine c_seq ?_
    refine c_region ?_
    refine st (v := .int .i64 (cmpI ((an : Nat) : Int) ((bn : Nat) : Int))) (x_move (.tmp rfl rfl)) ?_
    refine st (v := .int .i64 (cmpI ((an : Nat) : Int) ((bn : Nat) : Int))) (x_assign (.tmp rfl rfl)) ?_
    refine c_nil ?_
    refine n_then ?_
    refine c_ret ?_
    refine r_then ?_
    refine leave_ret (res_one (v := .int .i64 (cmpI ((an : Nat) : Int) ((bn : Nat) : Int))) rfl (.mk rfl rfl)) ?_
    exact ⟨congrArg (fun z => Ending.returned (.int .i64 z)) (by first | exact cmpV_ne (by assumption) | exact cmpV_eq (by assumption)), hs10.drop.drop⟩
  · have hp11 : ¬ (((cmpI ((an : Nat) : Int) ((bn : Nat) : Int)) : Int) ≠ 0) := of_decide_eq_false hc11
    refine c_cond_f (t := false) (.tmp rfl (congrArg Value.bool hc11)) rfl ?_
    refine c_skip ?_
    refine n_then ?_
    refine c_seq ?_
    refine c_region ?_
    refine st (v := .pointer (some ⟨g1, 0 + 1, none⟩)) (fa25_1 (.tmp rfl rfl)) ?_
    refine st (v := .int .i64 ap) (ld3 (.tmp rfl rfl) (hs10.cell 1 rfl (0 + 1) rfl)) ?_
    refine st (v := .pointer (some ⟨g5, 0 + 1, none⟩)) (fa25_1 (.tmp rfl rfl)) ?_
    refine st (v := .int .i64 bp) (ld3 (.tmp rfl rfl) (hs10.cell 0 rfl (0 + 1) rfl)) ?_
    refine st_c cb37 .func (evs2 (.tmp rfl rfl) (.tmp rfl rfl)) (cmp_i_spec hs10 ap bp) ?_
    rintro e w12 ⟨rfl, hs13⟩
    refine ⟨_, rfl, ?_⟩
    refine st (v := .int .i64 (cmpI ap bp)) (x_assign (.tmp rfl rfl)) ?_
    refine c_nil ?_
    refine n_then ?_
    refine c_ret ?_
    refine leave_ret (res_one (v := .int .i64 (cmpI ap bp)) rfl (.mk rfl rfl)) ?_
    exact ⟨congrArg (fun z => Ending.returned (.int .i64 z)) (by first | exact cmpV_ne (by assumption) | exact cmpV_eq (by assumption)), hs13.drop.drop⟩

set_option maxHeartbeats 8000000 in
theorem rcompare_spec {H : Hp} {w : World} {L : List Res} (hs : St H w L) (an : Nat) (ap : Int) (bn : Nat) (bp : Int) : Calls Try.prog 22 #[.agg #[.int .u64 ((an : Nat) : Int), .int .i64 ap], .agg #[.int .u64 ((bn : Nat) : Int), .int .i64 bp]] w (fun e w' => e = .returned (.int .i64 (cmpV an ap bn bp)) ∧ St H w' L) := by
  refine enter (args := [.agg #[.int .u64 ((an : Nat) : Int), .int .i64 ap], .agg #[.int .u64 ((bn : Nat) : Int), .int .i64 bp]]) (N := 29) Try.func22 rfl rfl rfl ?_
  refine c_seq ?_
  refine c_region ?_
  refine st_m (m_box (cs := [.int .u64 ((an : Nat) : Int), .int .i64 ap]) hs (v := .agg #[.int .u64 ((an : Nat) : Int), .int .i64 ap]) (.tmp rfl rfl) rfl) ?_
  rintro _ w2 ⟨g1, rfl, hs4⟩
  refine st_m (m_box (cs := [.int .u64 ((bn : Nat) : Int), .int .i64 bp]) hs4 (v := .agg #[.int .u64 ((bn : Nat) : Int), .int .i64 bp]) (.tmp rfl rfl) rfl) ?_
  rintro _ w6 ⟨g5, rfl, hs8⟩
  refine st (v := .int .i64 0) (x_assign .const) ?_
  refine c_nil ?_
  refine n_then ?_
  refine c_seq ?_
  refine c_block ?_
  refine c_seq ?_
  refine c_region ?_
  refine st (v := .pointer (some ⟨g1, 0 + 0, none⟩)) (fa25_0 (.tmp rfl rfl)) ?_
  refine st (v := .int .u64 ((an : Nat) : Int)) (ld23 (.tmp rfl rfl) (hs8.cell 1 rfl (0 + 0) rfl)) ?_
  refine st (v := .pointer (some ⟨g5, 0 + 0, none⟩)) (fa25_0 (.tmp rfl rfl)) ?_
  refine st (v := .int .u64 ((bn : Nat) : Int)) (ld23 (.tmp rfl rfl) (hs8.cell 0 rfl (0 + 0) rfl)) ?_
  refine st (v := .bool (decide ((((an : Nat) : Int) : Int) < ((bn : Nat) : Int)))) (x_lss (k := .u64) (a := ((an : Nat) : Int)) (b := ((bn : Nat) : Int)) (.tmp rfl rfl) (.tmp rfl rfl)) ?_
  refine st (v := .bool (decide ((((an : Nat) : Int) : Int) < ((bn : Nat) : Int)))) (x_move (.tmp rfl rfl)) ?_
  rcases Bool.eq_false_or_eq_true (decide ((((an : Nat) : Int) : Int) < ((bn : Nat) : Int))) with hc9 | hc9
  · have hp9 : (((an : Nat) : Int) : Int) < ((bn : Nat) : Int) := of_decide_eq_true hc9
    refine g_no (yl (dj := 11) (b := true) rfl rfl (congrArg Value.bool hc9)) rfl ?_
    refine g_no (yl (dj := 11) (b := true) rfl rfl (congrArg Value.bool hc9)) rfl ?_
    refine g_no (yl (dj := 11) (b := true) rfl rfl (congrArg Value.bool hc9)) rfl ?_
    refine g_no (yl (dj := 11) (b := true) rfl rfl (congrArg Value.bool hc9)) rfl ?_
    refine g_no (yl (dj := 11) (b := true) rfl rfl (congrArg Value.bool hc9)) rfl ?_
    refine g_no (yl (dj := 11) (b := true) rfl rfl (congrArg Value.bool hc9)) rfl ?_
    refine g_no0 (yn (dj := 17) rfl rfl) ?_
    refine g_no0 (yn (dj := 17) rfl rfl) ?_
    refine g_no0 (yn (dj := 17) rfl rfl) ?_
    refine g_no0 (yn (dj := 17) rfl rfl) ?_
    refine g_no0 (yn (dj := 17) rfl rfl) ?_
    refine g_no (yl (dj := 11) (b := true) rfl rfl (congrArg Value.bool hc9)) rfl ?_
    refine st (v := .bool true) (x_pick_t (.tmp rfl (congrArg Value.bool hc9)) .const) ?_
    refine st (v := .bool true) (x_assign (.tmp rfl rfl)) ?_
    refine c_nil ?_
    refine n_then ?_
    refine c_cond_t (t := true) (.tmp rfl rfl) rfl ?_
    refine c_seq ?_
    refine c_region ?_
    refine st (v := .int .i64 (-1)) (x_assign .const) ?_
    refine c_nil ?_
    refine n_then ?_
    refine c_ret ?_
    refine r_block ?_
    refine r_then ?_
    refine leave_ret (res_one (v := .int .i64 (-1)) rfl (.mk rfl rfl)) ?_
    have hcm : (-1) = cmpV an ap bn bp := by
      unfold cmpV cmpI
      repeat' split
      all_goals omega
    exact ⟨congrArg (fun z => Ending.returned (.int .i64 z)) hcm, hs8.drop.drop⟩
  · have hp9 : ¬ ((((an : Nat) : Int) : Int) < ((bn : Nat) : Int)) := of_decide_eq_false hc9
    refine g_yes (yl (dj := 11) (b := false) rfl rfl (congrArg Value.bool hc9)) ?_
    refine st (v := .pointer (some ⟨g1, 0 + 0, none⟩)) (fa25_0 (.tmp rfl rfl)) ?_
    refine g_yes (yl (dj := 11) (b := false) rfl rfl (congrArg Value.bool hc9)) ?_
    refine st (v := .int .u64 ((an : Nat) : Int)) (ld23 (.tmp rfl rfl) (hs8.cell 1 rfl (0 + 0) rfl)) ?_
    refine g_yes (yl (dj := 11) (b := false) rfl rfl (congrArg Value.bool hc9)) ?_
    refine st (v := .pointer (some ⟨g5, 0 + 0, none⟩)) (fa25_0 (.tmp rfl rfl)) ?_
    refine g_yes (yl (dj := 11) (b := false) rfl rfl (congrArg Value.bool hc9)) ?_
    refine st (v := .int .u64 ((bn : Nat) : Int)) (ld23 (.tmp rfl rfl) (hs8.cell 0 rfl (0 + 0) rfl)) ?_
    refine g_yes (yl (dj := 11) (b := false) rfl rfl (congrArg Value.bool hc9)) ?_
    refine st (v := .bool (decide ((((an : Nat) : Int) : Int) = ((bn : Nat) : Int)))) (x_eql (k := .u64) (a := ((an : Nat) : Int)) (b := ((bn : Nat) : Int)) (.tmp rfl rfl) (.tmp rfl rfl)) ?_
    refine g_yes (yl (dj := 11) (b := false) rfl rfl (congrArg Value.bool hc9)) ?_
    refine st (v := .bool (decide ((((an : Nat) : Int) : Int) = ((bn : Nat) : Int)))) (x_move (.tmp rfl rfl)) ?_
    rcases Bool.eq_false_or_eq_true (decide ((((an : Nat) : Int) : Int) = ((bn : Nat) : Int))) with hc10 | hc10
    · have hp10 : (((an : Nat) : Int) : Int) = ((bn : Nat) : Int) := of_decide_eq_true hc10
      refine g_yes (yl (dj := 17) (b := true) rfl rfl (congrArg Value.bool hc10)) ?_
      refine st (v := .pointer (some ⟨g1, 0 + 1, none⟩)) (fa25_1 (.tmp rfl rfl)) ?_
      refine g_yes (yl (dj := 17) (b := true) rfl rfl (congrArg Value.bool hc10)) ?_
      refine st (v := .int .i64 ap) (ld3 (.tmp rfl rfl) (hs8.cell 1 rfl (0 + 1) rfl)) ?_
      refine g_yes (yl (dj := 17) (b := true) rfl rfl (congrArg Value.bool hc10)) ?_
      refine st (v := .pointer (some ⟨g5, 0 + 1, none⟩)) (fa25_1 (.tmp rfl rfl)) ?_
      refine g_yes (yl (dj := 17) (b := true) rfl rfl (congrArg Value.bool hc10)) ?_
      refine st (v := .int .i64 bp) (ld3 (.tmp rfl rfl) (hs8.cell 0 rfl (0 + 1) rfl)) ?_
      refine g_yes (yl (dj := 17) (b := true) rfl rfl (congrArg Value.bool hc10)) ?_
      refine st (v := .bool (decide ((ap : Int) < bp))) (x_lss (k := .i64) (a := ap) (b := bp) (.tmp rfl rfl) (.tmp rfl rfl)) ?_
      refine g_yes (yl (dj := 11) (b := false) rfl rfl (congrArg Value.bool hc9)) ?_
      refine st (v := .bool (decide ((ap : Int) < bp))) (x_pick_t (.tmp rfl (congrArg Value.bool hc10)) (.tmp rfl rfl)) ?_
      refine st (v := .bool (decide ((ap : Int) < bp))) (x_pick_f (.tmp rfl (congrArg Value.bool hc9)) (.tmp rfl rfl)) ?_
      refine st (v := .bool (decide ((ap : Int) < bp))) (x_assign (.tmp rfl rfl)) ?_
      refine c_nil ?_
      refine n_then ?_
      rcases Bool.eq_false_or_eq_true (decide ((ap : Int) < bp)) with hc11 | hc11
      · have hp11 : (ap : Int) < bp := of_decide_eq_true hc11
        refine c_cond_t (t := true) (.tmp rfl (congrArg Value.bool hc11)) rfl ?_
        refine c_seq ?_
        refine c_region ?_
        refine st (v := .int .i64 (-1)) (x_assign .const) ?_
        refine c_nil ?_
        refine n_then ?_
        refine c_ret ?_
        refine r_block ?_
        refine r_then ?_
        refine leave_ret (res_one (v := .int .i64 (-1)) rfl (.mk rfl rfl)) ?_
        have hcm : (-1) = cmpV an ap bn bp := by
          unfold cmpV cmpI
          repeat' split
          all_goals omega
        exact ⟨congrArg (fun z => Ending.returned (.int .i64 z)) hcm, hs8.drop.drop⟩
      · have hp11 : ¬ ((ap : Int) < bp) := of_decide_eq_false hc11
        refine c_cond_f (t := false) (.tmp rfl (congrArg Value.bool hc11)) rfl ?_
        refine c_seq ?_
        refine c_region ?_
        refine st (v := .agg #[.int .u64 ((an : Nat) : Int), .int .i64 ap]) (ld25 (cs := [.int .u64 ((an : Nat) : Int), .int .i64 ap]) (.tmp rfl rfl) (hs8.at_ 1 rfl (0) rfl) rfl) ?_
        refine st (v := .agg #[.int .u64 ((bn : Nat) : Int), .int .i64 bp]) (ld25 (cs := [.int .u64 ((bn : Nat) : Int), .int .i64 bp]) (.tmp rfl rfl) (hs8.at_ 0 rfl (0) rfl) rfl) ?_
        refine st (v := .bool ((((an : Nat) : Int) == ((bn : Nat) : Int)) && ((ap == bp) && true))) (x_eqlA eqg25 (.tmp rfl rfl) (.tmp rfl rfl) (fun d => eqs25 (d + 98) _ ((an : Nat) : Int) ((bn : Nat) : Int) ap bp)) ?_
        refine st (v := .bool ((((an : Nat) : Int) == ((bn : Nat) : Int)) && ((ap == bp) && true))) (x_assign (.tmp rfl rfl)) ?_
        refine c_nil ?_
        refine n_then ?_
        rcases Bool.eq_false_or_eq_true ((((an : Nat) : Int) == ((bn : Nat) : Int)) && ((ap == bp) && true)) with hc12 | hc12
        · refine c_cond_t (t := true) (.tmp rfl (congrArg Value.bool hc12)) rfl ?_
          refine c_seq ?_
          refine c_region ?_
          refine st (v := .int .i64 0) (x_assign .const) ?_
          refine c_nil ?_
          refine n_then ?_
          refine c_ret ?_
          refine r_block ?_
          refine r_then ?_
          refine leave_ret (res_one (v := .int .i64 0) rfl (.mk rfl rfl)) ?_
          have hcm : 0 = cmpV an ap bn bp := by
            simp only [Bool.and_eq_true, beq_iff_eq, Bool.and_true] at hc12
            unfold cmpV cmpI
            repeat' split
            all_goals omega
          exact ⟨congrArg (fun z => Ending.returned (.int .i64 z)) hcm, hs8.drop.drop⟩
        · refine c_cond_f (t := false) (.tmp rfl (congrArg Value.bool hc12)) rfl ?_
          refine c_skip ?_
          refine n_block ?_
          refine n_then ?_
          refine c_seq ?_
          refine c_region ?_
          refine st (v := .int .i64 1) (x_assign .const) ?_
          refine c_nil ?_
          refine n_then ?_
          refine c_ret ?_
          refine leave_ret (res_one (v := .int .i64 1) rfl (.mk rfl rfl)) ?_
          have hcm : 1 = cmpV an ap bn bp := by
            have hne : ¬ ((an : Int) = bn ∧ ap = bp) := by simpa using hc12
            unfold cmpV cmpI
            repeat' split
            all_goals omega
          exact ⟨congrArg (fun z => Ending.returned (.int .i64 z)) hcm, hs8.drop.drop⟩
    · have hp10 : ¬ ((((an : Nat) : Int) : Int) = ((bn : Nat) : Int)) := of_decide_eq_false hc10
      refine g_no (yl (dj := 17) (b := false) rfl rfl (congrArg Value.bool hc10)) rfl ?_
      refine g_no (yl (dj := 17) (b := false) rfl rfl (congrArg Value.bool hc10)) rfl ?_
      refine g_no (yl (dj := 17) (b := false) rfl rfl (congrArg Value.bool hc10)) rfl ?_
      refine g_no (yl (dj := 17) (b := false) rfl rfl (congrArg Value.bool hc10)) rfl ?_
      refine g_no (yl (dj := 17) (b := false) rfl rfl (congrArg Value.bool hc10)) rfl ?_
      refine g_yes (yl (dj := 11) (b := false) rfl rfl (congrArg Value.bool hc9)) ?_
      refine st (v := .bool false) (x_pick_f (.tmp rfl (congrArg Value.bool hc10)) .const) ?_
      refine st (v := .bool false) (x_pick_f (.tmp rfl (congrArg Value.bool hc9)) (.tmp rfl rfl)) ?_
      refine st (v := .bool false) (x_assign (.tmp rfl rfl)) ?_
      refine c_nil ?_
      refine n_then ?_
      refine c_cond_f (t := false) (.tmp rfl rfl) rfl ?_
      refine c_seq ?_
      refine c_region ?_
      refine st (v := .agg #[.int .u64 ((an : Nat) : Int), .int .i64 ap]) (ld25 (cs := [.int .u64 ((an : Nat) : Int), .int .i64 ap]) (.tmp rfl rfl) (hs8.at_ 1 rfl (0) rfl) rfl) ?_
      refine st (v := .agg #[.int .u64 ((bn : Nat) : Int), .int .i64 bp]) (ld25 (cs := [.int .u64 ((bn : Nat) : Int), .int .i64 bp]) (.tmp rfl rfl) (hs8.at_ 0 rfl (0) rfl) rfl) ?_
      refine st (v := .bool ((((an : Nat) : Int) == ((bn : Nat) : Int)) && ((ap == bp) && true))) (x_eqlA eqg25 (.tmp rfl rfl) (.tmp rfl rfl) (fun d => eqs25 (d + 98) _ ((an : Nat) : Int) ((bn : Nat) : Int) ap bp)) ?_
      refine st (v := .bool ((((an : Nat) : Int) == ((bn : Nat) : Int)) && ((ap == bp) && true))) (x_assign (.tmp rfl rfl)) ?_
      refine c_nil ?_
      refine n_then ?_
      rcases Bool.eq_false_or_eq_true ((((an : Nat) : Int) == ((bn : Nat) : Int)) && ((ap == bp) && true)) with hc13 | hc13
      · refine c_cond_t (t := true) (.tmp rfl (congrArg Value.bool hc13)) rfl ?_
        refine c_seq ?_
        refine c_region ?_
        refine st (v := .int .i64 0) (x_assign .const) ?_
        refine c_nil ?_
        refine n_then ?_
        refine c_ret ?_
        refine r_block ?_
        refine r_then ?_
        refine leave_ret (res_one (v := .int .i64 0) rfl (.mk rfl rfl)) ?_
        have hcm : 0 = cmpV an ap bn bp := by
          simp only [Bool.and_eq_true, beq_iff_eq, Bool.and_true] at hc13
          unfold cmpV cmpI
          repeat' split
          all_goals omega
        exact ⟨congrArg (fun z => Ending.returned (.int .i64 z)) hcm, hs8.drop.drop⟩
      · refine c_cond_f (t := false) (.tmp rfl (congrArg Value.bool hc13)) rfl ?_
        refine c_skip ?_
        refine n_block ?_
        refine n_then ?_
        refine c_seq ?_
        refine c_region ?_
        refine st (v := .int .i64 1) (x_assign .const) ?_
        refine c_nil ?_
        refine n_then ?_
        refine c_ret ?_
        refine leave_ret (res_one (v := .int .i64 1) rfl (.mk rfl rfl)) ?_
        have hcm : 1 = cmpV an ap bn bp := by
          have hne : ¬ ((an : Int) = bn ∧ ap = bp) := by simpa using hc13
          unfold cmpV cmpI
          repeat' split
          all_goals omega
        exact ⟨congrArg (fun z => Ending.returned (.int .i64 z)) hcm, hs8.drop.drop⟩

set_option maxHeartbeats 8000000 in
theorem form_spec {H : Hp} {w : World} {L : List Res} (hs : St H w L) (n : Nat) (p : Int) : Calls Try.prog 32 #[.agg #[.int .u64 ((n : Nat) : Int), .int .i64 p]] w (fun e w' => e = .returned (.bool (formV n p)) ∧ St H w' L) := by
  refine enter (args := [.agg #[.int .u64 ((n : Nat) : Int), .int .i64 p]]) (N := 21) Try.func32 rfl rfl rfl ?_
  refine c_seq ?_
  refine c_region ?_
  refine st_m (m_box (cs := [.int .u64 ((n : Nat) : Int), .int .i64 p]) hs (v := .agg #[.int .u64 ((n : Nat) : Int), .int .i64 p]) (.tmp rfl rfl) rfl) ?_
  rintro _ w2 ⟨g1, rfl, hs4⟩
  refine st (v := .bool false) (x_assign .const) ?_
  refine c_nil ?_
  refine n_then ?_
  refine c_seq ?_
  refine c_region ?_
  refine st (v := .pointer (some ⟨g1, 0 + 1, none⟩)) (fa25_1 (.tmp rfl rfl)) ?_
  refine st (v := .int .i64 p) (ld3 (.tmp rfl rfl) (hs4.cell 0 rfl (0 + 1) rfl)) ?_
  refine st (v := .bool (decide ((0 : Int) ≤ p))) (x_geq (k := .i64) (a := p) (b := 0) (.tmp rfl rfl) .const) ?_
  refine st (v := .bool (decide ((0 : Int) ≤ p))) (x_move (.tmp rfl rfl)) ?_
  rcases Bool.eq_false_or_eq_true (decide ((0 : Int) ≤ p)) with hc5 | hc5
  · have hp5 : (0 : Int) ≤ p := of_decide_eq_true hc5
    refine g_yes (yl (dj := 6) (b := true) rfl rfl (congrArg Value.bool hc5)) ?_
    refine st (v := .pointer (some ⟨g1, 0 + 1, none⟩)) (fa25_1 (.tmp rfl rfl)) ?_
    refine g_yes (yl (dj := 6) (b := true) rfl rfl (congrArg Value.bool hc5)) ?_
    refine st (v := .int .i64 p) (ld3 (.tmp rfl rfl) (hs4.cell 0 rfl (0 + 1) rfl)) ?_
    refine g_yes (yl (dj := 6) (b := true) rfl rfl (congrArg Value.bool hc5)) ?_
    refine st (v := .bool (decide ((p : Int) < 16))) (x_lss (k := .i64) (a := p) (b := 16) (.tmp rfl rfl) .const) ?_
    refine st (v := .bool (decide ((p : Int) < 16))) (x_pick_t (.tmp rfl (congrArg Value.bool hc5)) (.tmp rfl rfl)) ?_
    refine st (v := .bool (decide ((p : Int) < 16))) (x_move (.tmp rfl rfl)) ?_
    rcases Bool.eq_false_or_eq_true (decide ((p : Int) < 16)) with hc6 | hc6
    · have hp6 : (p : Int) < 16 := of_decide_eq_true hc6
      refine g_yes (yl (dj := 11) (b := true) rfl rfl (congrArg Value.bool hc6)) ?_
      refine st (v := .pointer (some ⟨g1, 0 + 0, none⟩)) (fa25_0 (.tmp rfl rfl)) ?_
      refine g_yes (yl (dj := 11) (b := true) rfl rfl (congrArg Value.bool hc6)) ?_
      refine st (v := .int .u64 ((n : Nat) : Int)) (ld23 (.tmp rfl rfl) (hs4.cell 0 rfl (0 + 0) rfl)) ?_
      refine g_yes (yl (dj := 11) (b := true) rfl rfl (congrArg Value.bool hc6)) ?_
      refine st (v := .bool (decide ((0 : Int) < ((n : Nat) : Int)))) (x_gtr (k := .u64) (a := ((n : Nat) : Int)) (b := 0) (.tmp rfl rfl) .const) ?_
      refine g_yes (yl (dj := 11) (b := true) rfl rfl (congrArg Value.bool hc6)) ?_
      refine st (v := .bool (decide ((0 : Int) < ((n : Nat) : Int)))) (x_move (.tmp rfl rfl)) ?_
      rcases Bool.eq_false_or_eq_true (decide ((0 : Int) < ((n : Nat) : Int))) with hc7 | hc7
      · have hp7 : (0 : Int) < ((n : Nat) : Int) := of_decide_eq_true hc7
        refine g_no (yl (dj := 15) (b := true) rfl rfl (congrArg Value.bool hc7)) rfl ?_
        refine g_no (yl (dj := 15) (b := true) rfl rfl (congrArg Value.bool hc7)) rfl ?_
        refine g_no (yl (dj := 15) (b := true) rfl rfl (congrArg Value.bool hc7)) rfl ?_
        refine g_yes (yl (dj := 11) (b := true) rfl rfl (congrArg Value.bool hc6)) ?_
        refine st (v := .bool true) (x_pick_t (.tmp rfl (congrArg Value.bool hc7)) .const) ?_
        refine st (v := .bool true) (x_pick_t (.tmp rfl (congrArg Value.bool hc6)) (.tmp rfl rfl)) ?_
        refine st (v := .bool true) (x_assign (.tmp rfl rfl)) ?_
        refine c_nil ?_
        refine n_then ?_
        refine c_ret ?_
        refine leave_ret (res_one (v := .bool true) rfl (.mk rfl rfl)) ?_
        have hfm : true = formV n p := by
          unfold formV
          first | exact decide_eq_decide.2 (by omega) | exact (decide_eq_true (by omega)).symm | exact (decide_eq_false (by omega)).symm
        exact ⟨congrArg (fun b => Ending.returned (.bool b)) hfm, hs4.drop⟩
      · have hp7 : ¬ ((0 : Int) < ((n : Nat) : Int)) := of_decide_eq_false hc7
        refine g_yes (yl (dj := 15) (b := false) rfl rfl (congrArg Value.bool hc7)) ?_
        refine st (v := .pointer (some ⟨g1, 0 + 1, none⟩)) (fa25_1 (.tmp rfl rfl)) ?_
        refine g_yes (yl (dj := 15) (b := false) rfl rfl (congrArg Value.bool hc7)) ?_
        refine st (v := .int .i64 p) (ld3 (.tmp rfl rfl) (hs4.cell 0 rfl (0 + 1) rfl)) ?_
        refine g_yes (yl (dj := 15) (b := false) rfl rfl (congrArg Value.bool hc7)) ?_
        refine st (v := .bool (decide ((p : Int) = 0))) (x_eql (k := .i64) (a := p) (b := 0) (.tmp rfl rfl) .const) ?_
        refine g_yes (yl (dj := 11) (b := true) rfl rfl (congrArg Value.bool hc6)) ?_
        refine st (v := .bool (decide ((p : Int) = 0))) (x_pick_f (.tmp rfl (congrArg Value.bool hc7)) (.tmp rfl rfl)) ?_
        refine st (v := .bool (decide ((p : Int) = 0))) (x_pick_t (.tmp rfl (congrArg Value.bool hc6)) (.tmp rfl rfl)) ?_
        refine st (v := .bool (decide ((p : Int) = 0))) (x_assign (.tmp rfl rfl)) ?_
        refine c_nil ?_
        refine n_then ?_
        refine c_ret ?_
        refine leave_ret (res_one (v := .bool (decide ((p : Int) = 0))) rfl (.mk rfl rfl)) ?_
        have hfm : (decide ((p : Int) = 0)) = formV n p := by
          unfold formV
          first | exact decide_eq_decide.2 (by omega) | exact (decide_eq_true (by omega)).symm | exact (decide_eq_false (by omega)).symm
        exact ⟨congrArg (fun b => Ending.returned (.bool b)) hfm, hs4.drop⟩
    · have hp6 : ¬ ((p : Int) < 16) := of_decide_eq_false hc6
      refine g_no (yl (dj := 11) (b := false) rfl rfl (congrArg Value.bool hc6)) rfl ?_
      refine g_no (yl (dj := 11) (b := false) rfl rfl (congrArg Value.bool hc6)) rfl ?_
      refine g_no (yl (dj := 11) (b := false) rfl rfl (congrArg Value.bool hc6)) rfl ?_
      refine g_no (yl (dj := 11) (b := false) rfl rfl (congrArg Value.bool hc6)) rfl ?_
      refine g_no0 (yn (dj := 15) rfl rfl) ?_
      refine g_no0 (yn (dj := 15) rfl rfl) ?_
      refine g_no0 (yn (dj := 15) rfl rfl) ?_
      refine g_no (yl (dj := 11) (b := false) rfl rfl (congrArg Value.bool hc6)) rfl ?_
      refine st (v := .bool false) (x_pick_f (.tmp rfl (congrArg Value.bool hc6)) .const) ?_
      refine st (v := .bool false) (x_assign (.tmp rfl rfl)) ?_
      refine c_nil ?_
      refine n_then ?_
      refine c_ret ?_
      refine leave_ret (res_one (v := .bool false) rfl (.mk rfl rfl)) ?_
      have hfm : false = formV n p := by
        unfold formV
        first | exact decide_eq_decide.2 (by omega) | exact (decide_eq_true (by omega)).symm | exact (decide_eq_false (by omega)).symm
      exact ⟨congrArg (fun b => Ending.returned (.bool b)) hfm, hs4.drop⟩
  · have hp5 : ¬ ((0 : Int) ≤ p) := of_decide_eq_false hc5
    refine g_no (yl (dj := 6) (b := false) rfl rfl (congrArg Value.bool hc5)) rfl ?_
    refine g_no (yl (dj := 6) (b := false) rfl rfl (congrArg Value.bool hc5)) rfl ?_
    refine g_no (yl (dj := 6) (b := false) rfl rfl (congrArg Value.bool hc5)) rfl ?_
    refine st (v := .bool false) (x_pick_f (.tmp rfl (congrArg Value.bool hc5)) .const) ?_
    refine st (v := .bool false) (x_move (.tmp rfl rfl)) ?_
    refine g_no (yl (dj := 11) (b := false) rfl rfl rfl) rfl ?_
    refine g_no (yl (dj := 11) (b := false) rfl rfl rfl) rfl ?_
    refine g_no (yl (dj := 11) (b := false) rfl rfl rfl) rfl ?_
    refine g_no (yl (dj := 11) (b := false) rfl rfl rfl) rfl ?_
    refine g_no0 (yn (dj := 15) rfl rfl) ?_
    refine g_no0 (yn (dj := 15) rfl rfl) ?_
    refine g_no0 (yn (dj := 15) rfl rfl) ?_
    refine g_no (yl (dj := 11) (b := false) rfl rfl rfl) rfl ?_
    refine st (v := .bool false) (x_pick_f (.tmp rfl rfl) .const) ?_
    refine st (v := .bool false) (x_assign (.tmp rfl rfl)) ?_
    refine c_nil ?_
    refine n_then ?_
    refine c_ret ?_
    refine leave_ret (res_one (v := .bool false) rfl (.mk rfl rfl)) ?_
    have hfm : false = formV n p := by
      unfold formV
      first | exact decide_eq_decide.2 (by omega) | exact (decide_eq_true (by omega)).symm | exact (decide_eq_false (by omega)).symm
    exact ⟨congrArg (fun b => Ending.returned (.bool b)) hfm, hs4.drop⟩

set_option maxHeartbeats 8000000 in
theorem rform_spec {H : Hp} {w : World} {L : List Res} (hs : St H w L) (n : Nat) (p : Int) : Calls Try.prog 35 #[.agg #[.int .u64 ((n : Nat) : Int), .int .i64 p]] w (fun e w' => e = .returned (.bool (formV n p)) ∧ St H w' L) := by
  refine enter (args := [.agg #[.int .u64 ((n : Nat) : Int), .int .i64 p]]) (N := 17) Try.func35 rfl rfl rfl ?_
  refine c_seq ?_
  refine c_region ?_
  refine st_m (m_box (cs := [.int .u64 ((n : Nat) : Int), .int .i64 p]) hs (v := .agg #[.int .u64 ((n : Nat) : Int), .int .i64 p]) (.tmp rfl rfl) rfl) ?_
  rintro _ w2 ⟨g1, rfl, hs4⟩
  refine st (v := .bool false) (x_assign .const) ?_
  refine c_nil ?_
  refine n_then ?_
  refine c_seq ?_
  refine c_seq ?_
  refine c_region ?_
  refine st (v := .pointer (some ⟨g1, 0 + 0, none⟩)) (fa25_0 (.tmp rfl rfl)) ?_
  refine st (v := .int .u64 ((n : Nat) : Int)) (ld23 (.tmp rfl rfl) (hs4.cell 0 rfl (0 + 0) rfl)) ?_
  refine st (v := .bool (decide ((((n : Nat) : Int) : Int) = 0))) (x_eql (k := .u64) (a := ((n : Nat) : Int)) (b := 0) (.tmp rfl rfl) .const) ?_
  refine c_nil ?_
  refine n_then ?_
  rcases Bool.eq_false_or_eq_true (decide ((((n : Nat) : Int) : Int) = 0)) with hc5 | hc5
  · have hp5 : (((n : Nat) : Int) : Int) = 0 := of_decide_eq_true hc5
    refine c_cond_t (t := true) (.tmp rfl (congrArg Value.bool hc5)) rfl ?_
    refine c_seq ?_
    refine c_region ?_
    refine st (v := .pointer (some ⟨g1, 0 + 1, none⟩)) (fa25_1 (.tmp rfl rfl)) ?_
    refine st (v := .int .i64 p) (ld3 (.tmp rfl rfl) (hs4.cell 0 rfl (0 + 1) rfl)) ?_
    refine st (v := .bool (decide ((p : Int) = 0))) (x_eql (k := .i64) (a := p) (b := 0) (.tmp rfl rfl) .const) ?_
    refine st (v := .bool (decide ((p : Int) = 0))) (x_assign (.tmp rfl rfl)) ?_
    refine c_nil ?_
    refine n_then ?_
    refine c_ret ?_
    refine r_then ?_
    refine leave_ret (res_one (v := .bool (decide ((p : Int) = 0))) rfl (.mk rfl rfl)) ?_
    have hfm : (decide ((p : Int) = 0)) = formV n p := by
      unfold formV
      first | exact decide_eq_decide.2 (by omega) | exact (decide_eq_true (by omega)).symm | exact (decide_eq_false (by omega)).symm
    exact ⟨congrArg (fun b => Ending.returned (.bool b)) hfm, hs4.drop⟩
  · have hp5 : ¬ ((((n : Nat) : Int) : Int) = 0) := of_decide_eq_false hc5
    refine c_cond_f (t := false) (.tmp rfl (congrArg Value.bool hc5)) rfl ?_
    refine c_skip ?_
    refine n_then ?_
    refine c_seq ?_
    refine c_region ?_
    refine st (v := .pointer (some ⟨g1, 0 + 1, none⟩)) (fa25_1 (.tmp rfl rfl)) ?_
    refine st (v := .int .i64 p) (ld3 (.tmp rfl rfl) (hs4.cell 0 rfl (0 + 1) rfl)) ?_
    refine st (v := .bool (decide ((0 : Int) ≤ p))) (x_geq (k := .i64) (a := p) (b := 0) (.tmp rfl rfl) .const) ?_
    refine st (v := .bool (decide ((0 : Int) ≤ p))) (x_move (.tmp rfl rfl)) ?_
    rcases Bool.eq_false_or_eq_true (decide ((0 : Int) ≤ p)) with hc6 | hc6
    · have hp6 : (0 : Int) ≤ p := of_decide_eq_true hc6
      refine g_yes (yl (dj := 12) (b := true) rfl rfl (congrArg Value.bool hc6)) ?_
      refine st (v := .pointer (some ⟨g1, 0 + 1, none⟩)) (fa25_1 (.tmp rfl rfl)) ?_
      refine g_yes (yl (dj := 12) (b := true) rfl rfl (congrArg Value.bool hc6)) ?_
      refine st (v := .int .i64 p) (ld3 (.tmp rfl rfl) (hs4.cell 0 rfl (0 + 1) rfl)) ?_
      refine g_yes (yl (dj := 12) (b := true) rfl rfl (congrArg Value.bool hc6)) ?_
      refine st (v := .bool (decide ((p : Int) ≤ 15))) (x_leq (k := .i64) (a := p) (b := 15) (.tmp rfl rfl) .const) ?_
      refine st (v := .bool (decide ((p : Int) ≤ 15))) (x_pick_t (.tmp rfl (congrArg Value.bool hc6)) (.tmp rfl rfl)) ?_
      refine st (v := .bool (decide ((p : Int) ≤ 15))) (x_assign (.tmp rfl rfl)) ?_
      refine c_nil ?_
      refine n_then ?_
      refine c_ret ?_
      refine leave_ret (res_one (v := .bool (decide ((p : Int) ≤ 15))) rfl (.mk rfl rfl)) ?_
      have hfm : (decide ((p : Int) ≤ 15)) = formV n p := by
        unfold formV
        first | exact decide_eq_decide.2 (by omega) | exact (decide_eq_true (by omega)).symm | exact (decide_eq_false (by omega)).symm
      exact ⟨congrArg (fun b => Ending.returned (.bool b)) hfm, hs4.drop⟩
    · have hp6 : ¬ ((0 : Int) ≤ p) := of_decide_eq_false hc6
      refine g_no (yl (dj := 12) (b := false) rfl rfl (congrArg Value.bool hc6)) rfl ?_
      refine g_no (yl (dj := 12) (b := false) rfl rfl (congrArg Value.bool hc6)) rfl ?_
      refine g_no (yl (dj := 12) (b := false) rfl rfl (congrArg Value.bool hc6)) rfl ?_
      refine st (v := .bool false) (x_pick_f (.tmp rfl (congrArg Value.bool hc6)) .const) ?_
      refine st (v := .bool false) (x_assign (.tmp rfl rfl)) ?_
      refine c_nil ?_
      refine n_then ?_
      refine c_ret ?_
      refine leave_ret (res_one (v := .bool false) rfl (.mk rfl rfl)) ?_
      have hfm : false = formV n p := by
        unfold formV
        first | exact decide_eq_decide.2 (by omega) | exact (decide_eq_true (by omega)).symm | exact (decide_eq_false (by omega)).symm
      exact ⟨congrArg (fun b => Ending.returned (.bool b)) hfm, hs4.drop⟩

end Go.Proofs.Ytkbllbphkdnmbaa
