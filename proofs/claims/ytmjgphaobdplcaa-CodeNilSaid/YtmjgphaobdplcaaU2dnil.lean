/- Steps of the proofs over the functions of this seat, printed by a program (gen.py) and checked by Lean. -/
import Derived.Test.YtmjgphaobdplcaaTy
import Derived.Test.YtmjgphaobdplcaaFmM2
import Derived.Test.YtmjgphaobdplcaaFmS2
import Derived.Test.YtmjgphaobdplcaaFmG
import Derived.Test.YtmjgphaobdplcaaFmP
import Derived.Test.YtmjgphaobdplcaaU2dawake
set_option linter.unusedVariables false
set_option linter.unusedSimpArgs false
namespace Go.Proofs.Ytmjgphaobdplcaa
open Go Go.FM Go.Proofs
attribute [local irreducible] wpList wpQuiet wpS Code.wp Calls
set_option maxHeartbeats 8000000 in
theorem uint_nil {H : Hp} {w : World} {L : List Res} (hs : St H w L) : Calls Try.prog 18 #[.pointer none] w (fun e w' => e = .returned (.int .u64 0) ∧ St H w' L) := by
  refine enter (args := [.pointer none]) (N := 68) Try.func18 rfl rfl rfl ?_
  refine c_seq ?_
  refine c_region ?_
  refine st (v := .int .u64 0) (x_assign .const) ?_
  refine c_nil ?_
  refine n_then ?_
  refine c_seq ?_
  refine c_seq ?_
  refine c_region ?_
  refine st (v := .pointer none) (x_move (.tmp rfl rfl)) ?_
  refine st (v := .bool true) (x_eqlP Try.underlying38 (.tmp rfl rfl) .const rfl) ?_
  refine st (v := .bool true) (x_move (.tmp rfl rfl)) ?_
  refine g_no (yl (dj := 8) (b := true) rfl rfl rfl) rfl ?_
  refine g_no (yl (dj := 8) (b := true) rfl rfl rfl) rfl ?_
  refine g_no (yl (dj := 8) (b := true) rfl rfl rfl) rfl ?_
  refine g_no (yl (dj := 8) (b := true) rfl rfl rfl) rfl ?_
  refine st (v := .bool true) (x_pick_t (.tmp rfl rfl) .const) ?_
  refine c_nil ?_
  refine n_then ?_
  refine c_cond_t (t := true) (.tmp rfl rfl) rfl ?_
  refine c_seq ?_
  refine c_region ?_
  refine st (v := .int .u64 0) (x_assign .const) ?_
  refine c_nil ?_
  refine n_then ?_
  refine c_ret ?_
  refine r_then ?_
  refine leave_ret (res_one (v := .int .u64 0) rfl (.mk rfl rfl)) ?_
  exact ⟨rfl, hs⟩

set_option maxHeartbeats 8000000 in
theorem fail_nil {H : Hp} {w : World} {L : List Res} (hs : St H w L) : Calls Try.prog 28 #[.pointer none] w (fun e w' => (∃ u, e = .returned u) ∧ St H w' L) := by
  refine enter (args := [.pointer none]) (N := 7) Try.func28 rfl rfl rfl ?_
  refine c_seq ?_
  refine c_region ?_
  refine st (v := .pointer none) (x_move (.tmp rfl rfl)) ?_
  refine st (v := .bool false) (x_neqP Try.underlying38 (.tmp rfl rfl) .const rfl) ?_
  refine c_nil ?_
  refine n_then ?_
  refine c_cond_f (t := false) (.tmp rfl rfl) rfl ?_
  refine c_skip ?_
  refine leave_end (res_none rfl) ?_
  exact ⟨⟨_, rfl⟩, hs⟩

set_option maxHeartbeats 8000000 in
theorem int_nil {H : Hp} {w : World} {L : List Res} (hs : St H w L) (m : Int) : Calls Try.prog 21 #[.pointer none, .int .i64 m] w (fun e w' => e = .returned (.int .i64 0) ∧ St H w' L) := by
  refine enter (args := [.pointer none, .int .i64 m]) (N := 30) Try.func21 rfl rfl rfl ?_
  refine c_seq ?_
  refine c_region ?_
  refine st (v := .int .i64 0) (x_assign .const) ?_
  refine c_nil ?_
  refine n_then ?_
  refine c_seq ?_
  refine c_region ?_
  refine st (v := .pointer none) (x_move (.tmp rfl rfl)) ?_
  refine st_c cb18 .func (evs1 (.tmp rfl rfl)) (uint_nil hs) ?_
  rintro e w1 ⟨rfl, hs2⟩
  refine ⟨_, rfl, ?_⟩
  refine st (v := .int .u64 0) (x_assign (.tmp rfl rfl)) ?_
  refine c_nil ?_
  refine n_then ?_
  refine c_seq ?_
  refine c_seq ?_
  refine c_region ?_
  refine st (v := .pointer none) (x_move (.tmp rfl rfl)) ?_
  refine st (v := .bool true) (x_eqlP Try.underlying38 (.tmp rfl rfl) .const rfl) ?_
  refine st (v := .bool true) (x_move (.tmp rfl rfl)) ?_
  refine g_no (yl (dj := 10) (b := true) rfl rfl rfl) rfl ?_
  refine g_no (yl (dj := 10) (b := true) rfl rfl rfl) rfl ?_
  refine g_no (yl (dj := 10) (b := true) rfl rfl rfl) rfl ?_
  refine g_no (yl (dj := 10) (b := true) rfl rfl rfl) rfl ?_
  refine st (v := .bool true) (x_pick_t (.tmp rfl rfl) .const) ?_
  refine st (v := .bool true) (x_move (.tmp rfl rfl)) ?_
  refine g_no (yl (dj := 16) (b := true) rfl rfl rfl) rfl ?_
  refine g_no (yl (dj := 16) (b := true) rfl rfl rfl) rfl ?_
  refine st (v := .bool true) (x_pick_t (.tmp rfl rfl) .const) ?_
  refine st (v := .bool true) (x_move (.tmp rfl rfl)) ?_
  refine g_no (yl (dj := 20) (b := true) rfl rfl rfl) rfl ?_
  refine g_no (yl (dj := 20) (b := true) rfl rfl rfl) rfl ?_
  refine g_no (yl (dj := 20) (b := true) rfl rfl rfl) rfl ?_
  refine g_no (yl (dj := 20) (b := true) rfl rfl rfl) rfl ?_
  refine st (v := .bool true) (x_pick_t (.tmp rfl rfl) .const) ?_
  refine c_nil ?_
  refine n_then ?_
  refine c_cond_t (t := true) (.tmp rfl rfl) rfl ?_
  refine c_seq ?_
  refine c_region ?_
  refine st (v := .pointer none) (x_move (.tmp rfl rfl)) ?_
  refine st_c cb28 .func (evs1 (.tmp rfl rfl)) (fail_nil hs2) ?_
  rintro e w3 ⟨⟨u5, rfl⟩, hs4⟩
  refine ⟨_, rfl, ?_⟩
  refine c_nil ?_
  refine n_then ?_
  refine c_seq ?_
  refine c_region ?_
  refine st (v := .int .i64 0) (x_assign .const) ?_
  refine c_nil ?_
  refine n_then ?_
  refine c_ret ?_
  refine r_then ?_
  refine leave_ret (res_one (v := .int .i64 0) rfl (.mk rfl rfl)) ?_
  exact ⟨rfl, hs4⟩

set_option maxHeartbeats 8000000 in
theorem bytes_nil {H : Hp} {w : World} {L : List Res} (hs : St H w L) (m : Int) : Calls Try.prog 22 #[.pointer none, .int .i64 m] w (fun e w' => e = .returned (.slice none 0 0) ∧ St H w' L) := by
  refine enter (args := [.pointer none, .int .i64 m]) (N := 46) Try.func22 rfl rfl rfl ?_
  refine c_seq ?_
  refine c_region ?_
  refine st (v := .slice none 0 0) (x_assign .const) ?_
  refine c_nil ?_
  refine n_then ?_
  refine c_seq ?_
  refine c_region ?_
  refine st (v := .pointer none) (x_move (.tmp rfl rfl)) ?_
  refine st (v := .int .i64 m) (x_move (.tmp rfl rfl)) ?_
  refine st_c cb21 .func (evs2 (.tmp rfl rfl) (.tmp rfl rfl)) (int_nil hs m) ?_
  rintro e w1 ⟨rfl, hs2⟩
  refine ⟨_, rfl, ?_⟩
  refine st (v := .int .i64 0) (x_assign (.tmp rfl rfl)) ?_
  refine c_nil ?_
  refine n_then ?_
  refine c_seq ?_
  refine c_seq ?_
  refine c_region ?_
  refine st (v := .pointer none) (x_move (.tmp rfl rfl)) ?_
  refine st (v := .bool true) (x_eqlP Try.underlying38 (.tmp rfl rfl) .const rfl) ?_
  refine st (v := .bool true) (x_move (.tmp rfl rfl)) ?_
  refine g_no (yl (dj := 12) (b := true) rfl rfl rfl) rfl ?_
  refine g_no (yl (dj := 12) (b := true) rfl rfl rfl) rfl ?_
  refine g_no (yl (dj := 12) (b := true) rfl rfl rfl) rfl ?_
  refine g_no (yl (dj := 12) (b := true) rfl rfl rfl) rfl ?_
  refine st (v := .bool true) (x_pick_t (.tmp rfl rfl) .const) ?_
  refine c_nil ?_
  refine n_then ?_
  refine c_cond_t (t := true) (.tmp rfl rfl) rfl ?_
  refine c_seq ?_
  refine c_region ?_
  refine st (v := .slice none 0 0) (x_assign .const) ?_
  refine c_nil ?_
  refine n_then ?_
  refine c_ret ?_
  refine r_then ?_
  refine leave_ret (res_one (v := .slice none 0 0) rfl (.mk rfl rfl)) ?_
  exact ⟨rfl, hs2⟩

set_option maxHeartbeats 8000000 in
theorem left_nil {H : Hp} {w : World} {L : List Res} (hs : St H w L) : Calls Try.prog 20 #[.pointer none] w (fun e w' => e = .returned (.int .i64 0) ∧ St H w' L) := by
  refine enter (args := [.pointer none]) (N := 16) Try.func20 rfl rfl rfl ?_
  refine c_seq ?_
  refine c_region ?_
  refine st (v := .int .i64 0) (x_assign .const) ?_
  refine c_nil ?_
  refine n_then ?_
  refine c_seq ?_
  refine c_seq ?_
  refine c_region ?_
  refine st (v := .pointer none) (x_move (.tmp rfl rfl)) ?_
  refine st (v := .bool true) (x_eqlP Try.underlying38 (.tmp rfl rfl) .const rfl) ?_
  refine st (v := .bool true) (x_move (.tmp rfl rfl)) ?_
  refine g_no (yl (dj := 5) (b := true) rfl rfl rfl) rfl ?_
  refine g_no (yl (dj := 5) (b := true) rfl rfl rfl) rfl ?_
  refine g_no (yl (dj := 5) (b := true) rfl rfl rfl) rfl ?_
  refine g_no (yl (dj := 5) (b := true) rfl rfl rfl) rfl ?_
  refine st (v := .bool true) (x_pick_t (.tmp rfl rfl) .const) ?_
  refine c_nil ?_
  refine n_then ?_
  refine c_cond_t (t := true) (.tmp rfl rfl) rfl ?_
  refine c_seq ?_
  refine c_region ?_
  refine st (v := .int .i64 0) (x_assign .const) ?_
  refine c_nil ?_
  refine n_then ?_
  refine c_ret ?_
  refine r_then ?_
  refine leave_ret (res_one (v := .int .i64 0) rfl (.mk rfl rfl)) ?_
  exact ⟨rfl, hs⟩

set_option maxHeartbeats 8000000 in
theorem bad_nil {H : Hp} {w : World} {L : List Res} (hs : St H w L) : Calls Try.prog 19 #[.pointer none] w (fun e w' => e = .returned (.bool true) ∧ St H w' L) := by
  refine enter (args := [.pointer none]) (N := 11) Try.func19 rfl rfl rfl ?_
  refine c_seq ?_
  refine c_region ?_
  refine st (v := .bool false) (x_assign .const) ?_
  refine c_nil ?_
  refine n_then ?_
  refine c_seq ?_
  refine c_region ?_
  refine st (v := .pointer none) (x_move (.tmp rfl rfl)) ?_
  refine st (v := .bool true) (x_eqlP Try.underlying38 (.tmp rfl rfl) .const rfl) ?_
  refine st (v := .bool true) (x_move (.tmp rfl rfl)) ?_
  refine g_no (yl (dj := 5) (b := true) rfl rfl rfl) rfl ?_
  refine g_no (yl (dj := 5) (b := true) rfl rfl rfl) rfl ?_
  refine g_no (yl (dj := 5) (b := true) rfl rfl rfl) rfl ?_
  refine g_no (yl (dj := 5) (b := true) rfl rfl rfl) rfl ?_
  refine st (v := .bool true) (x_pick_t (.tmp rfl rfl) .const) ?_
  refine st (v := .bool true) (x_assign (.tmp rfl rfl)) ?_
  refine c_nil ?_
  refine n_then ?_
  refine c_ret ?_
  refine leave_ret (res_one (v := .bool true) rfl (.mk rfl rfl)) ?_
  exact ⟨rfl, hs⟩

set_option maxHeartbeats 8000000 in
theorem codeNil_spec {H : Hp} {w : World} {L : List Res} (hs : St H w L) (m : Int) : Calls Try.prog 7 #[.int .i64 m] w (fun e w' => e = .returned (.bool true) ∧ St H w' L) := by
  refine enter (args := [.int .i64 m]) (N := 32) Try.func7 rfl rfl rfl ?_
  refine c_seq ?_
  refine c_region ?_
  refine st (v := .bool false) (x_assign .const) ?_
  refine c_nil ?_
  refine n_then ?_
  refine c_seq ?_
  refine c_region ?_
  refine st (v := .pointer none) (x_assign .const) ?_
  refine c_nil ?_
  refine n_then ?_
  refine c_seq ?_
  refine c_region ?_
  refine st_c cb9 .func (evs0 ) (awake_spec hs) ?_
  rintro e w1 ⟨rfl, hs2⟩
  refine ⟨_, rfl, ?_⟩
  refine st (v := .bool true) (x_move (.tmp rfl rfl)) ?_
  refine g_yes (yl (dj := 5) (b := true) rfl rfl rfl) ?_
  refine st (v := .pointer none) (x_move (.tmp rfl rfl)) ?_
  refine g_yes (yl (dj := 5) (b := true) rfl rfl rfl) ?_
  refine st_c cb18 .func (evs1 (.tmp rfl rfl)) (uint_nil hs2) ?_
  rintro e w3 ⟨rfl, hs4⟩
  refine ⟨_, rfl, ?_⟩
  refine g_yes (yl (dj := 5) (b := true) rfl rfl rfl) ?_
  refine st (v := .bool true) (x_eql (k := .u64) (a := 0) (b := 0) (.tmp rfl rfl) .const) ?_
  refine st (v := .bool true) (x_pick_t (.tmp rfl rfl) (.tmp rfl rfl)) ?_
  refine st (v := .bool true) (x_move (.tmp rfl rfl)) ?_
  refine g_yes (yl (dj := 10) (b := true) rfl rfl rfl) ?_
  refine st (v := .pointer none) (x_move (.tmp rfl rfl)) ?_
  refine g_yes (yl (dj := 10) (b := true) rfl rfl rfl) ?_
  refine st (v := .int .i64 m) (x_move (.tmp rfl rfl)) ?_
  refine g_yes (yl (dj := 10) (b := true) rfl rfl rfl) ?_
  refine st_c cb21 .func (evs2 (.tmp rfl rfl) (.tmp rfl rfl)) (int_nil hs4 m) ?_
  rintro e w5 ⟨rfl, hs6⟩
  refine ⟨_, rfl, ?_⟩
  refine g_yes (yl (dj := 10) (b := true) rfl rfl rfl) ?_
  refine st (v := .bool true) (x_eql (k := .i64) (a := 0) (b := 0) (.tmp rfl rfl) .const) ?_
  refine st (v := .bool true) (x_pick_t (.tmp rfl rfl) (.tmp rfl rfl)) ?_
  refine st (v := .bool true) (x_move (.tmp rfl rfl)) ?_
  refine g_yes (yl (dj := 16) (b := true) rfl rfl rfl) ?_
  refine st (v := .pointer none) (x_move (.tmp rfl rfl)) ?_
  refine g_yes (yl (dj := 16) (b := true) rfl rfl rfl) ?_
  refine st (v := .int .i64 m) (x_move (.tmp rfl rfl)) ?_
  refine g_yes (yl (dj := 16) (b := true) rfl rfl rfl) ?_
  refine st_c cb22 .func (evs2 (.tmp rfl rfl) (.tmp rfl rfl)) (bytes_nil hs6 m) ?_
  rintro e w7 ⟨rfl, hs8⟩
  refine ⟨_, rfl, ?_⟩
  refine g_yes (yl (dj := 16) (b := true) rfl rfl rfl) ?_
  refine st (v := .int .i64 ((0 : Nat) : Int)) (x_len (n := 0) Try.underlying22 (.tmp rfl rfl)) ?_
  refine g_yes (yl (dj := 16) (b := true) rfl rfl rfl) ?_
  refine st (v := .bool true) (x_eql (k := .i64) (a := ((0 : Nat) : Int)) (b := 0) (.tmp rfl rfl) .const) ?_
  refine st (v := .bool true) (x_pick_t (.tmp rfl rfl) (.tmp rfl rfl)) ?_
  refine st (v := .bool true) (x_move (.tmp rfl rfl)) ?_
  refine g_yes (yl (dj := 23) (b := true) rfl rfl rfl) ?_
  refine st (v := .pointer none) (x_move (.tmp rfl rfl)) ?_
  refine g_yes (yl (dj := 23) (b := true) rfl rfl rfl) ?_
  refine st_c cb20 .func (evs1 (.tmp rfl rfl)) (left_nil hs8) ?_
  rintro e w9 ⟨rfl, hs10⟩
  refine ⟨_, rfl, ?_⟩
  refine g_yes (yl (dj := 23) (b := true) rfl rfl rfl) ?_
  refine st (v := .bool true) (x_eql (k := .i64) (a := 0) (b := 0) (.tmp rfl rfl) .const) ?_
  refine st (v := .bool true) (x_pick_t (.tmp rfl rfl) (.tmp rfl rfl)) ?_
  refine st (v := .bool true) (x_move (.tmp rfl rfl)) ?_
  refine g_yes (yl (dj := 28) (b := true) rfl rfl rfl) ?_
  refine st (v := .pointer none) (x_move (.tmp rfl rfl)) ?_
  refine g_yes (yl (dj := 28) (b := true) rfl rfl rfl) ?_
  refine st_c cb19 .func (evs1 (.tmp rfl rfl)) (bad_nil hs10) ?_
  rintro e w11 ⟨rfl, hs12⟩
  refine ⟨_, rfl, ?_⟩
  refine st (v := .bool true) (x_pick_t (.tmp rfl rfl) (.tmp rfl rfl)) ?_
  refine st (v := .bool true) (x_assign (.tmp rfl rfl)) ?_
  refine c_nil ?_
  refine n_then ?_
  refine c_ret ?_
  refine leave_ret (res_one (v := .bool true) rfl (.mk rfl rfl)) ?_
  exact ⟨rfl, hs12⟩

end Go.Proofs.Ytmjgphaobdplcaa
