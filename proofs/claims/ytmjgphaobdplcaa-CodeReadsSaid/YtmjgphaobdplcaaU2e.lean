/- Steps of the proofs over the functions of this seat, printed by a program (gen.py) and checked by Lean. -/
import Derived.Test.YtmjgphaobdplcaaUty
import Derived.Test.YtmjgphaobdplcaaFmM2
import Derived.Test.YtmjgphaobdplcaaFmS2
import Derived.Test.YtmjgphaobdplcaaFmG
import Derived.Test.YtmjgphaobdplcaaFmP
import Derived.Test.YtmjgphaobdplcaaFmM2c
import Derived.Test.YtmjgphaobdplcaaU2dawake
set_option linter.unusedVariables false
set_option linter.unusedSimpArgs false
namespace Go.Proofs.Ytmjgphaobdplcaa
open Go Go.FM Go.Proofs
attribute [local irreducible] wpList wpQuiet wpS Code.wp Calls
set_option maxHeartbeats 8000000 in
theorem newReader_spec {H : Hp} {w : World} {L : List Res} (hs : St H w L) {A : Option Addr} {n c : Nat} : Calls Try.prog 17 #[.slice A n c] w (fun e w' => ∃ g, e = .returned (.pointer (some ⟨g, 0, none⟩)) ∧ St H w' (obj g 58 [.slice A n c, .bool false] :: L)) := by
  refine enter (args := [.slice A n c]) (N := 6) Try.func17 rfl rfl rfl ?_
  refine c_seq ?_
  refine c_region ?_
  refine st (v := .pointer none) (x_assign .const) ?_
  refine c_nil ?_
  refine n_then ?_
  refine c_seq ?_
  refine c_region ?_
  refine st (v := .slice A n c) (x_move (.tmp rfl rfl)) ?_
  refine st (v := .agg #[.slice A n c, .bool false]) (bl58 (ps := [(0, .slice A n c)]) (.cons (.tmp rfl rfl) Evp.nil) rfl) ?_
  refine st_m (m_box (cs := [.slice A n c, .bool false]) hs (v := .agg #[.slice A n c, .bool false]) (.tmp rfl rfl) rfl) ?_
  rintro _ w2 ⟨g1, rfl, hs4⟩
  refine st (v := .pointer (some ⟨g1, 0, none⟩)) (x_assign (.tmp rfl rfl)) ?_
  refine c_nil ?_
  refine n_then ?_
  refine c_ret ?_
  refine leave_ret (res_one (v := .pointer (some ⟨g1, 0, none⟩)) rfl (.mk rfl rfl)) ?_
  exact ⟨_, rfl, hs4⟩

set_option maxHeartbeats 8000000 in
theorem bad_own {H : Hp} {w : World} {L : List Res} {g : Nat} {A : Option Addr} {n c : Nat} {b : Bool} (hs : St H w (obj g 58 [.slice A n c, .bool b] :: L)) : Calls Try.prog 19 #[.pointer (some ⟨g, 0, none⟩)] w (fun e w' => e = .returned (.bool b) ∧ St H w' (obj g 58 [.slice A n c, .bool b] :: L)) := by
  refine enter (args := [.pointer (some ⟨g, 0, none⟩)]) (N := 11) Try.func19 rfl rfl rfl ?_
  refine c_seq ?_
  refine c_region ?_
  refine st (v := .bool false) (x_assign .const) ?_
  refine c_nil ?_
  refine n_then ?_
  refine c_seq ?_
  refine c_region ?_
  refine st (v := .pointer (some ⟨g, 0, none⟩)) (x_move (.tmp rfl rfl)) ?_
  refine st (v := .bool false) (x_eqlP Try.underlying38 (.tmp rfl rfl) .const rfl) ?_
  refine st (v := .bool false) (x_move (.tmp rfl rfl)) ?_
  refine g_yes (yl (dj := 5) (b := false) rfl rfl rfl) ?_
  refine st (v := .pointer (some ⟨g, 0, none⟩)) (x_move (.tmp rfl rfl)) ?_
  refine g_yes (yl (dj := 5) (b := false) rfl rfl rfl) ?_
  refine st (v := .pointer (some ⟨g, 0, none⟩)) (x_nilCheck (.tmp rfl rfl)) ?_
  refine g_yes (yl (dj := 5) (b := false) rfl rfl rfl) ?_
  refine st (v := .pointer (some ⟨g, 0 + 1, none⟩)) (fa58_1 (.tmp rfl rfl)) ?_
  refine g_yes (yl (dj := 5) (b := false) rfl rfl rfl) ?_
  refine st (v := .bool b) (ld4 (.tmp rfl rfl) (hs.cell 0 rfl (0 + 1) rfl)) ?_
  refine st (v := .bool b) (x_pick_f (.tmp rfl rfl) (.tmp rfl rfl)) ?_
  refine st (v := .bool b) (x_assign (.tmp rfl rfl)) ?_
  refine c_nil ?_
  refine n_then ?_
  refine c_ret ?_
  refine leave_ret (res_one (v := .bool b) rfl (.mk rfl rfl)) ?_
  exact ⟨rfl, hs⟩

set_option maxHeartbeats 8000000 in
theorem left_own {H : Hp} {w : World} {L : List Res} {g : Nat} {A : Option Addr} {n c : Nat} {b : Bool} (hs : St H w (obj g 58 [.slice A n c, .bool b] :: L)) : Calls Try.prog 20 #[.pointer (some ⟨g, 0, none⟩)] w (fun e w' => e = .returned (.int .i64 (if b = true then 0 else ((n : Nat) : Int))) ∧ St H w' (obj g 58 [.slice A n c, .bool b] :: L)) := by
  refine enter (args := [.pointer (some ⟨g, 0, none⟩)]) (N := 16) Try.func20 rfl rfl rfl ?_
  refine c_seq ?_
  refine c_region ?_
  refine st (v := .int .i64 0) (x_assign .const) ?_
  refine c_nil ?_
  refine n_then ?_
  refine c_seq ?_
  refine c_seq ?_
  refine c_region ?_
  refine st (v := .pointer (some ⟨g, 0, none⟩)) (x_move (.tmp rfl rfl)) ?_
  refine st (v := .bool false) (x_eqlP Try.underlying38 (.tmp rfl rfl) .const rfl) ?_
  refine st (v := .bool false) (x_move (.tmp rfl rfl)) ?_
  refine g_yes (yl (dj := 5) (b := false) rfl rfl rfl) ?_
  refine st (v := .pointer (some ⟨g, 0, none⟩)) (x_move (.tmp rfl rfl)) ?_
  refine g_yes (yl (dj := 5) (b := false) rfl rfl rfl) ?_
  refine st (v := .pointer (some ⟨g, 0, none⟩)) (x_nilCheck (.tmp rfl rfl)) ?_
  refine g_yes (yl (dj := 5) (b := false) rfl rfl rfl) ?_
  refine st (v := .pointer (some ⟨g, 0 + 1, none⟩)) (fa58_1 (.tmp rfl rfl)) ?_
  refine g_yes (yl (dj := 5) (b := false) rfl rfl rfl) ?_
  refine st (v := .bool b) (ld4 (.tmp rfl rfl) (hs.cell 0 rfl (0 + 1) rfl)) ?_
  refine st (v := .bool b) (x_pick_f (.tmp rfl rfl) (.tmp rfl rfl)) ?_
  refine c_nil ?_
  refine n_then ?_
  rcases Bool.eq_false_or_eq_true b with hc1 | hc1
  · refine c_cond_t (t := true) (.tmp rfl (congrArg Value.bool hc1)) rfl ?_
    refine c_seq ?_
    refine c_region ?_
    refine st (v := .int .i64 0) (x_assign .const) ?_
    refine c_nil ?_
    refine n_then ?_
    refine c_ret ?_
    refine r_then ?_
    refine leave_ret (res_one (v := .int .i64 0) rfl (.mk rfl rfl)) ?_
    exact ⟨by rw [hc1]; rfl, hs⟩
  · refine c_cond_f (t := false) (.tmp rfl (congrArg Value.bool hc1)) rfl ?_
    refine c_skip ?_
    refine n_then ?_
    refine c_seq ?_
    refine c_region ?_
    refine st (v := .pointer (some ⟨g, 0, none⟩)) (x_move (.tmp rfl rfl)) ?_
    refine st (v := .pointer (some ⟨g, 0, none⟩)) (x_nilCheck (.tmp rfl rfl)) ?_
    refine st (v := .pointer (some ⟨g, 0 + 0, none⟩)) (fa58_0 (.tmp rfl rfl)) ?_
    refine st (v := .slice A n c) (ld22 (.tmp rfl rfl) (hs.cell 0 rfl (0 + 0) rfl)) ?_
    refine st (v := .int .i64 ((n : Nat) : Int)) (x_len (n := n) Try.underlying22 (.tmp rfl rfl)) ?_
    refine st (v := .int .i64 ((n : Nat) : Int)) (x_assign (.tmp rfl rfl)) ?_
    refine c_nil ?_
    refine n_then ?_
    refine c_ret ?_
    refine leave_ret (res_one (v := .int .i64 ((n : Nat) : Int)) rfl (.mk rfl rfl)) ?_
    exact ⟨by rw [hc1]; rfl, hs⟩

set_option maxHeartbeats 8000000 in
theorem uint_true {H : Hp} {w : World} {L : List Res} {g : Nat} {A : Option Addr} {n c : Nat} {bs : List Nat} (hp : Bs H A n c bs) (hs : St H w (obj g 58 [.slice A n c, .bool true] :: L)) : Calls Try.prog 18 #[.pointer (some ⟨g, 0, none⟩)] w (fun e w' => ∃ A' n' c', e = .returned (.int .u64 (((rdU bs true).1 : Nat) : Int)) ∧ Bs H A' n' c' (rdU bs true).2.1 ∧ St H w' (obj g 58 [.slice A' n' c', .bool (rdU bs true).2.2] :: L)) := by
  refine enter (args := [.pointer (some ⟨g, 0, none⟩)]) (N := 68) Try.func18 rfl rfl rfl ?_
  refine c_seq ?_
  refine c_region ?_
  refine st (v := .int .u64 0) (x_assign .const) ?_
  refine c_nil ?_
  refine n_then ?_
  refine c_seq ?_
  refine c_seq ?_
  refine c_region ?_
  refine st (v := .pointer (some ⟨g, 0, none⟩)) (x_move (.tmp rfl rfl)) ?_
  refine st (v := .bool false) (x_eqlP Try.underlying38 (.tmp rfl rfl) .const rfl) ?_
  refine st (v := .bool false) (x_move (.tmp rfl rfl)) ?_
  refine g_yes (yl (dj := 8) (b := false) rfl rfl rfl) ?_
  refine st (v := .pointer (some ⟨g, 0, none⟩)) (x_move (.tmp rfl rfl)) ?_
  refine g_yes (yl (dj := 8) (b := false) rfl rfl rfl) ?_
  refine st (v := .pointer (some ⟨g, 0, none⟩)) (x_nilCheck (.tmp rfl rfl)) ?_
  refine g_yes (yl (dj := 8) (b := false) rfl rfl rfl) ?_
  refine st (v := .pointer (some ⟨g, 0 + 1, none⟩)) (fa58_1 (.tmp rfl rfl)) ?_
  refine g_yes (yl (dj := 8) (b := false) rfl rfl rfl) ?_
  refine st (v := .bool true) (ld4 (.tmp rfl rfl) (hs.cell 0 rfl (0 + 1) rfl)) ?_
  refine st (v := .bool true) (x_pick_f (.tmp rfl rfl) (.tmp rfl rfl)) ?_
  refine c_nil ?_
  refine n_then ?_
  refine c_cond_t (t := true) (.tmp rfl rfl) rfl ?_
  refine c_seq ?_
  refine c_region ?_
  refine st (v := .int .u64 0) (x_assign .const) ?_
  refine c_nil ?_
  refine n_then ?_
  refine c_ret ?_
  refine r_then ?_
  refine leave_ret (res_one (v := .int .u64 0) rfl (.mk rfl rfl)) ?_
  exact ⟨_, _, _, rfl, hp, hs⟩

set_option maxHeartbeats 8000000 in
theorem uint_false {H : Hp} {w : World} {L : List Res} {g : Nat} {A : Option Addr} {n c : Nat} {bs : List Nat} (hp : Bs H A n c bs) (hs : St H w (obj g 58 [.slice A n c, .bool false] :: L)) : Calls Try.prog 18 #[.pointer (some ⟨g, 0, none⟩)] w (fun e w' => ∃ A' n' c', e = .returned (.int .u64 (((rdU bs false).1 : Nat) : Int)) ∧ Bs H A' n' c' (rdU bs false).2.1 ∧ St H w' (obj g 58 [.slice A' n' c', .bool (rdU bs false).2.2] :: L)) := by
  refine enter (args := [.pointer (some ⟨g, 0, none⟩)]) (N := 68) Try.func18 rfl rfl rfl ?_
  have hle := hp.le
  have hlen := hp.len
  have hmx : c ≤ 9223372036854775807 := hp.max
  refine c_seq ?_
  refine c_region ?_
  refine st (v := .int .u64 0) (x_assign .const) ?_
  refine c_nil ?_
  refine n_then ?_
  refine c_seq ?_
  refine c_seq ?_
  refine c_region ?_
  refine st (v := .pointer (some ⟨g, 0, none⟩)) (x_move (.tmp rfl rfl)) ?_
  refine st (v := .bool false) (x_eqlP Try.underlying38 (.tmp rfl rfl) .const rfl) ?_
  refine st (v := .bool false) (x_move (.tmp rfl rfl)) ?_
  refine g_yes (yl (dj := 8) (b := false) rfl rfl rfl) ?_
  refine st (v := .pointer (some ⟨g, 0, none⟩)) (x_move (.tmp rfl rfl)) ?_
  refine g_yes (yl (dj := 8) (b := false) rfl rfl rfl) ?_
  refine st (v := .pointer (some ⟨g, 0, none⟩)) (x_nilCheck (.tmp rfl rfl)) ?_
  refine g_yes (yl (dj := 8) (b := false) rfl rfl rfl) ?_
  refine st (v := .pointer (some ⟨g, 0 + 1, none⟩)) (fa58_1 (.tmp rfl rfl)) ?_
  refine g_yes (yl (dj := 8) (b := false) rfl rfl rfl) ?_
  refine st (v := .bool false) (ld4 (.tmp rfl rfl) (hs.cell 0 rfl (0 + 1) rfl)) ?_
  refine st (v := .bool false) (x_pick_f (.tmp rfl rfl) (.tmp rfl rfl)) ?_
  refine c_nil ?_
  refine n_then ?_
  refine c_cond_f (t := false) (.tmp rfl rfl) rfl ?_
  refine c_skip ?_
  refine n_then ?_
  refine c_seq ?_
  refine c_region ?_
  refine st (v := .int .u64 0) (x_assign .const) ?_
  refine c_nil ?_
  refine n_then ?_
  refine c_seq ?_
  refine c_seq ?_
  refine c_region ?_
  refine st (v := .pointer (some ⟨g, 0, none⟩)) (x_move (.tmp rfl rfl)) ?_
  refine st (v := .pointer (some ⟨g, 0, none⟩)) (x_nilCheck (.tmp rfl rfl)) ?_
  refine st (v := .pointer (some ⟨g, 0 + 0, none⟩)) (fa58_0 (.tmp rfl rfl)) ?_
  refine st (v := .slice A n c) (ld22 (.tmp rfl rfl) (hs.cell 0 rfl (0 + 0) rfl)) ?_
  refine st (v := .int .i64 ((n : Nat) : Int)) (x_len (n := n) Try.underlying22 (.tmp rfl rfl)) ?_
  refine st (v := .int .i64 0) (x_move .const) ?_
  refine c_nil ?_
  refine n_then ?_
  refine c_block ?_
  refine c_loop (fun ρ w mm => ∃ (i : Nat) (a : Nat), ρ 0 = .pointer (some ⟨g, 0, none⟩) ∧ ρ 3 = .int .u64 ((a : Nat) : Int) ∧ ρ 18 = .int .i64 ((n : Nat) : Int) ∧ ρ 19 = .int .i64 ((i : Nat) : Int) ∧ (i ≤ n) ∧ (i ≤ 9) ∧ (a < 18446744073709551616) ∧ (uscan 0 0 bs = uscan i a (bs.drop i)) ∧ St H w (obj g 58 [.slice A n c, .bool false] :: L) ∧ mm = n - i) _ ⟨0, 0, rfl, rfl, rfl, rfl, (by omega), (by omega), (by decide), rfl, hs, rfl⟩ ?_
  rintro ρ w mm ⟨i, a, hρ2, hρ3, hρ4, hρ5, hi, h9, ha, hu, hs6, rfl⟩
  refine c_seq ?_
  refine c_region ?_
  refine st (v := .bool (decide ((((i : Nat) : Int) : Int) < ((n : Nat) : Int)))) (x_lss (k := .i64) (a := ((i : Nat) : Int)) (b := ((n : Nat) : Int)) (.tmp rfl hρ5) (.tmp rfl hρ4)) ?_
  refine c_nil ?_
  refine n_then ?_
  refine c_seq ?_
  rcases Bool.eq_false_or_eq_true (decide ((((i : Nat) : Int) : Int) < ((n : Nat) : Int))) with hc7 | hc7
  · have hp7 : (((i : Nat) : Int) : Int) < ((n : Nat) : Int) := of_decide_eq_true hc7
    refine c_cond_t (t := true) (.tmp rfl (congrArg Value.bool hc7)) rfl ?_
    refine c_skip ?_
    refine n_then ?_
    refine c_seq ?_
    refine c_block ?_
    refine c_seq ?_
    refine c_region ?_
    refine st (v := .int .i64 ((i : Nat) : Int)) (x_move (.tmp rfl hρ5)) ?_
    refine st (v := .int .i64 ((i : Nat) : Int)) (x_assign (.tmp rfl rfl)) ?_
    refine c_nil ?_
    refine n_then ?_
    refine c_seq ?_
    refine c_region ?_
    refine st (v := .pointer (some ⟨g, 0, none⟩)) (x_move (.tmp rfl hρ2)) ?_
    refine st (v := .pointer (some ⟨g, 0, none⟩)) (x_nilCheck (.tmp rfl rfl)) ?_
    refine st (v := .pointer (some ⟨g, 0 + 0, none⟩)) (fa58_0 (.tmp rfl rfl)) ?_
    refine st (v := .slice A n c) (ld22 (.tmp rfl rfl) (hs6.cell 0 rfl (0 + 0) rfl)) ?_
    refine st (v := .int .i64 ((i : Nat) : Int)) (x_move (.tmp rfl rfl)) ?_
    obtain ⟨b8, o9, hA10, hc11⟩ := hp.get (i := i) (by omega)
    refine st (v := .pointer (some ⟨b8, (o9 + i * 1), none⟩)) (ixo22 (.tmp rfl rfl) hA10 (i := ((i : Nat) : Int)) (.tmp rfl rfl) (by omega) (by omega) rfl) ?_
    refine st (v := .int .u8 ((bs.getD i 0 : Nat) : Int)) (ld5 (.tmp rfl rfl) (hc11 hs6)) ?_
    refine st (v := .int .u8 ((bs.getD i 0 : Nat) : Int)) (x_assign (.tmp rfl rfl)) ?_
    refine c_nil ?_
    refine n_then ?_
    refine c_seq ?_
    refine c_seq ?_
    refine c_region ?_
    refine st (v := .int .i64 ((i : Nat) : Int)) (x_move (.tmp rfl rfl)) ?_
    refine st (v := .bool (decide ((((i : Nat) : Int) : Int) = 9))) (x_eql (k := .i64) (a := ((i : Nat) : Int)) (b := 9) (.tmp rfl rfl) .const) ?_
    refine st (v := .bool (decide ((((i : Nat) : Int) : Int) = 9))) (x_move (.tmp rfl rfl)) ?_
    rcases Bool.eq_false_or_eq_true (decide ((((i : Nat) : Int) : Int) = 9)) with hc12 | hc12
    · have hp12 : (((i : Nat) : Int) : Int) = 9 := of_decide_eq_true hc12
      refine g_yes (yl (dj := 31) (b := true) rfl rfl (congrArg Value.bool hc12)) ?_
      refine st (v := .int .u8 ((bs.getD i 0 : Nat) : Int)) (x_move (.tmp rfl rfl)) ?_
      refine g_yes (yl (dj := 31) (b := true) rfl rfl (congrArg Value.bool hc12)) ?_
      refine st (v := .bool (decide ((1 : Int) < ((bs.getD i 0 : Nat) : Int)))) (x_gtr (k := .u8) (a := ((bs.getD i 0 : Nat) : Int)) (b := 1) (.tmp rfl rfl) .const) ?_
      refine st (v := .bool (decide ((1 : Int) < ((bs.getD i 0 : Nat) : Int)))) (x_pick_t (.tmp rfl (congrArg Value.bool hc12)) (.tmp rfl rfl)) ?_
      refine st (v := .bool (decide ((1 : Int) < ((bs.getD i 0 : Nat) : Int)))) (x_move (.tmp rfl rfl)) ?_
      rcases Bool.eq_false_or_eq_true (decide ((1 : Int) < ((bs.getD i 0 : Nat) : Int))) with hc13 | hc13
      · have hp13 : (1 : Int) < ((bs.getD i 0 : Nat) : Int) := of_decide_eq_true hc13
        refine g_no (yl (dj := 35) (b := true) rfl rfl (congrArg Value.bool hc13)) rfl ?_
        refine g_no (yl (dj := 35) (b := true) rfl rfl (congrArg Value.bool hc13)) rfl ?_
        refine g_no (yl (dj := 35) (b := true) rfl rfl (congrArg Value.bool hc13)) rfl ?_
        refine g_no0 (yn (dj := 38) rfl rfl) ?_
        refine g_no0 (yn (dj := 38) rfl rfl) ?_
        refine g_no (yl (dj := 35) (b := true) rfl rfl (congrArg Value.bool hc13)) rfl ?_
        refine st (v := .bool true) (x_pick_t (.tmp rfl (congrArg Value.bool hc13)) .const) ?_
        refine c_nil ?_
        refine n_then ?_
        refine c_cond_t (t := true) (.tmp rfl rfl) rfl ?_
        refine c_exit ?_
        refine x_then ?_
        refine x_block rfl ?_
        refine x_then ?_
        refine x_then ?_
        refine x_here ?_
        refine n_then ?_
        refine c_seq ?_
        refine c_region ?_
        refine st (v := .pointer (some ⟨g, 0, none⟩)) (x_move (.tmp rfl hρ2)) ?_
        refine st (v := .pointer (some ⟨g, 0, none⟩)) (x_nilCheck (.tmp rfl rfl)) ?_
        refine st (v := .pointer (some ⟨g, 0 + 1, none⟩)) (fa58_1 (.tmp rfl rfl)) ?_
        refine st_m0 (sto4 (cs' := [.slice A n c, .bool true]) (i := 0 + 1) hs6 (v := .bool true) (.tmp rfl rfl) .const rfl (Nat.le_of_ble_eq_true rfl) one1 rfl) ?_
        rintro w14 hs16
        refine c_nil ?_
        refine n_then ?_
        refine c_seq ?_
        refine c_region ?_
        refine st (v := .int .u64 0) (x_assign .const) ?_
        refine c_nil ?_
        refine n_then ?_
        refine c_ret ?_
        refine leave_ret (res_one (v := .int .u64 0) rfl (.mk rfl rfl)) ?_
        have hf : uscan 0 0 bs = none := hu.trans (by first | (rw [uscan_get (by omega), if_pos (by omega)]) | (rw [List.drop_eq_nil_of_le (by omega)]; rfl))
        rw [rdU_none hf]
        exact ⟨_, _, _, rfl, hp, hs16⟩
      · have hp13 : ¬ ((1 : Int) < ((bs.getD i 0 : Nat) : Int)) := of_decide_eq_false hc13
        refine g_yes (yl (dj := 35) (b := false) rfl rfl (congrArg Value.bool hc13)) ?_
        refine st (v := .int .i64 ((i : Nat) : Int)) (x_move (.tmp rfl rfl)) ?_
        refine g_yes (yl (dj := 35) (b := false) rfl rfl (congrArg Value.bool hc13)) ?_
        refine st (v := .bool (decide ((0 : Int) < ((i : Nat) : Int)))) (x_gtr (k := .i64) (a := ((i : Nat) : Int)) (b := 0) (.tmp rfl rfl) .const) ?_
        refine g_yes (yl (dj := 35) (b := false) rfl rfl (congrArg Value.bool hc13)) ?_
        refine st (v := .bool (decide ((0 : Int) < ((i : Nat) : Int)))) (x_move (.tmp rfl rfl)) ?_
        rcases Bool.eq_false_or_eq_true (decide ((0 : Int) < ((i : Nat) : Int))) with hc17 | hc17
        · have hp17 : (0 : Int) < ((i : Nat) : Int) := of_decide_eq_true hc17
          refine g_yes (yl (dj := 38) (b := true) rfl rfl (congrArg Value.bool hc17)) ?_
          refine st (v := .int .u8 ((bs.getD i 0 : Nat) : Int)) (x_move (.tmp rfl rfl)) ?_
          refine g_yes (yl (dj := 38) (b := true) rfl rfl (congrArg Value.bool hc17)) ?_
          refine st (v := .bool (decide ((((bs.getD i 0 : Nat) : Int) : Int) = 0))) (x_eql (k := .u8) (a := ((bs.getD i 0 : Nat) : Int)) (b := 0) (.tmp rfl rfl) .const) ?_
          refine g_yes (yl (dj := 35) (b := false) rfl rfl (congrArg Value.bool hc13)) ?_
          refine st (v := .bool (decide ((((bs.getD i 0 : Nat) : Int) : Int) = 0))) (x_pick_t (.tmp rfl (congrArg Value.bool hc17)) (.tmp rfl rfl)) ?_
          refine st (v := .bool (decide ((((bs.getD i 0 : Nat) : Int) : Int) = 0))) (x_pick_f (.tmp rfl (congrArg Value.bool hc13)) (.tmp rfl rfl)) ?_
          refine c_nil ?_
          refine n_then ?_
          rcases Bool.eq_false_or_eq_true (decide ((((bs.getD i 0 : Nat) : Int) : Int) = 0)) with hc18 | hc18
          · have hp18 : (((bs.getD i 0 : Nat) : Int) : Int) = 0 := of_decide_eq_true hc18
            refine c_cond_t (t := true) (.tmp rfl (congrArg Value.bool hc18)) rfl ?_
            refine c_exit ?_
            refine x_then ?_
            refine x_block rfl ?_
            refine x_then ?_
            refine x_then ?_
            refine x_here ?_
            refine n_then ?_
            refine c_seq ?_
            refine c_region ?_
            refine st (v := .pointer (some ⟨g, 0, none⟩)) (x_move (.tmp rfl hρ2)) ?_
            refine st (v := .pointer (some ⟨g, 0, none⟩)) (x_nilCheck (.tmp rfl rfl)) ?_
            refine st (v := .pointer (some ⟨g, 0 + 1, none⟩)) (fa58_1 (.tmp rfl rfl)) ?_
            refine st_m0 (sto4 (cs' := [.slice A n c, .bool true]) (i := 0 + 1) hs6 (v := .bool true) (.tmp rfl rfl) .const rfl (Nat.le_of_ble_eq_true rfl) one1 rfl) ?_
            rintro w19 hs21
            refine c_nil ?_
            refine n_then ?_
            refine c_seq ?_
            refine c_region ?_
            refine st (v := .int .u64 0) (x_assign .const) ?_
            refine c_nil ?_
            refine n_then ?_
            refine c_ret ?_
            refine leave_ret (res_one (v := .int .u64 0) rfl (.mk rfl rfl)) ?_
            have hf : uscan 0 0 bs = none := hu.trans (by first | (rw [uscan_get (by omega), if_pos (by omega)]) | (rw [List.drop_eq_nil_of_le (by omega)]; rfl))
            rw [rdU_none hf]
            exact ⟨_, _, _, rfl, hp, hs21⟩
          · have hp18 : ¬ ((((bs.getD i 0 : Nat) : Int) : Int) = 0) := of_decide_eq_false hc18
            refine c_cond_f (t := false) (.tmp rfl (congrArg Value.bool hc18)) rfl ?_
            refine c_skip ?_
            refine n_then ?_
            refine c_seq ?_
            refine c_region ?_
            refine st (v := .int .u64 ((a : Nat) : Int)) (x_move (.tmp rfl hρ3)) ?_
            refine st (v := .int .u8 ((bs.getD i 0 : Nat) : Int)) (x_move (.tmp rfl rfl)) ?_
            have hb22 : ((bs.getD i 0) &&& 127) < 256 := Nat.lt_of_le_of_lt Nat.and_le_left (hp.lt.getD _)
            refine st (v := .int .u8 ((((bs.getD i 0) &&& 127) : Nat) : Int)) (x_and (k := .u8) (m := (bs.getD i 0)) (n := 127) rfl (.tmp rfl rfl) .const (show _ < 2 ^ 8 from (hp.lt.getD _)) (show _ < 2 ^ 8 from (by decide))) ?_
            have hb23 : ((bs.getD i 0) &&& 127) < 18446744073709551616 := Nat.lt_of_lt_of_le hb22 (by decide)
            refine st (v := .int .u64 ((((bs.getD i 0) &&& 127) : Nat) : Int)) (x_conv (k := .u8) (a := ((((bs.getD i 0) &&& 127) : Nat) : Int)) Try.underlying5 Try.underlying37 (.tmp rfl rfl) (wU rfl rfl hb23)) ?_
            refine st (v := .int .i64 ((i : Nat) : Int)) (x_move (.tmp rfl rfl)) ?_
            refine st (v := .int .i64 (((7 * i) : Nat) : Int)) (x_mul (k := .i64) (a := 7) (b := ((i : Nat) : Int)) .const (.tmp rfl rfl) ((w64 (by omega) (by omega)).trans (by omega))) ?_
            have hb24 : (((bs.getD i 0) &&& 127) * 2 ^ (7 * i) % 18446744073709551616) < 18446744073709551616 := Nat.mod_lt _ (by decide)
            refine st (v := .int .u64 (((((bs.getD i 0) &&& 127) * 2 ^ (7 * i) % 18446744073709551616) : Nat) : Int)) (x_shl (k := .u64) (m := ((bs.getD i 0) &&& 127)) (b := (((7 * i) : Nat) : Int)) rfl (.tmp rfl rfl) (.tmp rfl rfl) (by omega)) ?_
            have hb25 : (a ||| (((bs.getD i 0) &&& 127) * 2 ^ (7 * i) % 18446744073709551616)) < 18446744073709551616 := Nat.or_lt_two_pow (n := 64) ha hb24
            refine st (v := .int .u64 (((a ||| (((bs.getD i 0) &&& 127) * 2 ^ (7 * i) % 18446744073709551616)) : Nat) : Int)) (x_or (k := .u64) (m := a) (n := (((bs.getD i 0) &&& 127) * 2 ^ (7 * i) % 18446744073709551616)) rfl (.tmp rfl rfl) (.tmp rfl rfl) (show _ < 2 ^ 64 from ha) (show _ < 2 ^ 64 from hb24)) ?_
            refine st (v := .int .u64 (((a ||| (((bs.getD i 0) &&& 127) * 2 ^ (7 * i) % 18446744073709551616)) : Nat) : Int)) (x_assign (.tmp rfl rfl)) ?_
            refine c_nil ?_
            refine n_then ?_
            refine c_seq ?_
            refine c_region ?_
            refine st (v := .int .u8 ((bs.getD i 0 : Nat) : Int)) (x_move (.tmp rfl rfl)) ?_
            refine st (v := .bool (decide ((((bs.getD i 0 : Nat) : Int) : Int) < 128))) (x_lss (k := .u8) (a := ((bs.getD i 0 : Nat) : Int)) (b := 128) (.tmp rfl rfl) .const) ?_
            refine c_nil ?_
            refine n_then ?_
            rcases Bool.eq_false_or_eq_true (decide ((((bs.getD i 0 : Nat) : Int) : Int) < 128)) with hc26 | hc26
            · have hp26 : (((bs.getD i 0 : Nat) : Int) : Int) < 128 := of_decide_eq_true hc26
              refine c_cond_t (t := true) (.tmp rfl (congrArg Value.bool hc26)) rfl ?_
              refine c_seq ?_
              refine c_region ?_
              refine st (v := .pointer (some ⟨g, 0, none⟩)) (x_move (.tmp rfl hρ2)) ?_
              refine st (v := .pointer (some ⟨g, 0, none⟩)) (x_move (.tmp rfl hρ2)) ?_
              refine st (v := .pointer (some ⟨g, 0, none⟩)) (x_nilCheck (.tmp rfl rfl)) ?_
              refine st (v := .pointer (some ⟨g, 0 + 0, none⟩)) (fa58_0 (.tmp rfl rfl)) ?_
              refine st (v := .slice A n c) (ld22 (.tmp rfl rfl) (hs6.cell 0 rfl (0 + 0) rfl)) ?_
              refine st (v := .int .i64 ((i : Nat) : Int)) (x_move (.tmp rfl rfl)) ?_
              refine st (v := .int .i64 (((i + 1) : Nat) : Int)) (x_add (k := .i64) (a := ((i : Nat) : Int)) (b := 1) (.tmp rfl rfl) .const ((w64 (by omega) (by omega)).trans (by omega))) ?_
              have := hp.le
              refine st (v := .slice (cutA A c (i + 1) 1) (n - (i + 1)) (c - (i + 1))) (bs_l Try.underlying22 inf5 (a := (((i + 1) : Nat) : Int)) (.tmp rfl rfl) (.tmp rfl rfl) (by omega) (by omega) (by omega)) ?_
              refine st (v := .pointer (some ⟨g, 0, none⟩)) (x_nilCheck (.tmp rfl rfl)) ?_
              refine st (v := .pointer (some ⟨g, 0 + 0, none⟩)) (fa58_0 (.tmp rfl rfl)) ?_
              refine st_m0 (sto22 (cs' := [.slice (cutA A c (i + 1) 1) (n - (i + 1)) (c - (i + 1)), .bool false]) (i := 0 + 0) hs6 (v := .slice (cutA A c (i + 1) 1) (n - (i + 1)) (c - (i + 1))) (.tmp rfl rfl) (.tmp rfl rfl) rfl (Nat.le_of_ble_eq_true rfl) one1 rfl) ?_
              rintro w27 hs29
              refine c_nil ?_
              refine n_then ?_
              refine c_seq ?_
              refine c_region ?_
              refine st (v := .int .u64 (((a ||| (((bs.getD i 0) &&& 127) * 2 ^ (7 * i) % 18446744073709551616)) : Nat) : Int)) (x_move (.tmp rfl rfl)) ?_
              refine st (v := .int .u64 (((a ||| (((bs.getD i 0) &&& 127) * 2 ^ (7 * i) % 18446744073709551616)) : Nat) : Int)) (x_assign (.tmp rfl rfl)) ?_
              refine c_nil ?_
              refine n_then ?_
              refine c_ret ?_
              refine r_block ?_
              refine r_then ?_
              refine r_then ?_
              refine r_block ?_
              refine r_then ?_
              refine leave_ret (res_one (v := .int .u64 (((a ||| (((bs.getD i 0) &&& 127) * 2 ^ (7 * i) % 18446744073709551616)) : Nat) : Int)) rfl (.mk rfl rfl)) ?_
              have hf : uscan 0 0 bs = some ((a ||| (((bs.getD i 0) &&& 127) * 2 ^ (7 * i) % 18446744073709551616)), bs.drop (i + 1)) := hu.trans (by rw [uscan_get (by omega), if_neg (by omega), if_pos (by omega)])
              rw [rdU_some hf]
              exact ⟨_, _, _, rfl, (hp.drop (k := (i + 1)) (by omega)), hs29⟩
            · have hp26 : ¬ ((((bs.getD i 0 : Nat) : Int) : Int) < 128) := of_decide_eq_false hc26
              refine c_cond_f (t := false) (.tmp rfl (congrArg Value.bool hc26)) rfl ?_
              refine c_skip ?_
              refine n_block ?_
              refine n_then ?_
              refine c_region ?_
              refine st (v := .int .i64 (((i : Nat) : Int) + 1)) (x_add (k := .i64) (a := ((i : Nat) : Int)) (b := 1) (.tmp rfl hρ5) .const (w64 (by omega) (by omega))) ?_
              refine st (v := .int .i64 (((i : Nat) : Int) + 1)) (x_move (.tmp rfl rfl)) ?_
              refine c_nil ?_
              refine n_then ⟨_, _, rfl, ?_, (i + 1), (a ||| (((bs.getD i 0) &&& 127) * 2 ^ (7 * i) % 18446744073709551616)), hρ2, rfl, hρ4, rfl, (by omega), (by omega), hb25, (hu.trans (by rw [uscan_get (by omega), if_neg (by omega), if_neg (by omega)])), hs6, rfl⟩
              omega
        · have hp17 : ¬ ((0 : Int) < ((i : Nat) : Int)) := of_decide_eq_false hc17
          refine g_no (yl (dj := 38) (b := false) rfl rfl (congrArg Value.bool hc17)) rfl ?_
          refine g_no (yl (dj := 38) (b := false) rfl rfl (congrArg Value.bool hc17)) rfl ?_
          refine g_yes (yl (dj := 35) (b := false) rfl rfl (congrArg Value.bool hc13)) ?_
          refine st (v := .bool false) (x_pick_f (.tmp rfl (congrArg Value.bool hc17)) .const) ?_
          refine st (v := .bool false) (x_pick_f (.tmp rfl (congrArg Value.bool hc13)) (.tmp rfl rfl)) ?_
          refine c_nil ?_
          refine n_then ?_
          refine c_cond_f (t := false) (.tmp rfl rfl) rfl ?_
          refine c_skip ?_
          refine n_then ?_
          refine c_seq ?_
          refine c_region ?_
          refine st (v := .int .u64 ((a : Nat) : Int)) (x_move (.tmp rfl hρ3)) ?_
          refine st (v := .int .u8 ((bs.getD i 0 : Nat) : Int)) (x_move (.tmp rfl rfl)) ?_
          have hb30 : ((bs.getD i 0) &&& 127) < 256 := Nat.lt_of_le_of_lt Nat.and_le_left (hp.lt.getD _)
          refine st (v := .int .u8 ((((bs.getD i 0) &&& 127) : Nat) : Int)) (x_and (k := .u8) (m := (bs.getD i 0)) (n := 127) rfl (.tmp rfl rfl) .const (show _ < 2 ^ 8 from (hp.lt.getD _)) (show _ < 2 ^ 8 from (by decide))) ?_
          have hb31 : ((bs.getD i 0) &&& 127) < 18446744073709551616 := Nat.lt_of_lt_of_le hb30 (by decide)
          refine st (v := .int .u64 ((((bs.getD i 0) &&& 127) : Nat) : Int)) (x_conv (k := .u8) (a := ((((bs.getD i 0) &&& 127) : Nat) : Int)) Try.underlying5 Try.underlying37 (.tmp rfl rfl) (wU rfl rfl hb31)) ?_
          refine st (v := .int .i64 ((i : Nat) : Int)) (x_move (.tmp rfl rfl)) ?_
          refine st (v := .int .i64 (((7 * i) : Nat) : Int)) (x_mul (k := .i64) (a := 7) (b := ((i : Nat) : Int)) .const (.tmp rfl rfl) ((w64 (by omega) (by omega)).trans (by omega))) ?_
          have hb32 : (((bs.getD i 0) &&& 127) * 2 ^ (7 * i) % 18446744073709551616) < 18446744073709551616 := Nat.mod_lt _ (by decide)
          refine st (v := .int .u64 (((((bs.getD i 0) &&& 127) * 2 ^ (7 * i) % 18446744073709551616) : Nat) : Int)) (x_shl (k := .u64) (m := ((bs.getD i 0) &&& 127)) (b := (((7 * i) : Nat) : Int)) rfl (.tmp rfl rfl) (.tmp rfl rfl) (by omega)) ?_
          have hb33 : (a ||| (((bs.getD i 0) &&& 127) * 2 ^ (7 * i) % 18446744073709551616)) < 18446744073709551616 := Nat.or_lt_two_pow (n := 64) ha hb32
          refine st (v := .int .u64 (((a ||| (((bs.getD i 0) &&& 127) * 2 ^ (7 * i) % 18446744073709551616)) : Nat) : Int)) (x_or (k := .u64) (m := a) (n := (((bs.getD i 0) &&& 127) * 2 ^ (7 * i) % 18446744073709551616)) rfl (.tmp rfl rfl) (.tmp rfl rfl) (show _ < 2 ^ 64 from ha) (show _ < 2 ^ 64 from hb32)) ?_
          refine st (v := .int .u64 (((a ||| (((bs.getD i 0) &&& 127) * 2 ^ (7 * i) % 18446744073709551616)) : Nat) : Int)) (x_assign (.tmp rfl rfl)) ?_
          refine c_nil ?_
          refine n_then ?_
          refine c_seq ?_
          refine c_region ?_
          refine st (v := .int .u8 ((bs.getD i 0 : Nat) : Int)) (x_move (.tmp rfl rfl)) ?_
          refine st (v := .bool (decide ((((bs.getD i 0 : Nat) : Int) : Int) < 128))) (x_lss (k := .u8) (a := ((bs.getD i 0 : Nat) : Int)) (b := 128) (.tmp rfl rfl) .const) ?_
          refine c_nil ?_
          refine n_then ?_
          rcases Bool.eq_false_or_eq_true (decide ((((bs.getD i 0 : Nat) : Int) : Int) < 128)) with hc34 | hc34
          · have hp34 : (((bs.getD i 0 : Nat) : Int) : Int) < 128 := of_decide_eq_true hc34
            refine c_cond_t (t := true) (.tmp rfl (congrArg Value.bool hc34)) rfl ?_
            refine c_seq ?_
            refine c_region ?_
            refine st (v := .pointer (some ⟨g, 0, none⟩)) (x_move (.tmp rfl hρ2)) ?_
            refine st (v := .pointer (some ⟨g, 0, none⟩)) (x_move (.tmp rfl hρ2)) ?_
            refine st (v := .pointer (some ⟨g, 0, none⟩)) (x_nilCheck (.tmp rfl rfl)) ?_
            refine st (v := .pointer (some ⟨g, 0 + 0, none⟩)) (fa58_0 (.tmp rfl rfl)) ?_
            refine st (v := .slice A n c) (ld22 (.tmp rfl rfl) (hs6.cell 0 rfl (0 + 0) rfl)) ?_
            refine st (v := .int .i64 ((i : Nat) : Int)) (x_move (.tmp rfl rfl)) ?_
            refine st (v := .int .i64 (((i + 1) : Nat) : Int)) (x_add (k := .i64) (a := ((i : Nat) : Int)) (b := 1) (.tmp rfl rfl) .const ((w64 (by omega) (by omega)).trans (by omega))) ?_
            have := hp.le
            refine st (v := .slice (cutA A c (i + 1) 1) (n - (i + 1)) (c - (i + 1))) (bs_l Try.underlying22 inf5 (a := (((i + 1) : Nat) : Int)) (.tmp rfl rfl) (.tmp rfl rfl) (by omega) (by omega) (by omega)) ?_
            refine st (v := .pointer (some ⟨g, 0, none⟩)) (x_nilCheck (.tmp rfl rfl)) ?_
            refine st (v := .pointer (some ⟨g, 0 + 0, none⟩)) (fa58_0 (.tmp rfl rfl)) ?_
            refine st_m0 (sto22 (cs' := [.slice (cutA A c (i + 1) 1) (n - (i + 1)) (c - (i + 1)), .bool false]) (i := 0 + 0) hs6 (v := .slice (cutA A c (i + 1) 1) (n - (i + 1)) (c - (i + 1))) (.tmp rfl rfl) (.tmp rfl rfl) rfl (Nat.le_of_ble_eq_true rfl) one1 rfl) ?_
            rintro w35 hs37
            refine c_nil ?_
            refine n_then ?_
            refine c_seq ?_
            refine c_region ?_
            refine st (v := .int .u64 (((a ||| (((bs.getD i 0) &&& 127) * 2 ^ (7 * i) % 18446744073709551616)) : Nat) : Int)) (x_move (.tmp rfl rfl)) ?_
            refine st (v := .int .u64 (((a ||| (((bs.getD i 0) &&& 127) * 2 ^ (7 * i) % 18446744073709551616)) : Nat) : Int)) (x_assign (.tmp rfl rfl)) ?_
            refine c_nil ?_
            refine n_then ?_
            refine c_ret ?_
            refine r_block ?_
            refine r_then ?_
            refine r_then ?_
            refine r_block ?_
            refine r_then ?_
            refine leave_ret (res_one (v := .int .u64 (((a ||| (((bs.getD i 0) &&& 127) * 2 ^ (7 * i) % 18446744073709551616)) : Nat) : Int)) rfl (.mk rfl rfl)) ?_
            have hf : uscan 0 0 bs = some ((a ||| (((bs.getD i 0) &&& 127) * 2 ^ (7 * i) % 18446744073709551616)), bs.drop (i + 1)) := hu.trans (by rw [uscan_get (by omega), if_neg (by omega), if_pos (by omega)])
            rw [rdU_some hf]
            exact ⟨_, _, _, rfl, (hp.drop (k := (i + 1)) (by omega)), hs37⟩
          · have hp34 : ¬ ((((bs.getD i 0 : Nat) : Int) : Int) < 128) := of_decide_eq_false hc34
            refine c_cond_f (t := false) (.tmp rfl (congrArg Value.bool hc34)) rfl ?_
            refine c_skip ?_
            refine n_block ?_
            refine n_then ?_
            refine c_region ?_
            refine st (v := .int .i64 (((i : Nat) : Int) + 1)) (x_add (k := .i64) (a := ((i : Nat) : Int)) (b := 1) (.tmp rfl hρ5) .const (w64 (by omega) (by omega))) ?_
            refine st (v := .int .i64 (((i : Nat) : Int) + 1)) (x_move (.tmp rfl rfl)) ?_
            refine c_nil ?_
            refine n_then ⟨_, _, rfl, ?_, (i + 1), (a ||| (((bs.getD i 0) &&& 127) * 2 ^ (7 * i) % 18446744073709551616)), hρ2, rfl, hρ4, rfl, (by omega), (by omega), hb33, (hu.trans (by rw [uscan_get (by omega), if_neg (by omega), if_neg (by omega)])), hs6, rfl⟩
            omega
    · have hp12 : ¬ ((((i : Nat) : Int) : Int) = 9) := of_decide_eq_false hc12
      refine g_no (yl (dj := 31) (b := false) rfl rfl (congrArg Value.bool hc12)) rfl ?_
      refine g_no (yl (dj := 31) (b := false) rfl rfl (congrArg Value.bool hc12)) rfl ?_
      refine st (v := .bool false) (x_pick_f (.tmp rfl (congrArg Value.bool hc12)) .const) ?_
      refine st (v := .bool false) (x_move (.tmp rfl rfl)) ?_
      refine g_yes (yl (dj := 35) (b := false) rfl rfl rfl) ?_
      refine st (v := .int .i64 ((i : Nat) : Int)) (x_move (.tmp rfl rfl)) ?_
      refine g_yes (yl (dj := 35) (b := false) rfl rfl rfl) ?_
      refine st (v := .bool (decide ((0 : Int) < ((i : Nat) : Int)))) (x_gtr (k := .i64) (a := ((i : Nat) : Int)) (b := 0) (.tmp rfl rfl) .const) ?_
      refine g_yes (yl (dj := 35) (b := false) rfl rfl rfl) ?_
      refine st (v := .bool (decide ((0 : Int) < ((i : Nat) : Int)))) (x_move (.tmp rfl rfl)) ?_
      rcases Bool.eq_false_or_eq_true (decide ((0 : Int) < ((i : Nat) : Int))) with hc38 | hc38
      · have hp38 : (0 : Int) < ((i : Nat) : Int) := of_decide_eq_true hc38
        refine g_yes (yl (dj := 38) (b := true) rfl rfl (congrArg Value.bool hc38)) ?_
        refine st (v := .int .u8 ((bs.getD i 0 : Nat) : Int)) (x_move (.tmp rfl rfl)) ?_
        refine g_yes (yl (dj := 38) (b := true) rfl rfl (congrArg Value.bool hc38)) ?_
        refine st (v := .bool (decide ((((bs.getD i 0 : Nat) : Int) : Int) = 0))) (x_eql (k := .u8) (a := ((bs.getD i 0 : Nat) : Int)) (b := 0) (.tmp rfl rfl) .const) ?_
        refine g_yes (yl (dj := 35) (b := false) rfl rfl rfl) ?_
        refine st (v := .bool (decide ((((bs.getD i 0 : Nat) : Int) : Int) = 0))) (x_pick_t (.tmp rfl (congrArg Value.bool hc38)) (.tmp rfl rfl)) ?_
        refine st (v := .bool (decide ((((bs.getD i 0 : Nat) : Int) : Int) = 0))) (x_pick_f (.tmp rfl rfl) (.tmp rfl rfl)) ?_
        refine c_nil ?_
        refine n_then ?_
        rcases Bool.eq_false_or_eq_true (decide ((((bs.getD i 0 : Nat) : Int) : Int) = 0)) with hc39 | hc39
        · have hp39 : (((bs.getD i 0 : Nat) : Int) : Int) = 0 := of_decide_eq_true hc39
          refine c_cond_t (t := true) (.tmp rfl (congrArg Value.bool hc39)) rfl ?_
          refine c_exit ?_
          refine x_then ?_
          refine x_block rfl ?_
          refine x_then ?_
          refine x_then ?_
          refine x_here ?_
          refine n_then ?_
          refine c_seq ?_
          refine c_region ?_
          refine st (v := .pointer (some ⟨g, 0, none⟩)) (x_move (.tmp rfl hρ2)) ?_
          refine st (v := .pointer (some ⟨g, 0, none⟩)) (x_nilCheck (.tmp rfl rfl)) ?_
          refine st (v := .pointer (some ⟨g, 0 + 1, none⟩)) (fa58_1 (.tmp rfl rfl)) ?_
          refine st_m0 (sto4 (cs' := [.slice A n c, .bool true]) (i := 0 + 1) hs6 (v := .bool true) (.tmp rfl rfl) .const rfl (Nat.le_of_ble_eq_true rfl) one1 rfl) ?_
          rintro w40 hs42
          refine c_nil ?_
          refine n_then ?_
          refine c_seq ?_
          refine c_region ?_
          refine st (v := .int .u64 0) (x_assign .const) ?_
          refine c_nil ?_
          refine n_then ?_
          refine c_ret ?_
          refine leave_ret (res_one (v := .int .u64 0) rfl (.mk rfl rfl)) ?_
          have hf : uscan 0 0 bs = none := hu.trans (by first | (rw [uscan_get (by omega), if_pos (by omega)]) | (rw [List.drop_eq_nil_of_le (by omega)]; rfl))
          rw [rdU_none hf]
          exact ⟨_, _, _, rfl, hp, hs42⟩
        · have hp39 : ¬ ((((bs.getD i 0 : Nat) : Int) : Int) = 0) := of_decide_eq_false hc39
          refine c_cond_f (t := false) (.tmp rfl (congrArg Value.bool hc39)) rfl ?_
          refine c_skip ?_
          refine n_then ?_
          refine c_seq ?_
          refine c_region ?_
          refine st (v := .int .u64 ((a : Nat) : Int)) (x_move (.tmp rfl hρ3)) ?_
          refine st (v := .int .u8 ((bs.getD i 0 : Nat) : Int)) (x_move (.tmp rfl rfl)) ?_
          have hb43 : ((bs.getD i 0) &&& 127) < 256 := Nat.lt_of_le_of_lt Nat.and_le_left (hp.lt.getD _)
          refine st (v := .int .u8 ((((bs.getD i 0) &&& 127) : Nat) : Int)) (x_and (k := .u8) (m := (bs.getD i 0)) (n := 127) rfl (.tmp rfl rfl) .const (show _ < 2 ^ 8 from (hp.lt.getD _)) (show _ < 2 ^ 8 from (by decide))) ?_
          have hb44 : ((bs.getD i 0) &&& 127) < 18446744073709551616 := Nat.lt_of_lt_of_le hb43 (by decide)
          refine st (v := .int .u64 ((((bs.getD i 0) &&& 127) : Nat) : Int)) (x_conv (k := .u8) (a := ((((bs.getD i 0) &&& 127) : Nat) : Int)) Try.underlying5 Try.underlying37 (.tmp rfl rfl) (wU rfl rfl hb44)) ?_
          refine st (v := .int .i64 ((i : Nat) : Int)) (x_move (.tmp rfl rfl)) ?_
          refine st (v := .int .i64 (((7 * i) : Nat) : Int)) (x_mul (k := .i64) (a := 7) (b := ((i : Nat) : Int)) .const (.tmp rfl rfl) ((w64 (by omega) (by omega)).trans (by omega))) ?_
          have hb45 : (((bs.getD i 0) &&& 127) * 2 ^ (7 * i) % 18446744073709551616) < 18446744073709551616 := Nat.mod_lt _ (by decide)
          refine st (v := .int .u64 (((((bs.getD i 0) &&& 127) * 2 ^ (7 * i) % 18446744073709551616) : Nat) : Int)) (x_shl (k := .u64) (m := ((bs.getD i 0) &&& 127)) (b := (((7 * i) : Nat) : Int)) rfl (.tmp rfl rfl) (.tmp rfl rfl) (by omega)) ?_
          have hb46 : (a ||| (((bs.getD i 0) &&& 127) * 2 ^ (7 * i) % 18446744073709551616)) < 18446744073709551616 := Nat.or_lt_two_pow (n := 64) ha hb45
          refine st (v := .int .u64 (((a ||| (((bs.getD i 0) &&& 127) * 2 ^ (7 * i) % 18446744073709551616)) : Nat) : Int)) (x_or (k := .u64) (m := a) (n := (((bs.getD i 0) &&& 127) * 2 ^ (7 * i) % 18446744073709551616)) rfl (.tmp rfl rfl) (.tmp rfl rfl) (show _ < 2 ^ 64 from ha) (show _ < 2 ^ 64 from hb45)) ?_
          refine st (v := .int .u64 (((a ||| (((bs.getD i 0) &&& 127) * 2 ^ (7 * i) % 18446744073709551616)) : Nat) : Int)) (x_assign (.tmp rfl rfl)) ?_
          refine c_nil ?_
          refine n_then ?_
          refine c_seq ?_
          refine c_region ?_
          refine st (v := .int .u8 ((bs.getD i 0 : Nat) : Int)) (x_move (.tmp rfl rfl)) ?_
          refine st (v := .bool (decide ((((bs.getD i 0 : Nat) : Int) : Int) < 128))) (x_lss (k := .u8) (a := ((bs.getD i 0 : Nat) : Int)) (b := 128) (.tmp rfl rfl) .const) ?_
          refine c_nil ?_
          refine n_then ?_
          rcases Bool.eq_false_or_eq_true (decide ((((bs.getD i 0 : Nat) : Int) : Int) < 128)) with hc47 | hc47
          · have hp47 : (((bs.getD i 0 : Nat) : Int) : Int) < 128 := of_decide_eq_true hc47
            refine c_cond_t (t := true) (.tmp rfl (congrArg Value.bool hc47)) rfl ?_
            refine c_seq ?_
            refine c_region ?_
            refine st (v := .pointer (some ⟨g, 0, none⟩)) (x_move (.tmp rfl hρ2)) ?_
            refine st (v := .pointer (some ⟨g, 0, none⟩)) (x_move (.tmp rfl hρ2)) ?_
            refine st (v := .pointer (some ⟨g, 0, none⟩)) (x_nilCheck (.tmp rfl rfl)) ?_
            refine st (v := .pointer (some ⟨g, 0 + 0, none⟩)) (fa58_0 (.tmp rfl rfl)) ?_
            refine st (v := .slice A n c) (ld22 (.tmp rfl rfl) (hs6.cell 0 rfl (0 + 0) rfl)) ?_
            refine st (v := .int .i64 ((i : Nat) : Int)) (x_move (.tmp rfl rfl)) ?_
            refine st (v := .int .i64 (((i + 1) : Nat) : Int)) (x_add (k := .i64) (a := ((i : Nat) : Int)) (b := 1) (.tmp rfl rfl) .const ((w64 (by omega) (by omega)).trans (by omega))) ?_
            have := hp.le
            refine st (v := .slice (cutA A c (i + 1) 1) (n - (i + 1)) (c - (i + 1))) (bs_l Try.underlying22 inf5 (a := (((i + 1) : Nat) : Int)) (.tmp rfl rfl) (.tmp rfl rfl) (by omega) (by omega) (by omega)) ?_
            refine st (v := .pointer (some ⟨g, 0, none⟩)) (x_nilCheck (.tmp rfl rfl)) ?_
            refine st (v := .pointer (some ⟨g, 0 + 0, none⟩)) (fa58_0 (.tmp rfl rfl)) ?_
            refine st_m0 (sto22 (cs' := [.slice (cutA A c (i + 1) 1) (n - (i + 1)) (c - (i + 1)), .bool false]) (i := 0 + 0) hs6 (v := .slice (cutA A c (i + 1) 1) (n - (i + 1)) (c - (i + 1))) (.tmp rfl rfl) (.tmp rfl rfl) rfl (Nat.le_of_ble_eq_true rfl) one1 rfl) ?_
            rintro w48 hs50
            refine c_nil ?_
            refine n_then ?_
            refine c_seq ?_
            refine c_region ?_
            refine st (v := .int .u64 (((a ||| (((bs.getD i 0) &&& 127) * 2 ^ (7 * i) % 18446744073709551616)) : Nat) : Int)) (x_move (.tmp rfl rfl)) ?_
            refine st (v := .int .u64 (((a ||| (((bs.getD i 0) &&& 127) * 2 ^ (7 * i) % 18446744073709551616)) : Nat) : Int)) (x_assign (.tmp rfl rfl)) ?_
            refine c_nil ?_
            refine n_then ?_
            refine c_ret ?_
            refine r_block ?_
            refine r_then ?_
            refine r_then ?_
            refine r_block ?_
            refine r_then ?_
            refine leave_ret (res_one (v := .int .u64 (((a ||| (((bs.getD i 0) &&& 127) * 2 ^ (7 * i) % 18446744073709551616)) : Nat) : Int)) rfl (.mk rfl rfl)) ?_
            have hf : uscan 0 0 bs = some ((a ||| (((bs.getD i 0) &&& 127) * 2 ^ (7 * i) % 18446744073709551616)), bs.drop (i + 1)) := hu.trans (by rw [uscan_get (by omega), if_neg (by omega), if_pos (by omega)])
            rw [rdU_some hf]
            exact ⟨_, _, _, rfl, (hp.drop (k := (i + 1)) (by omega)), hs50⟩
          · have hp47 : ¬ ((((bs.getD i 0 : Nat) : Int) : Int) < 128) := of_decide_eq_false hc47
            refine c_cond_f (t := false) (.tmp rfl (congrArg Value.bool hc47)) rfl ?_
            refine c_skip ?_
            refine n_block ?_
            refine n_then ?_
            refine c_region ?_
            refine st (v := .int .i64 (((i : Nat) : Int) + 1)) (x_add (k := .i64) (a := ((i : Nat) : Int)) (b := 1) (.tmp rfl hρ5) .const (w64 (by omega) (by omega))) ?_
            refine st (v := .int .i64 (((i : Nat) : Int) + 1)) (x_move (.tmp rfl rfl)) ?_
            refine c_nil ?_
            refine n_then ⟨_, _, rfl, ?_, (i + 1), (a ||| (((bs.getD i 0) &&& 127) * 2 ^ (7 * i) % 18446744073709551616)), hρ2, rfl, hρ4, rfl, (by omega), (by omega), hb46, (hu.trans (by rw [uscan_get (by omega), if_neg (by omega), if_neg (by omega)])), hs6, rfl⟩
            omega
      · have hp38 : ¬ ((0 : Int) < ((i : Nat) : Int)) := of_decide_eq_false hc38
        refine g_no (yl (dj := 38) (b := false) rfl rfl (congrArg Value.bool hc38)) rfl ?_
        refine g_no (yl (dj := 38) (b := false) rfl rfl (congrArg Value.bool hc38)) rfl ?_
        refine g_yes (yl (dj := 35) (b := false) rfl rfl rfl) ?_
        refine st (v := .bool false) (x_pick_f (.tmp rfl (congrArg Value.bool hc38)) .const) ?_
        refine st (v := .bool false) (x_pick_f (.tmp rfl rfl) (.tmp rfl rfl)) ?_
        refine c_nil ?_
        refine n_then ?_
        refine c_cond_f (t := false) (.tmp rfl rfl) rfl ?_
        refine c_skip ?_
        refine n_then ?_
        refine c_seq ?_
        refine c_region ?_
        refine st (v := .int .u64 ((a : Nat) : Int)) (x_move (.tmp rfl hρ3)) ?_
        refine st (v := .int .u8 ((bs.getD i 0 : Nat) : Int)) (x_move (.tmp rfl rfl)) ?_
        have hb51 : ((bs.getD i 0) &&& 127) < 256 := Nat.lt_of_le_of_lt Nat.and_le_left (hp.lt.getD _)
        refine st (v := .int .u8 ((((bs.getD i 0) &&& 127) : Nat) : Int)) (x_and (k := .u8) (m := (bs.getD i 0)) (n := 127) rfl (.tmp rfl rfl) .const (show _ < 2 ^ 8 from (hp.lt.getD _)) (show _ < 2 ^ 8 from (by decide))) ?_
        have hb52 : ((bs.getD i 0) &&& 127) < 18446744073709551616 := Nat.lt_of_lt_of_le hb51 (by decide)
        refine st (v := .int .u64 ((((bs.getD i 0) &&& 127) : Nat) : Int)) (x_conv (k := .u8) (a := ((((bs.getD i 0) &&& 127) : Nat) : Int)) Try.underlying5 Try.underlying37 (.tmp rfl rfl) (wU rfl rfl hb52)) ?_
        refine st (v := .int .i64 ((i : Nat) : Int)) (x_move (.tmp rfl rfl)) ?_
        refine st (v := .int .i64 (((7 * i) : Nat) : Int)) (x_mul (k := .i64) (a := 7) (b := ((i : Nat) : Int)) .const (.tmp rfl rfl) ((w64 (by omega) (by omega)).trans (by omega))) ?_
        have hb53 : (((bs.getD i 0) &&& 127) * 2 ^ (7 * i) % 18446744073709551616) < 18446744073709551616 := Nat.mod_lt _ (by decide)
        refine st (v := .int .u64 (((((bs.getD i 0) &&& 127) * 2 ^ (7 * i) % 18446744073709551616) : Nat) : Int)) (x_shl (k := .u64) (m := ((bs.getD i 0) &&& 127)) (b := (((7 * i) : Nat) : Int)) rfl (.tmp rfl rfl) (.tmp rfl rfl) (by omega)) ?_
        have hb54 : (a ||| (((bs.getD i 0) &&& 127) * 2 ^ (7 * i) % 18446744073709551616)) < 18446744073709551616 := Nat.or_lt_two_pow (n := 64) ha hb53
        refine st (v := .int .u64 (((a ||| (((bs.getD i 0) &&& 127) * 2 ^ (7 * i) % 18446744073709551616)) : Nat) : Int)) (x_or (k := .u64) (m := a) (n := (((bs.getD i 0) &&& 127) * 2 ^ (7 * i) % 18446744073709551616)) rfl (.tmp rfl rfl) (.tmp rfl rfl) (show _ < 2 ^ 64 from ha) (show _ < 2 ^ 64 from hb53)) ?_
        refine st (v := .int .u64 (((a ||| (((bs.getD i 0) &&& 127) * 2 ^ (7 * i) % 18446744073709551616)) : Nat) : Int)) (x_assign (.tmp rfl rfl)) ?_
        refine c_nil ?_
        refine n_then ?_
        refine c_seq ?_
        refine c_region ?_
        refine st (v := .int .u8 ((bs.getD i 0 : Nat) : Int)) (x_move (.tmp rfl rfl)) ?_
        refine st (v := .bool (decide ((((bs.getD i 0 : Nat) : Int) : Int) < 128))) (x_lss (k := .u8) (a := ((bs.getD i 0 : Nat) : Int)) (b := 128) (.tmp rfl rfl) .const) ?_
        refine c_nil ?_
        refine n_then ?_
        rcases Bool.eq_false_or_eq_true (decide ((((bs.getD i 0 : Nat) : Int) : Int) < 128)) with hc55 | hc55
        · have hp55 : (((bs.getD i 0 : Nat) : Int) : Int) < 128 := of_decide_eq_true hc55
          refine c_cond_t (t := true) (.tmp rfl (congrArg Value.bool hc55)) rfl ?_
          refine c_seq ?_
          refine c_region ?_
          refine st (v := .pointer (some ⟨g, 0, none⟩)) (x_move (.tmp rfl hρ2)) ?_
          refine st (v := .pointer (some ⟨g, 0, none⟩)) (x_move (.tmp rfl hρ2)) ?_
          refine st (v := .pointer (some ⟨g, 0, none⟩)) (x_nilCheck (.tmp rfl rfl)) ?_
          refine st (v := .pointer (some ⟨g, 0 + 0, none⟩)) (fa58_0 (.tmp rfl rfl)) ?_
          refine st (v := .slice A n c) (ld22 (.tmp rfl rfl) (hs6.cell 0 rfl (0 + 0) rfl)) ?_
          refine st (v := .int .i64 ((i : Nat) : Int)) (x_move (.tmp rfl rfl)) ?_
          refine st (v := .int .i64 (((i + 1) : Nat) : Int)) (x_add (k := .i64) (a := ((i : Nat) : Int)) (b := 1) (.tmp rfl rfl) .const ((w64 (by omega) (by omega)).trans (by omega))) ?_
          have := hp.le
          refine st (v := .slice (cutA A c (i + 1) 1) (n - (i + 1)) (c - (i + 1))) (bs_l Try.underlying22 inf5 (a := (((i + 1) : Nat) : Int)) (.tmp rfl rfl) (.tmp rfl rfl) (by omega) (by omega) (by omega)) ?_
          refine st (v := .pointer (some ⟨g, 0, none⟩)) (x_nilCheck (.tmp rfl rfl)) ?_
          refine st (v := .pointer (some ⟨g, 0 + 0, none⟩)) (fa58_0 (.tmp rfl rfl)) ?_
          refine st_m0 (sto22 (cs' := [.slice (cutA A c (i + 1) 1) (n - (i + 1)) (c - (i + 1)), .bool false]) (i := 0 + 0) hs6 (v := .slice (cutA A c (i + 1) 1) (n - (i + 1)) (c - (i + 1))) (.tmp rfl rfl) (.tmp rfl rfl) rfl (Nat.le_of_ble_eq_true rfl) one1 rfl) ?_
          rintro w56 hs58
          refine c_nil ?_
          refine n_then ?_
          refine c_seq ?_
          refine c_region ?_
          refine st (v := .int .u64 (((a ||| (((bs.getD i 0) &&& 127) * 2 ^ (7 * i) % 18446744073709551616)) : Nat) : Int)) (x_move (.tmp rfl rfl)) ?_
          refine st (v := .int .u64 (((a ||| (((bs.getD i 0) &&& 127) * 2 ^ (7 * i) % 18446744073709551616)) : Nat) : Int)) (x_assign (.tmp rfl rfl)) ?_
          refine c_nil ?_
          refine n_then ?_
          refine c_ret ?_
          refine r_block ?_
          refine r_then ?_
          refine r_then ?_
          refine r_block ?_
          refine r_then ?_
          refine leave_ret (res_one (v := .int .u64 (((a ||| (((bs.getD i 0) &&& 127) * 2 ^ (7 * i) % 18446744073709551616)) : Nat) : Int)) rfl (.mk rfl rfl)) ?_
          have hf : uscan 0 0 bs = some ((a ||| (((bs.getD i 0) &&& 127) * 2 ^ (7 * i) % 18446744073709551616)), bs.drop (i + 1)) := hu.trans (by rw [uscan_get (by omega), if_neg (by omega), if_pos (by omega)])
          rw [rdU_some hf]
          exact ⟨_, _, _, rfl, (hp.drop (k := (i + 1)) (by omega)), hs58⟩
        · have hp55 : ¬ ((((bs.getD i 0 : Nat) : Int) : Int) < 128) := of_decide_eq_false hc55
          refine c_cond_f (t := false) (.tmp rfl (congrArg Value.bool hc55)) rfl ?_
          refine c_skip ?_
          refine n_block ?_
          refine n_then ?_
          refine c_region ?_
          refine st (v := .int .i64 (((i : Nat) : Int) + 1)) (x_add (k := .i64) (a := ((i : Nat) : Int)) (b := 1) (.tmp rfl hρ5) .const (w64 (by omega) (by omega))) ?_
          refine st (v := .int .i64 (((i : Nat) : Int) + 1)) (x_move (.tmp rfl rfl)) ?_
          refine c_nil ?_
          refine n_then ⟨_, _, rfl, ?_, (i + 1), (a ||| (((bs.getD i 0) &&& 127) * 2 ^ (7 * i) % 18446744073709551616)), hρ2, rfl, hρ4, rfl, (by omega), (by omega), hb54, (hu.trans (by rw [uscan_get (by omega), if_neg (by omega), if_neg (by omega)])), hs6, rfl⟩
          omega
  · have hp7 : ¬ ((((i : Nat) : Int) : Int) < ((n : Nat) : Int)) := of_decide_eq_false hc7
    refine c_cond_f (t := false) (.tmp rfl (congrArg Value.bool hc7)) rfl ?_
    refine c_exit ?_
    refine x_then ?_
    refine x_then ?_
    refine x_here ?_
    refine n_then ?_
    refine c_seq ?_
    refine c_region ?_
    refine st (v := .pointer (some ⟨g, 0, none⟩)) (x_move (.tmp rfl hρ2)) ?_
    refine st (v := .pointer (some ⟨g, 0, none⟩)) (x_nilCheck (.tmp rfl rfl)) ?_
    refine st (v := .pointer (some ⟨g, 0 + 1, none⟩)) (fa58_1 (.tmp rfl rfl)) ?_
    refine st_m0 (sto4 (cs' := [.slice A n c, .bool true]) (i := 0 + 1) hs6 (v := .bool true) (.tmp rfl rfl) .const rfl (Nat.le_of_ble_eq_true rfl) one1 rfl) ?_
    rintro w59 hs61
    refine c_nil ?_
    refine n_then ?_
    refine c_seq ?_
    refine c_region ?_
    refine st (v := .int .u64 0) (x_assign .const) ?_
    refine c_nil ?_
    refine n_then ?_
    refine c_ret ?_
    refine leave_ret (res_one (v := .int .u64 0) rfl (.mk rfl rfl)) ?_
    have hf : uscan 0 0 bs = none := hu.trans (by first | (rw [uscan_get (by omega), if_pos (by omega)]) | (rw [List.drop_eq_nil_of_le (by omega)]; rfl))
    rw [rdU_none hf]
    exact ⟨_, _, _, rfl, hp, hs61⟩

theorem uint_own {H : Hp} {w : World} {L : List Res} {g : Nat} {A : Option Addr} {n c : Nat} {bs : List Nat} (hp : Bs H A n c bs) (b : Bool) (hs : St H w (obj g 58 [.slice A n c, .bool b] :: L)) : Calls Try.prog 18 #[(.pointer (some ⟨g, 0, none⟩))] w (fun e w' => ∃ A' n' c', e = .returned (.int .u64 (((rdU bs b).1 : Nat) : Int)) ∧ Bs H A' n' c' (rdU bs b).2.1 ∧ St H w' (obj g 58 [.slice A' n' c', .bool (rdU bs b).2.2] :: L)) := by
  cases b
  · exact uint_false hp hs
  · exact uint_true hp hs

end Go.Proofs.Ytmjgphaobdplcaa
