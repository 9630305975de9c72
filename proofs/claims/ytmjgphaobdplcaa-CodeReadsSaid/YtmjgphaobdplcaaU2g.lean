/- Steps of the proofs over the functions of this seat, printed by a program (gen.py) and checked by Lean. -/
import Derived.Test.YtmjgphaobdplcaaUty
import Derived.Test.YtmjgphaobdplcaaFmM2
import Derived.Test.YtmjgphaobdplcaaFmS2
import Derived.Test.YtmjgphaobdplcaaFmG
import Derived.Test.YtmjgphaobdplcaaFmP
import Derived.Test.YtmjgphaobdplcaaFmM2c
import Derived.Test.YtmjgphaobdplcaaU2f
set_option linter.unusedVariables false
set_option linter.unusedSimpArgs false
namespace Go.Proofs.Ytmjgphaobdplcaa
open Go Go.FM Go.Proofs
attribute [local irreducible] wpList wpQuiet wpS Code.wp Calls
set_option maxHeartbeats 8000000 in
theorem fail_own {H : Hp} {w : World} {L : List Res} {g : Nat} {A : Option Addr} {n c : Nat} {b : Bool} (hs : St H w (obj g 58 [.slice A n c, .bool b] :: L)) : Calls Try.prog 28 #[.pointer (some ⟨g, 0, none⟩)] w (fun e w' => (∃ u, e = .returned u) ∧ St H w' (obj g 58 [.slice A n c, .bool true] :: L)) := by
  refine enter (args := [.pointer (some ⟨g, 0, none⟩)]) (N := 7) Try.func28 rfl rfl rfl ?_
  refine c_seq ?_
  refine c_region ?_
  refine st (v := .pointer (some ⟨g, 0, none⟩)) (x_move (.tmp rfl rfl)) ?_
  refine st (v := .bool true) (x_neqP Try.underlying38 (.tmp rfl rfl) .const rfl) ?_
  refine c_nil ?_
  refine n_then ?_
  refine c_cond_t (t := true) (.tmp rfl rfl) rfl ?_
  refine c_region ?_
  refine st (v := .pointer (some ⟨g, 0, none⟩)) (x_move (.tmp rfl rfl)) ?_
  refine st (v := .pointer (some ⟨g, 0, none⟩)) (x_nilCheck (.tmp rfl rfl)) ?_
  refine st (v := .pointer (some ⟨g, 0 + 1, none⟩)) (fa58_1 (.tmp rfl rfl)) ?_
  refine st_m0 (sto4 (cs' := [.slice A n c, .bool true]) (i := 0 + 1) hs (v := .bool true) (.tmp rfl rfl) .const rfl (Nat.le_of_ble_eq_true rfl) one1 rfl) ?_
  rintro w1 hs3
  refine c_nil ?_
  refine leave_end (res_none rfl) ?_
  exact ⟨⟨_, rfl⟩, hs3⟩

set_option maxHeartbeats 8000000 in
theorem int_own {H : Hp} {w : World} {L : List Res} {g : Nat} {A : Option Addr} {n c : Nat} {bs : List Nat} (hp : Bs H A n c bs) (b : Bool) (most : Int) (hm1 : -9223372036854775808 ≤ most) (hm2 : most ≤ 9223372036854775807) (hs : St H w (obj g 58 [.slice A n c, .bool b] :: L)) : Calls Try.prog 21 #[.pointer (some ⟨g, 0, none⟩), .int .i64 most] w (fun e w' => ∃ A' n' c', e = .returned (.int .i64 (((rdI bs b most).1 : Nat) : Int)) ∧ Bs H A' n' c' (rdI bs b most).2.1 ∧ St H w' (obj g 58 [.slice A' n' c', .bool (rdI bs b most).2.2] :: L)) := by
  refine enter (args := [.pointer (some ⟨g, 0, none⟩), .int .i64 most]) (N := 30) Try.func21 rfl rfl rfl ?_
  have hlt := rdU_lt bs b
  refine c_seq ?_
  refine c_region ?_
  refine st (v := .int .i64 0) (x_assign .const) ?_
  refine c_nil ?_
  refine n_then ?_
  refine c_seq ?_
  refine c_region ?_
  refine st (v := .pointer (some ⟨g, 0, none⟩)) (x_move (.tmp rfl rfl)) ?_
  refine st_c cb18 .func (evs1 (.tmp rfl rfl)) (uint_own hp b hs) ?_
  rintro e w4 ⟨A1, n2, c3, rfl, hp5, hs6⟩
  refine ⟨_, rfl, ?_⟩
  refine st (v := .int .u64 (((rdU bs b).1 : Nat) : Int)) (x_assign (.tmp rfl rfl)) ?_
  refine c_nil ?_
  refine n_then ?_
  refine c_seq ?_
  refine c_seq ?_
  refine c_region ?_
  refine st (v := .pointer (some ⟨g, 0, none⟩)) (x_move (.tmp rfl rfl)) ?_
  refine st (v := .bool false) (x_eqlP Try.underlying38 (.tmp rfl rfl) .const rfl) ?_
  refine st (v := .bool false) (x_move (.tmp rfl rfl)) ?_
  refine g_yes (yl (dj := 10) (b := false) rfl rfl rfl) ?_
  refine st (v := .pointer (some ⟨g, 0, none⟩)) (x_move (.tmp rfl rfl)) ?_
  refine g_yes (yl (dj := 10) (b := false) rfl rfl rfl) ?_
  refine st (v := .pointer (some ⟨g, 0, none⟩)) (x_nilCheck (.tmp rfl rfl)) ?_
  refine g_yes (yl (dj := 10) (b := false) rfl rfl rfl) ?_
  refine st (v := .pointer (some ⟨g, 0 + 1, none⟩)) (fa58_1 (.tmp rfl rfl)) ?_
  refine g_yes (yl (dj := 10) (b := false) rfl rfl rfl) ?_
  refine st (v := .bool ((rdU bs b).2.2)) (ld4 (.tmp rfl rfl) (hs6.cell 0 rfl (0 + 1) rfl)) ?_
  refine st (v := .bool ((rdU bs b).2.2)) (x_pick_f (.tmp rfl rfl) (.tmp rfl rfl)) ?_
  refine st (v := .bool ((rdU bs b).2.2)) (x_move (.tmp rfl rfl)) ?_
  rcases Bool.eq_false_or_eq_true ((rdU bs b).2.2) with hc7 | hc7
  · refine g_no (yl (dj := 16) (b := true) rfl rfl (congrArg Value.bool hc7)) rfl ?_
    refine g_no (yl (dj := 16) (b := true) rfl rfl (congrArg Value.bool hc7)) rfl ?_
    refine st (v := .bool true) (x_pick_t (.tmp rfl (congrArg Value.bool hc7)) .const) ?_
    refine st (v := .bool true) (x_move (.tmp rfl rfl)) ?_
    refine g_no (yl (dj := 20) (b := true) rfl rfl rfl) rfl ?_
    refine g_no (yl (dj := 20) (b := true) rfl rfl rfl) rfl ?_
    refine g_no (yl (dj := 20) (b := true) rfl rfl rfl) rfl ?_
    refine g_no (yl (dj := 20) (b := true) rfl rfl rfl) rfl ?_
    refine st (v := .bool true) (x_pick_t (.tmp rfl rfl) .const) ?_
    refine c_nil ?_
    refine n_then ?_
    refine c_cond_t (t := true) (.tmp rfl rfl) rfl ?_
    refine c_seq ?_
    refine c_region ?_
    refine st (v := .pointer (some ⟨g, 0, none⟩)) (x_move (.tmp rfl rfl)) ?_
    refine st_c cb28 .func (evs1 (.tmp rfl rfl)) (fail_own (b := ((rdU bs b).2.2)) hs6) ?_
    rintro e w8 ⟨⟨u10, rfl⟩, hs9⟩
    refine ⟨_, rfl, ?_⟩
    refine c_nil ?_
    refine n_then ?_
    refine c_seq ?_
    refine c_region ?_
    refine st (v := .int .i64 0) (x_assign .const) ?_
    refine c_nil ?_
    refine n_then ?_
    refine c_ret ?_
    refine r_then ?_
    refine leave_ret (res_one (v := .int .i64 0) rfl (.mk rfl rfl)) ?_
    rw [rdI_bad (by first | (left; assumption) | (right; left; omega) | (right; right; omega))]
    exact ⟨_, _, _, rfl, hp5, hs9⟩
  · refine g_yes (yl (dj := 16) (b := false) rfl rfl (congrArg Value.bool hc7)) ?_
    refine st (v := .int .i64 most) (x_move (.tmp rfl rfl)) ?_
    refine g_yes (yl (dj := 16) (b := false) rfl rfl (congrArg Value.bool hc7)) ?_
    refine st (v := .bool (decide ((most : Int) < 0))) (x_lss (k := .i64) (a := most) (b := 0) (.tmp rfl rfl) .const) ?_
    refine st (v := .bool (decide ((most : Int) < 0))) (x_pick_f (.tmp rfl (congrArg Value.bool hc7)) (.tmp rfl rfl)) ?_
    refine st (v := .bool (decide ((most : Int) < 0))) (x_move (.tmp rfl rfl)) ?_
    rcases Bool.eq_false_or_eq_true (decide ((most : Int) < 0)) with hc11 | hc11
    · have hp11 : (most : Int) < 0 := of_decide_eq_true hc11
      refine g_no (yl (dj := 20) (b := true) rfl rfl (congrArg Value.bool hc11)) rfl ?_
      refine g_no (yl (dj := 20) (b := true) rfl rfl (congrArg Value.bool hc11)) rfl ?_
      refine g_no (yl (dj := 20) (b := true) rfl rfl (congrArg Value.bool hc11)) rfl ?_
      refine g_no (yl (dj := 20) (b := true) rfl rfl (congrArg Value.bool hc11)) rfl ?_
      refine st (v := .bool true) (x_pick_t (.tmp rfl (congrArg Value.bool hc11)) .const) ?_
      refine c_nil ?_
      refine n_then ?_
      refine c_cond_t (t := true) (.tmp rfl rfl) rfl ?_
      refine c_seq ?_
      refine c_region ?_
      refine st (v := .pointer (some ⟨g, 0, none⟩)) (x_move (.tmp rfl rfl)) ?_
      refine st_c cb28 .func (evs1 (.tmp rfl rfl)) (fail_own (b := ((rdU bs b).2.2)) hs6) ?_
      rintro e w12 ⟨⟨u14, rfl⟩, hs13⟩
      refine ⟨_, rfl, ?_⟩
      refine c_nil ?_
      refine n_then ?_
      refine c_seq ?_
      refine c_region ?_
      refine st (v := .int .i64 0) (x_assign .const) ?_
      refine c_nil ?_
      refine n_then ?_
      refine c_ret ?_
      refine r_then ?_
      refine leave_ret (res_one (v := .int .i64 0) rfl (.mk rfl rfl)) ?_
      rw [rdI_bad (by first | (left; assumption) | (right; left; omega) | (right; right; omega))]
      exact ⟨_, _, _, rfl, hp5, hs13⟩
    · have hp11 : ¬ ((most : Int) < 0) := of_decide_eq_false hc11
      refine g_yes (yl (dj := 20) (b := false) rfl rfl (congrArg Value.bool hc11)) ?_
      refine st (v := .int .u64 (((rdU bs b).1 : Nat) : Int)) (x_move (.tmp rfl rfl)) ?_
      refine g_yes (yl (dj := 20) (b := false) rfl rfl (congrArg Value.bool hc11)) ?_
      refine st (v := .int .i64 most) (x_move (.tmp rfl rfl)) ?_
      refine g_yes (yl (dj := 20) (b := false) rfl rfl (congrArg Value.bool hc11)) ?_
      refine st (v := .int .u64 (((most % 18446744073709551616).toNat : Nat) : Int)) (x_conv (k := .i64) (a := most) Try.underlying3 Try.underlying37 (.tmp rfl rfl) (wrapU _ rfl _)) ?_
      refine g_yes (yl (dj := 20) (b := false) rfl rfl (congrArg Value.bool hc11)) ?_
      refine st (v := .bool (decide (((((most % 18446744073709551616).toNat : Nat) : Int) : Int) < (((rdU bs b).1 : Nat) : Int)))) (x_gtr (k := .u64) (a := (((rdU bs b).1 : Nat) : Int)) (b := (((most % 18446744073709551616).toNat : Nat) : Int)) (.tmp rfl rfl) (.tmp rfl rfl)) ?_
      refine st (v := .bool (decide (((((most % 18446744073709551616).toNat : Nat) : Int) : Int) < (((rdU bs b).1 : Nat) : Int)))) (x_pick_f (.tmp rfl (congrArg Value.bool hc11)) (.tmp rfl rfl)) ?_
      refine c_nil ?_
      refine n_then ?_
      rcases Bool.eq_false_or_eq_true (decide (((((most % 18446744073709551616).toNat : Nat) : Int) : Int) < (((rdU bs b).1 : Nat) : Int))) with hc15 | hc15
      · have hp15 : ((((most % 18446744073709551616).toNat : Nat) : Int) : Int) < (((rdU bs b).1 : Nat) : Int) := of_decide_eq_true hc15
        refine c_cond_t (t := true) (.tmp rfl (congrArg Value.bool hc15)) rfl ?_
        refine c_seq ?_
        refine c_region ?_
        refine st (v := .pointer (some ⟨g, 0, none⟩)) (x_move (.tmp rfl rfl)) ?_
        refine st_c cb28 .func (evs1 (.tmp rfl rfl)) (fail_own (b := ((rdU bs b).2.2)) hs6) ?_
        rintro e w16 ⟨⟨u18, rfl⟩, hs17⟩
        refine ⟨_, rfl, ?_⟩
        refine c_nil ?_
        refine n_then ?_
        refine c_seq ?_
        refine c_region ?_
        refine st (v := .int .i64 0) (x_assign .const) ?_
        refine c_nil ?_
        refine n_then ?_
        refine c_ret ?_
        refine r_then ?_
        refine leave_ret (res_one (v := .int .i64 0) rfl (.mk rfl rfl)) ?_
        rw [rdI_bad (by first | (left; assumption) | (right; left; omega) | (right; right; omega))]
        exact ⟨_, _, _, rfl, hp5, hs17⟩
      · have hp15 : ¬ (((((most % 18446744073709551616).toNat : Nat) : Int) : Int) < (((rdU bs b).1 : Nat) : Int)) := of_decide_eq_false hc15
        refine c_cond_f (t := false) (.tmp rfl (congrArg Value.bool hc15)) rfl ?_
        refine c_skip ?_
        refine n_then ?_
        refine c_seq ?_
        refine c_region ?_
        refine st (v := .int .u64 (((rdU bs b).1 : Nat) : Int)) (x_move (.tmp rfl rfl)) ?_
        refine st (v := .int .i64 (((rdU bs b).1 : Nat) : Int)) (x_conv (k := .u64) (a := (((rdU bs b).1 : Nat) : Int)) Try.underlying37 Try.underlying3 (.tmp rfl rfl) (w64 (by omega) (by omega))) ?_
        refine st (v := .int .i64 (((rdU bs b).1 : Nat) : Int)) (x_assign (.tmp rfl rfl)) ?_
        refine c_nil ?_
        refine n_then ?_
        refine c_ret ?_
        refine leave_ret (res_one (v := .int .i64 (((rdU bs b).1 : Nat) : Int)) rfl (.mk rfl rfl)) ?_
        rw [rdI_good hc7 (by omega) (by omega)]
        have hs9 := hs6
        rw [hc7] at hs9
        exact ⟨_, _, _, rfl, hp5, hs9⟩

set_option maxHeartbeats 8000000 in
theorem bytes_own {H : Hp} {w : World} {L : List Res} {g : Nat} {A : Option Addr} {n c : Nat} {bs : List Nat} (hp : Bs H A n c bs) (hn : n ≤ 140737488355320) (b : Bool) (most : Int) (hm1 : -9223372036854775808 ≤ most) (hm2 : most ≤ 9223372036854775807) (hs : St H w (obj g 58 [.slice A n c, .bool b] :: L)) : Calls Try.prog 22 #[.pointer (some ⟨g, 0, none⟩), .int .i64 most] w (fun e w' => ∃ v A' n' c', e = .returned v ∧ RowOk 1 v (rdB bs b most).1.length ((rdB bs b most).1.map encB) ∧ Bs H A' n' c' (rdB bs b most).2.1 ∧ St H w' (row 5 1 v (rdB bs b most).1.length ((rdB bs b most).1.map encB) :: obj g 58 [.slice A' n' c', .bool (rdB bs b most).2.2] :: L)) := by
  refine enter (args := [.pointer (some ⟨g, 0, none⟩), .int .i64 most]) (N := 46) Try.func22 rfl rfl rfl ?_
  have hlen := hp.len
  have hrl := rdI_len bs b most
  have hri := rdI_le bs b most hm2
  refine c_seq ?_
  refine c_region ?_
  refine st (v := .slice none 0 0) (x_assign .const) ?_
  refine c_nil ?_
  refine n_then ?_
  refine c_seq ?_
  refine c_region ?_
  refine st (v := .pointer (some ⟨g, 0, none⟩)) (x_move (.tmp rfl rfl)) ?_
  refine st (v := .int .i64 most) (x_move (.tmp rfl rfl)) ?_
  refine st_c cb21 .func (evs2 (.tmp rfl rfl) (.tmp rfl rfl)) (int_own hp b most (by omega) (by omega) hs) ?_
  rintro e w4 ⟨A1, n2, c3, rfl, hp5, hs6⟩
  refine ⟨_, rfl, ?_⟩
  refine st (v := .int .i64 (((rdI bs b most).1 : Nat) : Int)) (x_assign (.tmp rfl rfl)) ?_
  refine c_nil ?_
  refine n_then ?_
  refine c_seq ?_
  refine c_seq ?_
  refine c_region ?_
  refine st (v := .pointer (some ⟨g, 0, none⟩)) (x_move (.tmp rfl rfl)) ?_
  refine st (v := .bool false) (x_eqlP Try.underlying38 (.tmp rfl rfl) .const rfl) ?_
  refine st (v := .bool false) (x_move (.tmp rfl rfl)) ?_
  refine g_yes (yl (dj := 12) (b := false) rfl rfl rfl) ?_
  refine st (v := .pointer (some ⟨g, 0, none⟩)) (x_move (.tmp rfl rfl)) ?_
  refine g_yes (yl (dj := 12) (b := false) rfl rfl rfl) ?_
  refine st (v := .pointer (some ⟨g, 0, none⟩)) (x_nilCheck (.tmp rfl rfl)) ?_
  refine g_yes (yl (dj := 12) (b := false) rfl rfl rfl) ?_
  refine st (v := .pointer (some ⟨g, 0 + 1, none⟩)) (fa58_1 (.tmp rfl rfl)) ?_
  refine g_yes (yl (dj := 12) (b := false) rfl rfl rfl) ?_
  refine st (v := .bool ((rdI bs b most).2.2)) (ld4 (.tmp rfl rfl) (hs6.cell 0 rfl (0 + 1) rfl)) ?_
  refine st (v := .bool ((rdI bs b most).2.2)) (x_pick_f (.tmp rfl rfl) (.tmp rfl rfl)) ?_
  refine c_nil ?_
  refine n_then ?_
  rcases Bool.eq_false_or_eq_true ((rdI bs b most).2.2) with hc7 | hc7
  · refine c_cond_t (t := true) (.tmp rfl (congrArg Value.bool hc7)) rfl ?_
    refine c_seq ?_
    refine c_region ?_
    refine st (v := .slice none 0 0) (x_assign .const) ?_
    refine c_nil ?_
    refine n_then ?_
    refine c_ret ?_
    refine r_then ?_
    refine leave_ret (res_one (v := .slice none 0 0) rfl (.mk rfl rfl)) ?_
    rw [rdB_bad (by first | (left; assumption) | (right; omega))]
    have hs9 := hs6
    rw [hc7] at hs9
    exact ⟨_, _, _, _, rfl, RowOk.nil 1, hp5, hs9.rowNil 5 1⟩
  · refine c_cond_f (t := false) (.tmp rfl (congrArg Value.bool hc7)) rfl ?_
    refine c_skip ?_
    refine n_then ?_
    refine c_seq ?_
    refine c_seq ?_
    refine c_region ?_
    have hl8 := hp5.len
    refine st (v := .int .i64 (((rdI bs b most).1 : Nat) : Int)) (x_move (.tmp rfl rfl)) ?_
    refine st (v := .pointer (some ⟨g, 0, none⟩)) (x_move (.tmp rfl rfl)) ?_
    refine st (v := .pointer (some ⟨g, 0, none⟩)) (x_nilCheck (.tmp rfl rfl)) ?_
    refine st (v := .pointer (some ⟨g, 0 + 0, none⟩)) (fa58_0 (.tmp rfl rfl)) ?_
    refine st (v := .slice A1 n2 c3) (ld22 (.tmp rfl rfl) (hs6.cell 0 rfl (0 + 0) rfl)) ?_
    refine st (v := .int .i64 ((n2 : Nat) : Int)) (x_len (n := n2) Try.underlying22 (.tmp rfl rfl)) ?_
    refine st (v := .bool (decide ((((n2 : Nat) : Int) : Int) < (((rdI bs b most).1 : Nat) : Int)))) (x_gtr (k := .i64) (a := (((rdI bs b most).1 : Nat) : Int)) (b := ((n2 : Nat) : Int)) (.tmp rfl rfl) (.tmp rfl rfl)) ?_
    refine c_nil ?_
    refine n_then ?_
    rcases Bool.eq_false_or_eq_true (decide ((((n2 : Nat) : Int) : Int) < (((rdI bs b most).1 : Nat) : Int))) with hc8 | hc8
    · have hp8 : (((n2 : Nat) : Int) : Int) < (((rdI bs b most).1 : Nat) : Int) := of_decide_eq_true hc8
      refine c_cond_t (t := true) (.tmp rfl (congrArg Value.bool hc8)) rfl ?_
      refine c_seq ?_
      refine c_region ?_
      refine st (v := .pointer (some ⟨g, 0, none⟩)) (x_move (.tmp rfl rfl)) ?_
      refine st (v := .pointer (some ⟨g, 0, none⟩)) (x_nilCheck (.tmp rfl rfl)) ?_
      refine st (v := .pointer (some ⟨g, 0 + 1, none⟩)) (fa58_1 (.tmp rfl rfl)) ?_
      refine st_m0 (sto4 (cs' := [.slice A1 n2 c3, .bool true]) (i := 0 + 1) hs6 (v := .bool true) (.tmp rfl rfl) .const rfl (Nat.le_of_ble_eq_true rfl) one1 rfl) ?_
      rintro w9 hs11
      refine c_nil ?_
      refine n_then ?_
      refine c_seq ?_
      refine c_region ?_
      refine st (v := .slice none 0 0) (x_assign .const) ?_
      refine c_nil ?_
      refine n_then ?_
      refine c_ret ?_
      refine r_then ?_
      refine leave_ret (res_one (v := .slice none 0 0) rfl (.mk rfl rfl)) ?_
      rw [rdB_bad (by first | (left; assumption) | (right; omega))]
      have hs9 := hs11
      exact ⟨_, _, _, _, rfl, RowOk.nil 1, hp5, hs9.rowNil 5 1⟩
    · have hp8 : ¬ ((((n2 : Nat) : Int) : Int) < (((rdI bs b most).1 : Nat) : Int)) := of_decide_eq_false hc8
      refine c_cond_f (t := false) (.tmp rfl (congrArg Value.bool hc8)) rfl ?_
      refine c_skip ?_
      refine n_then ?_
      refine c_seq ?_
      refine c_region ?_
      refine st (v := .pointer (some ⟨g, 0, none⟩)) (x_move (.tmp rfl rfl)) ?_
      refine st (v := .pointer (some ⟨g, 0, none⟩)) (x_nilCheck (.tmp rfl rfl)) ?_
      refine st (v := .pointer (some ⟨g, 0 + 0, none⟩)) (fa58_0 (.tmp rfl rfl)) ?_
      refine st (v := .slice A1 n2 c3) (ld22 (.tmp rfl rfl) (hs6.cell 0 rfl (0 + 0) rfl)) ?_
      refine st (v := .int .i64 (((rdI bs b most).1 : Nat) : Int)) (x_move (.tmp rfl rfl)) ?_
      refine st (v := .int .i64 (((rdI bs b most).1 : Nat) : Int)) (x_move (.tmp rfl rfl)) ?_
      have := hp5.le
      refine st (v := .slice A1 ((rdI bs b most).1) ((rdI bs b most).1)) (bs_hm Try.underlying22 inf5 (a := (((rdI bs b most).1 : Nat) : Int)) (.tmp rfl rfl) (.tmp rfl rfl) (.tmp rfl rfl) (by omega) (by omega)) ?_
      refine st_m (m_appNil Try.underlying22 inf5 hs6 .const (.tmp rfl rfl) (hp5.takeC (k := ((rdI bs b most).1)) (by omega)) (by omega)) ?_
      rintro v12 w13 ⟨ok14, hs15⟩
      refine st (v := v12) (x_assign (.tmp rfl rfl)) ?_
      refine c_nil ?_
      refine n_then ?_
      refine c_seq ?_
      refine c_region ?_
      refine st (v := .pointer (some ⟨g, 0, none⟩)) (x_move (.tmp rfl rfl)) ?_
      refine st (v := .pointer (some ⟨g, 0, none⟩)) (x_move (.tmp rfl rfl)) ?_
      refine st (v := .pointer (some ⟨g, 0, none⟩)) (x_nilCheck (.tmp rfl rfl)) ?_
      refine st (v := .pointer (some ⟨g, 0 + 0, none⟩)) (fa58_0 (.tmp rfl rfl)) ?_
      refine st (v := .slice A1 n2 c3) (ld22 (.tmp rfl rfl) (hs15.cell 1 rfl (0 + 0) rfl)) ?_
      refine st (v := .int .i64 (((rdI bs b most).1 : Nat) : Int)) (x_move (.tmp rfl rfl)) ?_
      have := hp5.le
      refine st (v := .slice (cutA A1 c3 ((rdI bs b most).1) 1) (n2 - ((rdI bs b most).1)) (c3 - ((rdI bs b most).1))) (bs_l Try.underlying22 inf5 (a := (((rdI bs b most).1 : Nat) : Int)) (.tmp rfl rfl) (.tmp rfl rfl) (by omega) (by omega) (by omega)) ?_
      refine st (v := .pointer (some ⟨g, 0, none⟩)) (x_nilCheck (.tmp rfl rfl)) ?_
      refine st (v := .pointer (some ⟨g, 0 + 0, none⟩)) (fa58_0 (.tmp rfl rfl)) ?_
      have hs17 : St H _ (obj g 58 [.slice A1 n2 c3, .bool ((rdI bs b most).2.2)] :: row 5 1 v12 ((rdI bs b most).1) ((((rdI bs b most).2.1).take ((rdI bs b most).1)).map encB) :: L) := hs15.pick 1 rfl rfl
      refine st_m0 (sto22 (cs' := [.slice (cutA A1 c3 ((rdI bs b most).1) 1) (n2 - ((rdI bs b most).1)) (c3 - ((rdI bs b most).1)), .bool ((rdI bs b most).2.2)]) (i := 0 + 0) hs17 (v := .slice (cutA A1 c3 ((rdI bs b most).1) 1) (n2 - ((rdI bs b most).1)) (c3 - ((rdI bs b most).1))) (.tmp rfl rfl) (.tmp rfl rfl) rfl (Nat.le_of_ble_eq_true rfl) one1 rfl) ?_
      rintro w18 hs20
      refine c_nil ?_
      refine n_then ?_
      refine c_seq ?_
      refine c_region ?_
      refine st (v := v12) (x_move (.tmp rfl rfl)) ?_
      refine st (v := v12) (x_assign (.tmp rfl rfl)) ?_
      refine c_nil ?_
      refine n_then ?_
      refine c_ret ?_
      refine leave_ret (res_one (v := v12) rfl (.mk rfl rfl)) ?_
      rw [rdB_good hc7 (by omega)]
      have hs9 := (hs20.pick 1 rfl rfl)
      rw [hc7] at hs9
      have hl9 : ((rdI bs b most).2.1.take (rdI bs b most).1).length = (rdI bs b most).1 := by rw [List.length_take]; omega
      rw [hl9]
      exact ⟨_, _, _, _, rfl, ok14, (hp5.drop (k := ((rdI bs b most).1)) (by omega)), hs9⟩

end Go.Proofs.Ytmjgphaobdplcaa
