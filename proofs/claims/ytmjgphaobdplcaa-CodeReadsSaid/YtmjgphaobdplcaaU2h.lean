/- Steps of the proofs over the functions of this seat, printed by a program (gen.py) and checked by Lean. -/
import Derived.Test.YtmjgphaobdplcaaUty
import Derived.Test.YtmjgphaobdplcaaFmM2
import Derived.Test.YtmjgphaobdplcaaFmS2
import Derived.Test.YtmjgphaobdplcaaFmG
import Derived.Test.YtmjgphaobdplcaaFmP
import Derived.Test.YtmjgphaobdplcaaFmM2c
import Derived.Test.YtmjgphaobdplcaaU2g
import Derived.Test.YtmjgphaobdplcaaFmRd
set_option linter.unusedVariables false
set_option linter.unusedSimpArgs false
namespace Go.Proofs.Ytmjgphaobdplcaa
open Go Go.FM Go.Proofs
attribute [local irreducible] wpList wpQuiet wpS Code.wp Calls
set_option maxHeartbeats 8000000 in
theorem ruint_neg {H : Hp} {w : World} {L : List Res} {g : Nat} {A : Option Addr} {n c : Nat} (hs : St H w (obj g 50 [.slice A n c, .int .i64 (-1)] :: L)) : Calls Try.prog 23 #[.pointer (some ⟨g, 0, none⟩)] w (fun e w' => e = .returned (.int .u64 0) ∧ St H w' (obj g 50 [.slice A n c, .int .i64 (-1)] :: L)) := by
  refine enter (args := [.pointer (some ⟨g, 0, none⟩)]) (N := 85) Try.func23 rfl rfl rfl ?_
  refine c_seq ?_
  refine c_region ?_
  refine st (v := .int .u64 0) (x_assign .const) ?_
  refine c_nil ?_
  refine n_then ?_
  refine c_seq ?_
  refine c_seq ?_
  refine c_region ?_
  refine st (v := .pointer (some ⟨g, 0, none⟩)) (x_move (.tmp rfl rfl)) ?_
  refine st (v := .pointer (some ⟨g, 0, none⟩)) (x_nilCheck (.tmp rfl rfl)) ?_
  refine st (v := .pointer (some ⟨g, 0 + 1, none⟩)) (fa50_1 (.tmp rfl rfl)) ?_
  refine st (v := .int .i64 (-1)) (ld3 (.tmp rfl rfl) (hs.cell 0 rfl (0 + 1) rfl)) ?_
  refine st (v := .bool true) (x_lss (k := .i64) (a := (-1)) (b := 0) (.tmp rfl rfl) .const) ?_
  refine c_nil ?_
  refine n_then ?_
  refine c_cond_t (t := true) (.tmp rfl rfl) rfl ?_
  refine c_seq ?_
  refine c_region ?_
  refine st (v := .int .u64 0) (x_assign .const) ?_
  refine c_nil ?_
  refine n_then ?_
  refine c_ret ?_
  refine r_then ?_
  refine leave_ret (res_one (v := .int .u64 0) rfl (.mk rfl rfl)) ?_
  exact ⟨rfl, hs⟩

theorem ruint_own {H : Hp} {w : World} {L : List Res} {g : Nat} {A : Option Addr} {n c : Nat} {bs cur : List Nat} {bad : Bool} (hs : St H w (obj g 50 [.slice A n c, .int .i64 (atOf n cur bad)] :: L)) (hp : Bs H A n c bs) (hsuf : Suf bs cur) (hn : n ≤ 140737488355320) : Calls Try.prog 23 #[(.pointer (some ⟨g, 0, none⟩))] w (fun e w' => e = .returned (.int .u64 (((rdU cur bad).1 : Nat) : Int)) ∧ St H w' (obj g 50 [.slice A n c, .int .i64 (atOf n (rdU cur bad).2.1 (rdU cur bad).2.2)] :: L)) := by
  cases bad
  · have hl := hsuf.len
    have hlen := hp.len
    have he := hsuf.eq
    rw [atOf_false, show (n : Int) - (cur.length : Int) = ((bs.length - cur.length : Nat) : Int) by omega] at hs
    have hc := ruint_pos hp hn (bs.length - cur.length) (by omega) hs
    rw [← he] at hc
    refine hc.mono fun e w' h => ?_
    obtain ⟨a, h1, h2, h3⟩ := h
    rw [h2.at_ hlen] at h3
    exact ⟨h1, h3⟩
  · rw [rdU_bad]
    exact ruint_neg hs

set_option maxHeartbeats 8000000 in
theorem rint_own {H : Hp} {w : World} {L : List Res} {g : Nat} {A : Option Addr} {n c : Nat} {bs cur : List Nat} {bad : Bool} (hs : St H w (obj g 50 [.slice A n c, .int .i64 (atOf n cur bad)] :: L)) (hp : Bs H A n c bs) (hsuf : Suf bs cur) (hn : n ≤ 140737488355320) (most : Int) (hm1 : -9223372036854775808 ≤ most) (hm2 : most ≤ 9223372036854775807) : Calls Try.prog 24 #[.pointer (some ⟨g, 0, none⟩), .int .i64 most] w (fun e w' => e = .returned (.int .i64 (((rdI cur bad most).1 : Nat) : Int)) ∧ St H w' (obj g 50 [.slice A n c, .int .i64 (atOf n (rdI cur bad most).2.1 (rdI cur bad most).2.2)] :: L)) := by
  refine enter (args := [.pointer (some ⟨g, 0, none⟩), .int .i64 most]) (N := 28) Try.func24 rfl rfl rfl ?_
  have hlen := hp.len
  have hle := hp.le
  have hl := hsuf.len
  have hab := atOf_bound (bad := bad) (show cur.length ≤ n by omega)
  have hlt := rdU_lt cur bad
  refine c_seq ?_
  refine c_region ?_
  refine st (v := .int .i64 0) (x_assign .const) ?_
  refine c_nil ?_
  refine n_then ?_
  refine c_seq ?_
  refine c_region ?_
  refine st (v := .pointer (some ⟨g, 0, none⟩)) (x_move (.tmp rfl rfl)) ?_
  refine st_c cb23 .func (evs1 (.tmp rfl rfl)) (ruint_own hs hp (hsuf) hn) ?_
  rintro e w1 ⟨rfl, hs2⟩
  refine ⟨_, rfl, ?_⟩
  refine st (v := .int .u64 (((rdU cur bad).1 : Nat) : Int)) (x_assign (.tmp rfl rfl)) ?_
  refine c_nil ?_
  refine n_then ?_
  refine c_seq ?_
  refine c_seq ?_
  refine c_region ?_
  have hl2 := (hsuf.rdU bad).len; have hng := atOf_neg (n := n) (cur := (rdU cur bad).2.1) (bad := (rdU cur bad).2.2) (by omega); have hab2 := atOf_bound (n := n) (cur := (rdU cur bad).2.1) (bad := (rdU cur bad).2.2) (by omega)
  refine st (v := .pointer (some ⟨g, 0, none⟩)) (x_move (.tmp rfl rfl)) ?_
  refine st (v := .pointer (some ⟨g, 0, none⟩)) (x_nilCheck (.tmp rfl rfl)) ?_
  refine st (v := .pointer (some ⟨g, 0 + 1, none⟩)) (fa50_1 (.tmp rfl rfl)) ?_
  refine st (v := .int .i64 (atOf n (rdU cur bad).2.1 (rdU cur bad).2.2)) (ld3 (.tmp rfl rfl) (hs2.cell 0 rfl (0 + 1) rfl)) ?_
  refine st (v := .bool (decide (((atOf n (rdU cur bad).2.1 (rdU cur bad).2.2) : Int) < 0))) (x_lss (k := .i64) (a := (atOf n (rdU cur bad).2.1 (rdU cur bad).2.2)) (b := 0) (.tmp rfl rfl) .const) ?_
  refine st (v := .bool (decide (((atOf n (rdU cur bad).2.1 (rdU cur bad).2.2) : Int) < 0))) (x_move (.tmp rfl rfl)) ?_
  rcases Bool.eq_false_or_eq_true (decide (((atOf n (rdU cur bad).2.1 (rdU cur bad).2.2) : Int) < 0)) with hc3 | hc3
  · have hp3 : ((atOf n (rdU cur bad).2.1 (rdU cur bad).2.2) : Int) < 0 := of_decide_eq_true hc3
    refine g_no (yl (dj := 13) (b := true) rfl rfl (congrArg Value.bool hc3)) rfl ?_
    refine g_no (yl (dj := 13) (b := true) rfl rfl (congrArg Value.bool hc3)) rfl ?_
    refine st (v := .bool true) (x_pick_t (.tmp rfl (congrArg Value.bool hc3)) .const) ?_
    refine st (v := .bool true) (x_move (.tmp rfl rfl)) ?_
    refine g_no (yl (dj := 17) (b := true) rfl rfl rfl) rfl ?_
    refine g_no (yl (dj := 17) (b := true) rfl rfl rfl) rfl ?_
    refine g_no (yl (dj := 17) (b := true) rfl rfl rfl) rfl ?_
    refine g_no (yl (dj := 17) (b := true) rfl rfl rfl) rfl ?_
    refine st (v := .bool true) (x_pick_t (.tmp rfl rfl) .const) ?_
    refine c_nil ?_
    refine n_then ?_
    refine c_cond_t (t := true) (.tmp rfl rfl) rfl ?_
    refine c_seq ?_
    refine c_region ?_
    refine st (v := .pointer (some ⟨g, 0, none⟩)) (x_move (.tmp rfl rfl)) ?_
    refine st (v := .pointer (some ⟨g, 0, none⟩)) (x_nilCheck (.tmp rfl rfl)) ?_
    refine st (v := .pointer (some ⟨g, 0 + 1, none⟩)) (fa50_1 (.tmp rfl rfl)) ?_
    refine st_m0 (sto3 (cs' := [.slice A n c, .int .i64 (-1)]) (i := 0 + 1) hs2 (v := .int .i64 (-1)) (.tmp rfl rfl) .const rfl (Nat.le_of_ble_eq_true rfl) one1 rfl) ?_
    rintro w4 hs6
    refine c_nil ?_
    refine n_then ?_
    refine c_seq ?_
    refine c_region ?_
    refine st (v := .int .i64 0) (x_assign .const) ?_
    refine c_nil ?_
    refine n_then ?_
    refine c_ret ?_
    refine r_then ?_
    refine leave_ret (res_one (v := .int .i64 0) rfl (.mk rfl rfl)) ?_
    rw [rdI_bad (by first | (left; exact hng.1 (by omega)) | (right; left; omega) | (right; right; omega))]
    exact ⟨rfl, hs6⟩
  · have hp3 : ¬ (((atOf n (rdU cur bad).2.1 (rdU cur bad).2.2) : Int) < 0) := of_decide_eq_false hc3
    refine g_yes (yl (dj := 13) (b := false) rfl rfl (congrArg Value.bool hc3)) ?_
    refine st (v := .int .i64 most) (x_move (.tmp rfl rfl)) ?_
    refine g_yes (yl (dj := 13) (b := false) rfl rfl (congrArg Value.bool hc3)) ?_
    refine st (v := .bool (decide ((most : Int) < 0))) (x_lss (k := .i64) (a := most) (b := 0) (.tmp rfl rfl) .const) ?_
    refine st (v := .bool (decide ((most : Int) < 0))) (x_pick_f (.tmp rfl (congrArg Value.bool hc3)) (.tmp rfl rfl)) ?_
    refine st (v := .bool (decide ((most : Int) < 0))) (x_move (.tmp rfl rfl)) ?_
    rcases Bool.eq_false_or_eq_true (decide ((most : Int) < 0)) with hc7 | hc7
    · have hp7 : (most : Int) < 0 := of_decide_eq_true hc7
      refine g_no (yl (dj := 17) (b := true) rfl rfl (congrArg Value.bool hc7)) rfl ?_
      refine g_no (yl (dj := 17) (b := true) rfl rfl (congrArg Value.bool hc7)) rfl ?_
      refine g_no (yl (dj := 17) (b := true) rfl rfl (congrArg Value.bool hc7)) rfl ?_
      refine g_no (yl (dj := 17) (b := true) rfl rfl (congrArg Value.bool hc7)) rfl ?_
      refine st (v := .bool true) (x_pick_t (.tmp rfl (congrArg Value.bool hc7)) .const) ?_
      refine c_nil ?_
      refine n_then ?_
      refine c_cond_t (t := true) (.tmp rfl rfl) rfl ?_
      refine c_seq ?_
      refine c_region ?_
      refine st (v := .pointer (some ⟨g, 0, none⟩)) (x_move (.tmp rfl rfl)) ?_
      refine st (v := .pointer (some ⟨g, 0, none⟩)) (x_nilCheck (.tmp rfl rfl)) ?_
      refine st (v := .pointer (some ⟨g, 0 + 1, none⟩)) (fa50_1 (.tmp rfl rfl)) ?_
      refine st_m0 (sto3 (cs' := [.slice A n c, .int .i64 (-1)]) (i := 0 + 1) hs2 (v := .int .i64 (-1)) (.tmp rfl rfl) .const rfl (Nat.le_of_ble_eq_true rfl) one1 rfl) ?_
      rintro w8 hs10
      refine c_nil ?_
      refine n_then ?_
      refine c_seq ?_
      refine c_region ?_
      refine st (v := .int .i64 0) (x_assign .const) ?_
      refine c_nil ?_
      refine n_then ?_
      refine c_ret ?_
      refine r_then ?_
      refine leave_ret (res_one (v := .int .i64 0) rfl (.mk rfl rfl)) ?_
      rw [rdI_bad (by first | (left; exact hng.1 (by omega)) | (right; left; omega) | (right; right; omega))]
      exact ⟨rfl, hs10⟩
    · have hp7 : ¬ ((most : Int) < 0) := of_decide_eq_false hc7
      refine g_yes (yl (dj := 17) (b := false) rfl rfl (congrArg Value.bool hc7)) ?_
      refine st (v := .int .u64 (((rdU cur bad).1 : Nat) : Int)) (x_move (.tmp rfl rfl)) ?_
      refine g_yes (yl (dj := 17) (b := false) rfl rfl (congrArg Value.bool hc7)) ?_
      refine st (v := .int .i64 most) (x_move (.tmp rfl rfl)) ?_
      refine g_yes (yl (dj := 17) (b := false) rfl rfl (congrArg Value.bool hc7)) ?_
      refine st (v := .int .u64 (((most % 18446744073709551616).toNat : Nat) : Int)) (x_conv (k := .i64) (a := most) Try.underlying3 Try.underlying37 (.tmp rfl rfl) (wrapU _ rfl _)) ?_
      refine g_yes (yl (dj := 17) (b := false) rfl rfl (congrArg Value.bool hc7)) ?_
      refine st (v := .bool (decide (((((most % 18446744073709551616).toNat : Nat) : Int) : Int) < (((rdU cur bad).1 : Nat) : Int)))) (x_gtr (k := .u64) (a := (((rdU cur bad).1 : Nat) : Int)) (b := (((most % 18446744073709551616).toNat : Nat) : Int)) (.tmp rfl rfl) (.tmp rfl rfl)) ?_
      refine st (v := .bool (decide (((((most % 18446744073709551616).toNat : Nat) : Int) : Int) < (((rdU cur bad).1 : Nat) : Int)))) (x_pick_f (.tmp rfl (congrArg Value.bool hc7)) (.tmp rfl rfl)) ?_
      refine c_nil ?_
      refine n_then ?_
      rcases Bool.eq_false_or_eq_true (decide (((((most % 18446744073709551616).toNat : Nat) : Int) : Int) < (((rdU cur bad).1 : Nat) : Int))) with hc11 | hc11
      · have hp11 : ((((most % 18446744073709551616).toNat : Nat) : Int) : Int) < (((rdU cur bad).1 : Nat) : Int) := of_decide_eq_true hc11
        refine c_cond_t (t := true) (.tmp rfl (congrArg Value.bool hc11)) rfl ?_
        refine c_seq ?_
        refine c_region ?_
        refine st (v := .pointer (some ⟨g, 0, none⟩)) (x_move (.tmp rfl rfl)) ?_
        refine st (v := .pointer (some ⟨g, 0, none⟩)) (x_nilCheck (.tmp rfl rfl)) ?_
        refine st (v := .pointer (some ⟨g, 0 + 1, none⟩)) (fa50_1 (.tmp rfl rfl)) ?_
        refine st_m0 (sto3 (cs' := [.slice A n c, .int .i64 (-1)]) (i := 0 + 1) hs2 (v := .int .i64 (-1)) (.tmp rfl rfl) .const rfl (Nat.le_of_ble_eq_true rfl) one1 rfl) ?_
        rintro w12 hs14
        refine c_nil ?_
        refine n_then ?_
        refine c_seq ?_
        refine c_region ?_
        refine st (v := .int .i64 0) (x_assign .const) ?_
        refine c_nil ?_
        refine n_then ?_
        refine c_ret ?_
        refine r_then ?_
        refine leave_ret (res_one (v := .int .i64 0) rfl (.mk rfl rfl)) ?_
        rw [rdI_bad (by first | (left; exact hng.1 (by omega)) | (right; left; omega) | (right; right; omega))]
        exact ⟨rfl, hs14⟩
      · have hp11 : ¬ (((((most % 18446744073709551616).toNat : Nat) : Int) : Int) < (((rdU cur bad).1 : Nat) : Int)) := of_decide_eq_false hc11
        refine c_cond_f (t := false) (.tmp rfl (congrArg Value.bool hc11)) rfl ?_
        refine c_skip ?_
        refine n_then ?_
        refine c_seq ?_
        refine c_region ?_
        refine st (v := .int .u64 (((rdU cur bad).1 : Nat) : Int)) (x_move (.tmp rfl rfl)) ?_
        refine st (v := .int .i64 (((rdU cur bad).1 : Nat) : Int)) (x_conv (k := .u64) (a := (((rdU cur bad).1 : Nat) : Int)) Try.underlying37 Try.underlying3 (.tmp rfl rfl) (w64 (by omega) (by omega))) ?_
        refine st (v := .int .i64 (((rdU cur bad).1 : Nat) : Int)) (x_assign (.tmp rfl rfl)) ?_
        refine c_nil ?_
        refine n_then ?_
        refine c_ret ?_
        refine leave_ret (res_one (v := .int .i64 (((rdU cur bad).1 : Nat) : Int)) rfl (.mk rfl rfl)) ?_
        have hb9 : (rdU cur bad).2.2 = false := by cases hb : (rdU cur bad).2.2 with | false => rfl | true => exact absurd (hng.2 hb) (by omega)
        have hs9 := hs2
        rw [hb9] at hs9
        rw [rdI_good hb9 (by omega) (by omega)]
        exact ⟨rfl, hs9⟩

set_option maxHeartbeats 8000000 in
theorem rbytes_own {H : Hp} {w : World} {L : List Res} {g : Nat} {A : Option Addr} {n c : Nat} {bs cur : List Nat} {bad : Bool} (hs : St H w (obj g 50 [.slice A n c, .int .i64 (atOf n cur bad)] :: L)) (hp : Bs H A n c bs) (hsuf : Suf bs cur) (hn : n ≤ 140737488355320) (most : Int) (hm1 : -9223372036854775808 ≤ most) (hm2 : most ≤ 9223372036854775807) : Calls Try.prog 25 #[.pointer (some ⟨g, 0, none⟩), .int .i64 most] w (fun e w' => ∃ A' n' c', e = .returned (.slice A' n' c') ∧ Bs H A' n' c' (rdB cur bad most).1 ∧ St H w' (obj g 50 [.slice A n c, .int .i64 (atOf n (rdB cur bad most).2.1 (rdB cur bad most).2.2)] :: L)) := by
  refine enter (args := [.pointer (some ⟨g, 0, none⟩), .int .i64 most]) (N := 56) Try.func25 rfl rfl rfl ?_
  have hlen := hp.len
  have hle := hp.le
  have hl := hsuf.len
  have hab := atOf_bound (bad := bad) (show cur.length ≤ n by omega)
  refine c_seq ?_
  refine c_region ?_
  refine st (v := .slice none 0 0) (x_assign .const) ?_
  refine c_nil ?_
  refine n_then ?_
  refine c_seq ?_
  refine c_region ?_
  refine st (v := .pointer (some ⟨g, 0, none⟩)) (x_move (.tmp rfl rfl)) ?_
  refine st (v := .int .i64 most) (x_move (.tmp rfl rfl)) ?_
  refine st_c cb24 .func (evs2 (.tmp rfl rfl) (.tmp rfl rfl)) (rint_own hs hp (hsuf) hn most (by omega) (by omega)) ?_
  rintro e w1 ⟨rfl, hs2⟩
  refine ⟨_, rfl, ?_⟩
  have := rdI_le cur bad most (by omega)
  refine st (v := .int .i64 (((rdI cur bad most).1 : Nat) : Int)) (x_assign (.tmp rfl rfl)) ?_
  refine c_nil ?_
  refine n_then ?_
  refine c_seq ?_
  refine c_seq ?_
  refine q_region mixed hs2 (by kernel_rfl) ?_
  have hl2 := (hsuf.rdI bad most).len; have hng := atOf_neg (n := n) (cur := (rdI cur bad most).2.1) (bad := (rdI cur bad most).2.2) (by omega); have hab2 := atOf_bound (n := n) (cur := (rdI cur bad most).2.1) (bad := (rdI cur bad most).2.2) (by omega); have hq2 := (atOf_or n (rdI cur bad most).2.1 (rdI cur bad most).2.2).imp (·.2) (·.2)
  refine q_st (v := .pointer (some ⟨g, 0, none⟩)) (fun w hs => (x_move (.tmp rfl rfl))) ?_
  refine q_st (v := .pointer (some ⟨g, 0, none⟩)) (fun w hs => (x_nilCheck (.tmp rfl rfl))) ?_
  refine q_st (v := .pointer (some ⟨g, 0 + 1, none⟩)) (fun w hs => (fa50_1 (.tmp rfl rfl))) ?_
  refine q_st (v := .int .i64 (atOf n (rdI cur bad most).2.1 (rdI cur bad most).2.2)) (fun w hs => (ld3 (.tmp rfl rfl) (hs.cell 0 rfl (0 + 1) rfl))) ?_
  refine q_st (v := .bool (decide (((atOf n (rdI cur bad most).2.1 (rdI cur bad most).2.2) : Int) < 0))) (fun w hs => (x_lss (k := .i64) (a := (atOf n (rdI cur bad most).2.1 (rdI cur bad most).2.2)) (b := 0) (.tmp rfl rfl) .const)) ?_
  refine q_st (v := .bool (decide (((atOf n (rdI cur bad most).2.1 (rdI cur bad most).2.2) : Int) < 0))) (fun w hs => (x_move (.tmp rfl rfl))) ?_
  rcases Bool.eq_false_or_eq_true (decide (((atOf n (rdI cur bad most).2.1 (rdI cur bad most).2.2) : Int) < 0)) with hc3 | hc3
  · have hp3 : ((atOf n (rdI cur bad most).2.1 (rdI cur bad most).2.2) : Int) < 0 := of_decide_eq_true hc3
    refine q_no (yl (dj := 15) (b := true) rfl rfl (congrArg Value.bool hc3)) rfl ?_
    refine q_no (yl (dj := 15) (b := true) rfl rfl (congrArg Value.bool hc3)) rfl ?_
    refine q_no (yl (dj := 15) (b := true) rfl rfl (congrArg Value.bool hc3)) rfl ?_
    refine q_no (yl (dj := 15) (b := true) rfl rfl (congrArg Value.bool hc3)) rfl ?_
    refine q_no (yl (dj := 15) (b := true) rfl rfl (congrArg Value.bool hc3)) rfl ?_
    refine q_no (yl (dj := 15) (b := true) rfl rfl (congrArg Value.bool hc3)) rfl ?_
    refine q_no (yl (dj := 15) (b := true) rfl rfl (congrArg Value.bool hc3)) rfl ?_
    refine q_no (yl (dj := 15) (b := true) rfl rfl (congrArg Value.bool hc3)) rfl ?_
    refine q_no (yl (dj := 15) (b := true) rfl rfl (congrArg Value.bool hc3)) rfl ?_
    refine q_no (yl (dj := 15) (b := true) rfl rfl (congrArg Value.bool hc3)) rfl ?_
    refine q_no (yl (dj := 15) (b := true) rfl rfl (congrArg Value.bool hc3)) rfl ?_
    refine q_no (yl (dj := 15) (b := true) rfl rfl (congrArg Value.bool hc3)) rfl ?_
    refine q_st (v := .bool true) (fun w hs => (x_pick_t (.tmp rfl (congrArg Value.bool hc3)) .const)) ?_
    refine q_nil ?_
    intro w hs4
    refine n_then ?_
    refine c_cond_t (t := true) (.tmp rfl rfl) rfl ?_
    refine c_seq ?_
    refine c_region ?_
    refine st (v := .pointer (some ⟨g, 0, none⟩)) (x_move (.tmp rfl rfl)) ?_
    refine st (v := .pointer (some ⟨g, 0, none⟩)) (x_nilCheck (.tmp rfl rfl)) ?_
    refine st (v := .pointer (some ⟨g, 0 + 1, none⟩)) (fa50_1 (.tmp rfl rfl)) ?_
    refine st_m0 (sto3 (cs' := [.slice A n c, .int .i64 (-1)]) (i := 0 + 1) hs4 (v := .int .i64 (-1)) (.tmp rfl rfl) .const rfl (Nat.le_of_ble_eq_true rfl) one1 rfl) ?_
    rintro w5 hs7
    refine c_nil ?_
    refine n_then ?_
    refine c_seq ?_
    refine c_region ?_
    refine st (v := .slice none 0 0) (x_assign .const) ?_
    refine c_nil ?_
    refine n_then ?_
    refine c_ret ?_
    refine r_then ?_
    refine leave_ret (res_one (v := .slice none 0 0) rfl (.mk rfl rfl)) ?_
    rcases atOf_or n (rdI cur bad most).2.1 (rdI cur bad most).2.2 with ⟨hb9, hx9⟩ | ⟨hb9, hx9⟩
    · rw [rdB_bad (.inl hb9)]; exact ⟨_, _, _, rfl, Bs.nil H none, hs7⟩
    · rw [rdB_bad (.inr (by omega))]; exact ⟨_, _, _, rfl, Bs.nil H none, hs7⟩
  · have hp3 : ¬ (((atOf n (rdI cur bad most).2.1 (rdI cur bad most).2.2) : Int) < 0) := of_decide_eq_false hc3
    refine q_yes (yl (dj := 15) (b := false) rfl rfl (congrArg Value.bool hc3)) ?_
    refine q_st (v := .int .i64 (((rdI cur bad most).1 : Nat) : Int)) (fun w hs => (x_move (.tmp rfl rfl))) ?_
    refine q_yes (yl (dj := 15) (b := false) rfl rfl (congrArg Value.bool hc3)) ?_
    refine q_st (v := .pointer (some ⟨g, 0, none⟩)) (fun w hs => (x_move (.tmp rfl rfl))) ?_
    refine q_yes (yl (dj := 15) (b := false) rfl rfl (congrArg Value.bool hc3)) ?_
    refine q_st (v := .pointer (some ⟨g, 0, none⟩)) (fun w hs => (x_nilCheck (.tmp rfl rfl))) ?_
    refine q_yes (yl (dj := 15) (b := false) rfl rfl (congrArg Value.bool hc3)) ?_
    refine q_st (v := .pointer (some ⟨g, 0 + 0, none⟩)) (fun w hs => (fa50_0 (.tmp rfl rfl))) ?_
    refine q_yes (yl (dj := 15) (b := false) rfl rfl (congrArg Value.bool hc3)) ?_
    refine q_st (v := .slice A n c) (fun w hs => (ld22 (.tmp rfl rfl) (hs.cell 0 rfl (0 + 0) rfl))) ?_
    refine q_yes (yl (dj := 15) (b := false) rfl rfl (congrArg Value.bool hc3)) ?_
    refine q_st (v := .int .i64 ((n : Nat) : Int)) (fun w hs => (x_len (n := n) Try.underlying22 (.tmp rfl rfl))) ?_
    refine q_yes (yl (dj := 15) (b := false) rfl rfl (congrArg Value.bool hc3)) ?_
    refine q_st (v := .pointer (some ⟨g, 0, none⟩)) (fun w hs => (x_move (.tmp rfl rfl))) ?_
    refine q_yes (yl (dj := 15) (b := false) rfl rfl (congrArg Value.bool hc3)) ?_
    refine q_st (v := .pointer (some ⟨g, 0, none⟩)) (fun w hs => (x_nilCheck (.tmp rfl rfl))) ?_
    refine q_yes (yl (dj := 15) (b := false) rfl rfl (congrArg Value.bool hc3)) ?_
    refine q_st (v := .pointer (some ⟨g, 0 + 1, none⟩)) (fun w hs => (fa50_1 (.tmp rfl rfl))) ?_
    refine q_yes (yl (dj := 15) (b := false) rfl rfl (congrArg Value.bool hc3)) ?_
    refine q_st (v := .int .i64 (atOf n (rdI cur bad most).2.1 (rdI cur bad most).2.2)) (fun w hs => (ld3 (.tmp rfl rfl) (hs.cell 0 rfl (0 + 1) rfl))) ?_
    refine q_yes (yl (dj := 15) (b := false) rfl rfl (congrArg Value.bool hc3)) ?_
    refine q_st (v := .int .i64 (((n : Nat) : Int) - (atOf n (rdI cur bad most).2.1 (rdI cur bad most).2.2))) (fun w hs => (x_sub (k := .i64) (a := ((n : Nat) : Int)) (b := (atOf n (rdI cur bad most).2.1 (rdI cur bad most).2.2)) (.tmp rfl rfl) (.tmp rfl rfl) (w64 (by omega) (by omega)))) ?_
    refine q_yes (yl (dj := 15) (b := false) rfl rfl (congrArg Value.bool hc3)) ?_
    refine q_st (v := .bool (decide (((((n : Nat) : Int) - (atOf n (rdI cur bad most).2.1 (rdI cur bad most).2.2)) : Int) < (((rdI cur bad most).1 : Nat) : Int)))) (fun w hs => (x_gtr (k := .i64) (a := (((rdI cur bad most).1 : Nat) : Int)) (b := (((n : Nat) : Int) - (atOf n (rdI cur bad most).2.1 (rdI cur bad most).2.2))) (.tmp rfl rfl) (.tmp rfl rfl))) ?_
    refine q_st (v := .bool (decide (((((n : Nat) : Int) - (atOf n (rdI cur bad most).2.1 (rdI cur bad most).2.2)) : Int) < (((rdI cur bad most).1 : Nat) : Int)))) (fun w hs => (x_pick_f (.tmp rfl (congrArg Value.bool hc3)) (.tmp rfl rfl))) ?_
    refine q_nil ?_
    intro w hs8
    refine n_then ?_
    rcases Bool.eq_false_or_eq_true (decide (((((n : Nat) : Int) - (atOf n (rdI cur bad most).2.1 (rdI cur bad most).2.2)) : Int) < (((rdI cur bad most).1 : Nat) : Int))) with hc9 | hc9
    · have hp9 : ((((n : Nat) : Int) - (atOf n (rdI cur bad most).2.1 (rdI cur bad most).2.2)) : Int) < (((rdI cur bad most).1 : Nat) : Int) := of_decide_eq_true hc9
      refine c_cond_t (t := true) (.tmp rfl (congrArg Value.bool hc9)) rfl ?_
      refine c_seq ?_
      refine c_region ?_
      refine st (v := .pointer (some ⟨g, 0, none⟩)) (x_move (.tmp rfl rfl)) ?_
      refine st (v := .pointer (some ⟨g, 0, none⟩)) (x_nilCheck (.tmp rfl rfl)) ?_
      refine st (v := .pointer (some ⟨g, 0 + 1, none⟩)) (fa50_1 (.tmp rfl rfl)) ?_
      refine st_m0 (sto3 (cs' := [.slice A n c, .int .i64 (-1)]) (i := 0 + 1) hs8 (v := .int .i64 (-1)) (.tmp rfl rfl) .const rfl (Nat.le_of_ble_eq_true rfl) one1 rfl) ?_
      rintro w10 hs12
      refine c_nil ?_
      refine n_then ?_
      refine c_seq ?_
      refine c_region ?_
      refine st (v := .slice none 0 0) (x_assign .const) ?_
      refine c_nil ?_
      refine n_then ?_
      refine c_ret ?_
      refine r_then ?_
      refine leave_ret (res_one (v := .slice none 0 0) rfl (.mk rfl rfl)) ?_
      rcases atOf_or n (rdI cur bad most).2.1 (rdI cur bad most).2.2 with ⟨hb9, hx9⟩ | ⟨hb9, hx9⟩
      · rw [rdB_bad (.inl hb9)]; exact ⟨_, _, _, rfl, Bs.nil H none, hs12⟩
      · rw [rdB_bad (.inr (by omega))]; exact ⟨_, _, _, rfl, Bs.nil H none, hs12⟩
    · have hp9 : ¬ (((((n : Nat) : Int) - (atOf n (rdI cur bad most).2.1 (rdI cur bad most).2.2)) : Int) < (((rdI cur bad most).1 : Nat) : Int)) := of_decide_eq_false hc9
      refine c_cond_f (t := false) (.tmp rfl (congrArg Value.bool hc9)) rfl ?_
      refine c_skip ?_
      refine n_then ?_
      refine c_seq ?_
      refine q_region mixed hs8 (by kernel_rfl) ?_
      refine q_st (v := .pointer (some ⟨g, 0, none⟩)) (fun w hs => (x_move (.tmp rfl rfl))) ?_
      refine q_st (v := .pointer (some ⟨g, 0, none⟩)) (fun w hs => (x_nilCheck (.tmp rfl rfl))) ?_
      refine q_st (v := .pointer (some ⟨g, 0 + 0, none⟩)) (fun w hs => (fa50_0 (.tmp rfl rfl))) ?_
      refine q_st (v := .slice A n c) (fun w hs => (ld22 (.tmp rfl rfl) (hs.cell 0 rfl (0 + 0) rfl))) ?_
      refine q_st (v := .pointer (some ⟨g, 0, none⟩)) (fun w hs => (x_move (.tmp rfl rfl))) ?_
      refine q_st (v := .pointer (some ⟨g, 0, none⟩)) (fun w hs => (x_nilCheck (.tmp rfl rfl))) ?_
      refine q_st (v := .pointer (some ⟨g, 0 + 1, none⟩)) (fun w hs => (fa50_1 (.tmp rfl rfl))) ?_
      refine q_st (v := .int .i64 (atOf n (rdI cur bad most).2.1 (rdI cur bad most).2.2)) (fun w hs => (ld3 (.tmp rfl rfl) (hs.cell 0 rfl (0 + 1) rfl))) ?_
      refine q_st (v := .pointer (some ⟨g, 0, none⟩)) (fun w hs => (x_move (.tmp rfl rfl))) ?_
      refine q_st (v := .pointer (some ⟨g, 0, none⟩)) (fun w hs => (x_nilCheck (.tmp rfl rfl))) ?_
      refine q_st (v := .pointer (some ⟨g, 0 + 1, none⟩)) (fun w hs => (fa50_1 (.tmp rfl rfl))) ?_
      refine q_st (v := .int .i64 (atOf n (rdI cur bad most).2.1 (rdI cur bad most).2.2)) (fun w hs => (ld3 (.tmp rfl rfl) (hs.cell 0 rfl (0 + 1) rfl))) ?_
      refine q_st (v := .int .i64 (((rdI cur bad most).1 : Nat) : Int)) (fun w hs => (x_move (.tmp rfl rfl))) ?_
      refine q_st (v := .int .i64 ((atOf n (rdI cur bad most).2.1 (rdI cur bad most).2.2) + (((rdI cur bad most).1 : Nat) : Int))) (fun w hs => (x_add (k := .i64) (a := (atOf n (rdI cur bad most).2.1 (rdI cur bad most).2.2)) (b := (((rdI cur bad most).1 : Nat) : Int)) (.tmp rfl rfl) (.tmp rfl rfl) (w64 (by omega) (by omega)))) ?_
      have := hp.le
      refine q_st (v := .slice (cutA A c ((atOf n (rdI cur bad most).2.1 (rdI cur bad most).2.2).toNat) 1) (((atOf n (rdI cur bad most).2.1 (rdI cur bad most).2.2) + (((rdI cur bad most).1 : Nat) : Int)).toNat - (atOf n (rdI cur bad most).2.1 (rdI cur bad most).2.2).toNat) (c - (atOf n (rdI cur bad most).2.1 (rdI cur bad most).2.2).toNat)) (fun w hs => (bs_lh Try.underlying22 inf5 (a := (atOf n (rdI cur bad most).2.1 (rdI cur bad most).2.2)) (b := ((atOf n (rdI cur bad most).2.1 (rdI cur bad most).2.2) + (((rdI cur bad most).1 : Nat) : Int))) (.tmp rfl rfl) (.tmp rfl rfl) (.tmp rfl rfl) (by omega) (by omega) (by omega))) ?_
      refine q_st (v := .slice (cutA A c ((atOf n (rdI cur bad most).2.1 (rdI cur bad most).2.2).toNat) 1) (((atOf n (rdI cur bad most).2.1 (rdI cur bad most).2.2) + (((rdI cur bad most).1 : Nat) : Int)).toNat - (atOf n (rdI cur bad most).2.1 (rdI cur bad most).2.2).toNat) (c - (atOf n (rdI cur bad most).2.1 (rdI cur bad most).2.2).toNat)) (fun w hs => (x_assign (.tmp rfl rfl))) ?_
      refine q_nil ?_
      intro w hs13
      refine n_then ?_
      refine c_seq ?_
      refine c_region ?_
      refine st (v := .pointer (some ⟨g, 0, none⟩)) (x_move (.tmp rfl rfl)) ?_
      refine st (v := .pointer (some ⟨g, 0, none⟩)) (x_nilCheck (.tmp rfl rfl)) ?_
      refine st (v := .pointer (some ⟨g, 0 + 1, none⟩)) (fa50_1 (.tmp rfl rfl)) ?_
      refine st (v := .int .i64 (atOf n (rdI cur bad most).2.1 (rdI cur bad most).2.2)) (ld3 (.tmp rfl rfl) (hs13.cell 0 rfl (0 + 1) rfl)) ?_
      refine st (v := .int .i64 (((rdI cur bad most).1 : Nat) : Int)) (x_move (.tmp rfl rfl)) ?_
      refine st (v := .int .i64 ((atOf n (rdI cur bad most).2.1 (rdI cur bad most).2.2) + (((rdI cur bad most).1 : Nat) : Int))) (x_add (k := .i64) (a := (atOf n (rdI cur bad most).2.1 (rdI cur bad most).2.2)) (b := (((rdI cur bad most).1 : Nat) : Int)) (.tmp rfl rfl) (.tmp rfl rfl) (w64 (by omega) (by omega))) ?_
      refine st (v := .pointer (some ⟨g, 0, none⟩)) (x_nilCheck (.tmp rfl rfl)) ?_
      refine st (v := .pointer (some ⟨g, 0 + 1, none⟩)) (fa50_1 (.tmp rfl rfl)) ?_
      refine st_m0 (sto3 (cs' := [.slice A n c, .int .i64 ((atOf n (rdI cur bad most).2.1 (rdI cur bad most).2.2) + (((rdI cur bad most).1 : Nat) : Int))]) (i := 0 + 1) hs13 (v := .int .i64 ((atOf n (rdI cur bad most).2.1 (rdI cur bad most).2.2) + (((rdI cur bad most).1 : Nat) : Int))) (.tmp rfl rfl) (.tmp rfl rfl) rfl (Nat.le_of_ble_eq_true rfl) one1 rfl) ?_
      rintro w14 hs16
      refine c_nil ?_
      refine n_then ?_
      refine c_seq ?_
      refine c_region ?_
      refine st (v := .slice (cutA A c ((atOf n (rdI cur bad most).2.1 (rdI cur bad most).2.2).toNat) 1) (((atOf n (rdI cur bad most).2.1 (rdI cur bad most).2.2) + (((rdI cur bad most).1 : Nat) : Int)).toNat - (atOf n (rdI cur bad most).2.1 (rdI cur bad most).2.2).toNat) (c - (atOf n (rdI cur bad most).2.1 (rdI cur bad most).2.2).toNat)) (x_move (.tmp rfl rfl)) ?_
      refine st (v := .slice (cutA A c ((atOf n (rdI cur bad most).2.1 (rdI cur bad most).2.2).toNat) 1) (((atOf n (rdI cur bad most).2.1 (rdI cur bad most).2.2) + (((rdI cur bad most).1 : Nat) : Int)).toNat - (atOf n (rdI cur bad most).2.1 (rdI cur bad most).2.2).toNat) (c - (atOf n (rdI cur bad most).2.1 (rdI cur bad most).2.2).toNat)) (x_assign (.tmp rfl rfl)) ?_
      refine c_nil ?_
      refine n_then ?_
      refine c_ret ?_
      refine leave_ret (res_one (v := .slice (cutA A c ((atOf n (rdI cur bad most).2.1 (rdI cur bad most).2.2).toNat) 1) (((atOf n (rdI cur bad most).2.1 (rdI cur bad most).2.2) + (((rdI cur bad most).1 : Nat) : Int)).toNat - (atOf n (rdI cur bad most).2.1 (rdI cur bad most).2.2).toNat) (c - (atOf n (rdI cur bad most).2.1 (rdI cur bad most).2.2).toNat)) rfl (.mk rfl rfl)) ?_
      rcases atOf_or n (rdI cur bad most).2.1 (rdI cur bad most).2.2 with ⟨hb9, hx9⟩ | ⟨hb9, hx9⟩
      · exfalso; omega
      · have hr9 := rdB_at hlen (hsuf.rdI bad most) (m := (rdI cur bad most).1) (by omega)
        rw [← hx9] at hr9
        have hp9 := ((hp.take (k := ((atOf n (rdI cur bad most).2.1 (rdI cur bad most).2.2) + (((rdI cur bad most).1 : Nat) : Int)).toNat) (by omega)).drop (k := (atOf n (rdI cur bad most).2.1 (rdI cur bad most).2.2).toNat) (by omega))
        have hs9 := hs16
        rw [rdB_good hb9 (by omega)]
        refine ⟨_, _, _, rfl, by rw [← hr9]; exact hp9, ?_⟩
        rw [atOf_false, List.length_drop, show (n : Int) - (((rdI cur bad most).2.1.length - (rdI cur bad most).1 : Nat) : Int) = atOf n (rdI cur bad most).2.1 (rdI cur bad most).2.2 + ((rdI cur bad most).1 : Int) by omega]
        exact hs9

set_option maxHeartbeats 8000000 in
theorem rleft_own {H : Hp} {w : World} {L : List Res} {g : Nat} {A : Option Addr} {n c : Nat} {bs cur : List Nat} {bad : Bool} (hs : St H w (obj g 50 [.slice A n c, .int .i64 (atOf n cur bad)] :: L)) (hp : Bs H A n c bs) (hsuf : Suf bs cur) (hn : n ≤ 140737488355320) : Calls Try.prog 26 #[.pointer (some ⟨g, 0, none⟩)] w (fun e w' => e = .returned (.int .i64 (if bad = true then 0 else ((cur.length : Nat) : Int))) ∧ St H w' (obj g 50 [.slice A n c, .int .i64 (atOf n cur bad)] :: L)) := by
  refine enter (args := [.pointer (some ⟨g, 0, none⟩)]) (N := 18) Try.func26 rfl rfl rfl ?_
  have hlen := hp.len
  have hle := hp.le
  have hl := hsuf.len
  have hab := atOf_bound (bad := bad) (show cur.length ≤ n by omega)
  have hng := atOf_neg (bad := bad) (show cur.length ≤ n by omega)
  refine c_seq ?_
  refine c_region ?_
  refine st (v := .int .i64 0) (x_assign .const) ?_
  refine c_nil ?_
  refine n_then ?_
  refine c_seq ?_
  refine c_seq ?_
  refine c_region ?_
  refine st (v := .pointer (some ⟨g, 0, none⟩)) (x_move (.tmp rfl rfl)) ?_
  refine st (v := .pointer (some ⟨g, 0, none⟩)) (x_nilCheck (.tmp rfl rfl)) ?_
  refine st (v := .pointer (some ⟨g, 0 + 1, none⟩)) (fa50_1 (.tmp rfl rfl)) ?_
  refine st (v := .int .i64 (atOf n cur bad)) (ld3 (.tmp rfl rfl) (hs.cell 0 rfl (0 + 1) rfl)) ?_
  refine st (v := .bool (decide (((atOf n cur bad) : Int) < 0))) (x_lss (k := .i64) (a := (atOf n cur bad)) (b := 0) (.tmp rfl rfl) .const) ?_
  refine c_nil ?_
  refine n_then ?_
  rcases Bool.eq_false_or_eq_true (decide (((atOf n cur bad) : Int) < 0)) with hc1 | hc1
  · have hp1 : ((atOf n cur bad) : Int) < 0 := of_decide_eq_true hc1
    refine c_cond_t (t := true) (.tmp rfl (congrArg Value.bool hc1)) rfl ?_
    refine c_seq ?_
    refine c_region ?_
    refine st (v := .int .i64 0) (x_assign .const) ?_
    refine c_nil ?_
    refine n_then ?_
    refine c_ret ?_
    refine r_then ?_
    refine leave_ret (res_one (v := .int .i64 0) rfl (.mk rfl rfl)) ?_
    have hbd : bad = true := by cases hb : bad with | true => rfl | false => exact absurd (hng.1 (by omega)) (by rw [hb]; simp)
    subst hbd
    exact ⟨rfl, hs⟩
  · have hp1 : ¬ (((atOf n cur bad) : Int) < 0) := of_decide_eq_false hc1
    refine c_cond_f (t := false) (.tmp rfl (congrArg Value.bool hc1)) rfl ?_
    refine c_skip ?_
    refine n_then ?_
    refine c_seq ?_
    refine q_region mixed hs (by kernel_rfl) ?_
    refine q_st (v := .pointer (some ⟨g, 0, none⟩)) (fun w hs => (x_move (.tmp rfl rfl))) ?_
    refine q_st (v := .pointer (some ⟨g, 0, none⟩)) (fun w hs => (x_nilCheck (.tmp rfl rfl))) ?_
    refine q_st (v := .pointer (some ⟨g, 0 + 0, none⟩)) (fun w hs => (fa50_0 (.tmp rfl rfl))) ?_
    refine q_st (v := .slice A n c) (fun w hs => (ld22 (.tmp rfl rfl) (hs.cell 0 rfl (0 + 0) rfl))) ?_
    refine q_st (v := .int .i64 ((n : Nat) : Int)) (fun w hs => (x_len (n := n) Try.underlying22 (.tmp rfl rfl))) ?_
    refine q_st (v := .pointer (some ⟨g, 0, none⟩)) (fun w hs => (x_move (.tmp rfl rfl))) ?_
    refine q_st (v := .pointer (some ⟨g, 0, none⟩)) (fun w hs => (x_nilCheck (.tmp rfl rfl))) ?_
    refine q_st (v := .pointer (some ⟨g, 0 + 1, none⟩)) (fun w hs => (fa50_1 (.tmp rfl rfl))) ?_
    refine q_st (v := .int .i64 (atOf n cur bad)) (fun w hs => (ld3 (.tmp rfl rfl) (hs.cell 0 rfl (0 + 1) rfl))) ?_
    refine q_st (v := .int .i64 (((n : Nat) : Int) - (atOf n cur bad))) (fun w hs => (x_sub (k := .i64) (a := ((n : Nat) : Int)) (b := (atOf n cur bad)) (.tmp rfl rfl) (.tmp rfl rfl) (w64 (by omega) (by omega)))) ?_
    refine q_st (v := .int .i64 (((n : Nat) : Int) - (atOf n cur bad))) (fun w hs => (x_assign (.tmp rfl rfl))) ?_
    refine q_nil ?_
    intro w hs2
    refine n_then ?_
    refine c_ret ?_
    refine leave_ret (res_one (v := .int .i64 (((n : Nat) : Int) - (atOf n cur bad))) rfl (.mk rfl rfl)) ?_
    have hbd : bad = false := by cases hb : bad with | false => rfl | true => exact absurd (hng.2 hb) (by omega)
    subst hbd
    exact ⟨congrArg (fun z => Ending.returned (Value.int .i64 z)) (by rw [atOf_false, if_neg (by simp)]; omega), hs2⟩

end Go.Proofs.Ytmjgphaobdplcaa
