/- Steps of the proofs over the functions of this seat, printed by a program (gen.py) and checked by Lean. -/
import Derived.Test.YtdllflllhjaimaaDoorTy
import Derived.Test.YtdllflllhjaimaaDoorFmM4b
import Derived.Test.YtdllflllhjaimaaDoorT2dawake
set_option linter.unusedVariables false
set_option linter.unusedSimpArgs false
namespace Go.Proofs.YtdllflllhjaimaaDoor
open Go Go.FM Go.Proofs
attribute [local irreducible] wpList wpQuiet Code.wp Calls
set_option maxHeartbeats 8000000 in
theorem sets_spec {H : Hp} {w : World} {L : List Res} (hs : St H w L) (htab : Tab H) (s : Nat) (i n : Int) (b_s : s < 65536) (b_i : -9223372036854775808 ≤ i ∧ i ≤ 9223372036854775807) (b_n : -9223372036854775808 ≤ n ∧ n ≤ 9223372036854775807) : Calls Tryd.prog 6 #[.int .u16 ((s : Nat) : Int), .int .i64 i, .int .i64 n] w (fun e w' => e = .returned (.bool true) ∧ St H w' L) := by
  refine enter (args := [.int .u16 ((s : Nat) : Int), .int .i64 i, .int .i64 n]) (N := 102) Tryd.func6 rfl rfl rfl ?_
  refine c_seq ?_
  refine c_region ?_
  refine st (v := .bool false) (x_assign .const) ?_
  refine c_nil ?_
  refine n_then ?_
  refine c_seq ?_
  refine c_seq ?_
  refine c_region ?_
  refine st_c cb9 .func (evs0 ) (awake_spec hs htab) ?_
  rintro e w1 ⟨rfl, hs2⟩
  refine ⟨_, rfl, ?_⟩
  refine st (v := .bool false) (x_not (b := true) (.tmp rfl rfl)) ?_
  refine st (v := .bool false) (x_move (.tmp rfl rfl)) ?_
  refine st (v := .bool false) (x_pick_f (.tmp rfl rfl) .const) ?_
  refine c_nil ?_
  refine n_then ?_
  refine c_cond_f (t := false) (.tmp rfl rfl) rfl ?_
  refine c_skip ?_
  refine n_then ?_
  refine c_seq ?_
  refine c_region ?_
  have hll := lst_length s
  have hpl : cnt s ≤ 16 := pc_le 16 s
  refine st (v := .int .u16 ((s : Nat) : Int)) (x_move (.tmp rfl rfl)) ?_
  refine st_c cb11 .func (evs1 (.tmp rfl rfl)) (list_spec hs2 htab s b_s) ?_
  rintro e w4 ⟨v3, rfl, ok5, hs6⟩
  refine ⟨_, rfl, ?_⟩
  refine st (v := v3) (x_assign (.tmp rfl rfl)) ?_
  refine c_nil ?_
  refine n_then ?_
  refine c_seq ?_
  refine c_region ?_
  refine st (v := .int .u16 ((s : Nat) : Int)) (x_move (.tmp rfl rfl)) ?_
  refine st_c cb15 .func (evs1 (.tmp rfl rfl)) (rlist_spec hs6 s b_s) ?_
  rintro e w9 ⟨v8, rfl, ok10, hs11⟩
  refine ⟨_, rfl, ?_⟩
  refine st (v := v8) (x_assign (.tmp rfl rfl)) ?_
  refine c_nil ?_
  refine n_then ?_
  refine c_seq ?_
  refine c_seq ?_
  refine c_region ?_
  refine st (v := v3) (x_move (.tmp rfl rfl)) ?_
  obtain ⟨A13, c14, hv15, hc16⟩ := ok5.slice
  refine st (v := .int .i64 (((lst s).length : Nat) : Int)) (x_len (n := (lst s).length) Tryd.underlying28 (.tmp rfl hv15)) ?_
  refine st (v := v8) (x_move (.tmp rfl rfl)) ?_
  obtain ⟨A17, c18, hv19, hc20⟩ := ok10.slice
  refine st (v := .int .i64 (((lst s).length : Nat) : Int)) (x_len (n := (lst s).length) Tryd.underlying28 (.tmp rfl hv19)) ?_
  refine st (v := .bool (decide (((((lst s).length : Nat) : Int) : Int) ≠ (((lst s).length : Nat) : Int)))) (x_neq (k := .i64) (a := (((lst s).length : Nat) : Int)) (b := (((lst s).length : Nat) : Int)) (.tmp rfl rfl) (.tmp rfl rfl)) ?_
  refine st (v := .bool false) (x_move (.tmp rfl (congrArg Value.bool (show (decide (((((lst s).length : Nat) : Int) : Int) ≠ (((lst s).length : Nat) : Int))) = false from by simp)))) ?_
  refine g_yes (yl (dj := 24) (b := false) rfl rfl rfl) ?_
  refine st (v := .int .u16 ((s : Nat) : Int)) (x_move (.tmp rfl rfl)) ?_
  refine g_yes (yl (dj := 24) (b := false) rfl rfl rfl) ?_
  refine st_c cb10 .func (evs1 (.tmp rfl rfl)) (count_spec hs11 s b_s) ?_
  rintro e w21 ⟨rfl, hs22⟩
  refine ⟨_, rfl, ?_⟩
  refine g_yes (yl (dj := 24) (b := false) rfl rfl rfl) ?_
  refine st (v := v8) (x_move (.tmp rfl rfl)) ?_
  refine g_yes (yl (dj := 24) (b := false) rfl rfl rfl) ?_
  obtain ⟨A23, c24, hv25, hc26⟩ := ok10.slice
  refine st (v := .int .i64 (((lst s).length : Nat) : Int)) (x_len (n := (lst s).length) Tryd.underlying28 (.tmp rfl hv25)) ?_
  refine g_yes (yl (dj := 24) (b := false) rfl rfl rfl) ?_
  refine st (v := .bool (decide ((((cnt s : Nat) : Int) : Int) ≠ (((lst s).length : Nat) : Int)))) (x_neq (k := .i64) (a := ((cnt s : Nat) : Int)) (b := (((lst s).length : Nat) : Int)) (.tmp rfl rfl) (.tmp rfl rfl)) ?_
  refine st (v := .bool (decide ((((cnt s : Nat) : Int) : Int) ≠ (((lst s).length : Nat) : Int)))) (x_pick_f (.tmp rfl rfl) (.tmp rfl rfl)) ?_
  refine st (v := .bool (decide ((((cnt s : Nat) : Int) : Int) ≠ (((lst s).length : Nat) : Int)))) (x_move (.tmp rfl rfl)) ?_
  rcases Bool.eq_false_or_eq_true (decide ((((cnt s : Nat) : Int) : Int) ≠ (((lst s).length : Nat) : Int))) with hc27 | hc27
  · have hp27 : (((cnt s : Nat) : Int) : Int) ≠ (((lst s).length : Nat) : Int) := of_decide_eq_true hc27
    refine g_no (yl (dj := 31) (b := true) rfl rfl (congrArg Value.bool hc27)) rfl ?_
    refine g_no (yl (dj := 31) (b := true) rfl rfl (congrArg Value.bool hc27)) rfl ?_
    refine g_no (yl (dj := 31) (b := true) rfl rfl (congrArg Value.bool hc27)) rfl ?_
    refine g_no (yl (dj := 31) (b := true) rfl rfl (congrArg Value.bool hc27)) rfl ?_
    refine g_no (yl (dj := 31) (b := true) rfl rfl (congrArg Value.bool hc27)) rfl ?_
    refine g_no (yl (dj := 31) (b := true) rfl rfl (congrArg Value.bool hc27)) rfl ?_
    refine g_no (yl (dj := 31) (b := true) rfl rfl (congrArg Value.bool hc27)) rfl ?_
    refine st (v := .bool true) (x_pick_t (.tmp rfl (congrArg Value.bool hc27)) .const) ?_
    refine st (v := .bool true) (x_move (.tmp rfl rfl)) ?_
    refine g_no (yl (dj := 40) (b := true) rfl rfl rfl) rfl ?_
    refine g_no (yl (dj := 40) (b := true) rfl rfl rfl) rfl ?_
    refine g_no (yl (dj := 40) (b := true) rfl rfl rfl) rfl ?_
    refine g_no (yl (dj := 40) (b := true) rfl rfl rfl) rfl ?_
    refine g_no (yl (dj := 40) (b := true) rfl rfl rfl) rfl ?_
    refine g_no (yl (dj := 40) (b := true) rfl rfl rfl) rfl ?_
    refine g_no (yl (dj := 40) (b := true) rfl rfl rfl) rfl ?_
    refine st (v := .bool true) (x_pick_t (.tmp rfl rfl) .const) ?_
    refine st (v := .bool true) (x_move (.tmp rfl rfl)) ?_
    refine g_no (yl (dj := 49) (b := true) rfl rfl rfl) rfl ?_
    refine g_no (yl (dj := 49) (b := true) rfl rfl rfl) rfl ?_
    refine g_no (yl (dj := 49) (b := true) rfl rfl rfl) rfl ?_
    refine g_no (yl (dj := 49) (b := true) rfl rfl rfl) rfl ?_
    refine g_no (yl (dj := 49) (b := true) rfl rfl rfl) rfl ?_
    refine g_no (yl (dj := 49) (b := true) rfl rfl rfl) rfl ?_
    refine g_no (yl (dj := 49) (b := true) rfl rfl rfl) rfl ?_
    refine st (v := .bool true) (x_pick_t (.tmp rfl rfl) .const) ?_
    refine c_nil ?_
    refine n_then ?_
    refine c_cond_t (t := true) (.tmp rfl rfl) rfl ?_
    refine c_seq ?_
    refine c_region ?_
    refine st (v := .bool false) (x_assign .const) ?_
    refine c_nil ?_
    refine n_then ?_
    refine c_ret ?_
    refine r_then ?_
    refine leave_ret (res_one (v := .bool false) rfl (.mk rfl rfl)) ?_
    exfalso
    omega
  · have hp27 : ¬ ((((cnt s : Nat) : Int) : Int) ≠ (((lst s).length : Nat) : Int)) := of_decide_eq_false hc27
    refine g_yes (yl (dj := 31) (b := false) rfl rfl (congrArg Value.bool hc27)) ?_
    refine st (v := .int .u16 ((s : Nat) : Int)) (x_move (.tmp rfl rfl)) ?_
    refine g_yes (yl (dj := 31) (b := false) rfl rfl (congrArg Value.bool hc27)) ?_
    refine st (v := .int .i64 i) (x_move (.tmp rfl rfl)) ?_
    refine g_yes (yl (dj := 31) (b := false) rfl rfl (congrArg Value.bool hc27)) ?_
    refine st_c cb16 .func (evs2 (.tmp rfl rfl) (.tmp rfl rfl)) (has_spec hs22 s i b_s (by omega)) ?_
    rintro e w28 ⟨rfl, hs29⟩
    refine ⟨_, rfl, ?_⟩
    refine g_yes (yl (dj := 31) (b := false) rfl rfl (congrArg Value.bool hc27)) ?_
    refine st (v := .int .u16 ((s : Nat) : Int)) (x_move (.tmp rfl rfl)) ?_
    refine g_yes (yl (dj := 31) (b := false) rfl rfl (congrArg Value.bool hc27)) ?_
    refine st (v := .int .i64 i) (x_move (.tmp rfl rfl)) ?_
    refine g_yes (yl (dj := 31) (b := false) rfl rfl (congrArg Value.bool hc27)) ?_
    refine st_c cb17 .func (evs2 (.tmp rfl rfl) (.tmp rfl rfl)) (rhas_spec hs29 s i b_s (by omega)) ?_
    rintro e w30 ⟨rfl, hs31⟩
    refine ⟨_, rfl, ?_⟩
    refine g_yes (yl (dj := 31) (b := false) rfl rfl (congrArg Value.bool hc27)) ?_
    refine st (v := .bool ((has s i) != (has s i))) (x_neqB Tryd.underlying4 (.tmp rfl rfl) (.tmp rfl rfl)) ?_
    refine st (v := .bool false) (x_pick_f (.tmp rfl (congrArg Value.bool hc27)) (.tmp rfl (congrArg Value.bool (show ((has s i) != (has s i)) = false from by simp)))) ?_
    refine st (v := .bool false) (x_move (.tmp rfl rfl)) ?_
    refine g_yes (yl (dj := 40) (b := false) rfl rfl rfl) ?_
    refine st (v := .int .u16 ((s : Nat) : Int)) (x_move (.tmp rfl rfl)) ?_
    refine g_yes (yl (dj := 40) (b := false) rfl rfl rfl) ?_
    refine st (v := .int .i64 i) (x_move (.tmp rfl rfl)) ?_
    refine g_yes (yl (dj := 40) (b := false) rfl rfl rfl) ?_
    refine st_c cb12 .func (evs2 (.tmp rfl rfl) (.tmp rfl rfl)) (with_spec hs31 s i b_s (by omega)) ?_
    rintro e w32 ⟨rfl, hs33⟩
    refine ⟨_, rfl, ?_⟩
    refine g_yes (yl (dj := 40) (b := false) rfl rfl rfl) ?_
    refine st (v := .int .u16 ((s : Nat) : Int)) (x_move (.tmp rfl rfl)) ?_
    refine g_yes (yl (dj := 40) (b := false) rfl rfl rfl) ?_
    refine st (v := .int .i64 i) (x_move (.tmp rfl rfl)) ?_
    refine g_yes (yl (dj := 40) (b := false) rfl rfl rfl) ?_
    refine st_c cb18 .func (evs2 (.tmp rfl rfl) (.tmp rfl rfl)) (rwith_spec hs33 s i b_s (by omega)) ?_
    rintro e w34 ⟨rfl, hs35⟩
    refine ⟨_, rfl, ?_⟩
    refine g_yes (yl (dj := 40) (b := false) rfl rfl rfl) ?_
    refine st (v := .bool (decide (((((wth s i) : Nat) : Int) : Int) ≠ (((wth s i) : Nat) : Int)))) (x_neq (k := .u16) (a := (((wth s i) : Nat) : Int)) (b := (((wth s i) : Nat) : Int)) (.tmp rfl rfl) (.tmp rfl rfl)) ?_
    refine st (v := .bool false) (x_pick_f (.tmp rfl rfl) (.tmp rfl (congrArg Value.bool (show (decide (((((wth s i) : Nat) : Int) : Int) ≠ (((wth s i) : Nat) : Int))) = false from by simp)))) ?_
    refine st (v := .bool false) (x_move (.tmp rfl rfl)) ?_
    refine g_yes (yl (dj := 49) (b := false) rfl rfl rfl) ?_
    refine st (v := .int .u16 ((s : Nat) : Int)) (x_move (.tmp rfl rfl)) ?_
    refine g_yes (yl (dj := 49) (b := false) rfl rfl rfl) ?_
    refine st (v := .int .i64 i) (x_move (.tmp rfl rfl)) ?_
    refine g_yes (yl (dj := 49) (b := false) rfl rfl rfl) ?_
    refine st_c cb13 .func (evs2 (.tmp rfl rfl) (.tmp rfl rfl)) (without_spec hs35 s i b_s (by omega)) ?_
    rintro e w36 ⟨rfl, hs37⟩
    refine ⟨_, rfl, ?_⟩
    refine g_yes (yl (dj := 49) (b := false) rfl rfl rfl) ?_
    refine st (v := .int .u16 ((s : Nat) : Int)) (x_move (.tmp rfl rfl)) ?_
    refine g_yes (yl (dj := 49) (b := false) rfl rfl rfl) ?_
    refine st (v := .int .i64 i) (x_move (.tmp rfl rfl)) ?_
    refine g_yes (yl (dj := 49) (b := false) rfl rfl rfl) ?_
    refine st_c cb19 .func (evs2 (.tmp rfl rfl) (.tmp rfl rfl)) (rwithout_spec hs37 s i b_s (by omega)) ?_
    rintro e w38 ⟨rfl, hs39⟩
    refine ⟨_, rfl, ?_⟩
    refine g_yes (yl (dj := 49) (b := false) rfl rfl rfl) ?_
    refine st (v := .bool (decide (((((wto s i) : Nat) : Int) : Int) ≠ (((wto s i) : Nat) : Int)))) (x_neq (k := .u16) (a := (((wto s i) : Nat) : Int)) (b := (((wto s i) : Nat) : Int)) (.tmp rfl rfl) (.tmp rfl rfl)) ?_
    refine st (v := .bool false) (x_pick_f (.tmp rfl rfl) (.tmp rfl (congrArg Value.bool (show (decide (((((wto s i) : Nat) : Int) : Int) ≠ (((wto s i) : Nat) : Int))) = false from by simp)))) ?_
    refine c_nil ?_
    refine n_then ?_
    refine c_cond_f (t := false) (.tmp rfl rfl) rfl ?_
    refine c_skip ?_
    refine n_then ?_
    refine c_seq ?_
    refine c_seq ?_
    refine c_region ?_
    have hlz := least_lst s b_s
    refine st (v := .int .i64 0) (x_assign .const) ?_
    refine c_nil ?_
    refine n_then ?_
    refine c_block ?_
    refine c_loop (fun ρ w mm => ∃ (k : Nat), ρ 0 = .int .u16 ((s : Nat) : Int) ∧ ρ 2 = .int .i64 n ∧ ρ 7 = v3 ∧ ρ 8 = v8 ∧ ρ 9 = .int .i64 ((k : Nat) : Int) ∧ (k ≤ (lst s).length) ∧ (RowOk 1 v8 (lst s).length ((lst s).map encI)) ∧ (RowOk 1 v3 (lst s).length ((lst s).map encI)) ∧ St H w (row 3 1 v8 ((lst s).length) ((lst s).map encI) :: row 3 1 v3 ((lst s).length) ((lst s).map encI) :: L) ∧ mm = (lst s).length - k) _ ⟨0, rfl, rfl, rfl, rfl, rfl, (by omega), ok10, ok5, hs39, rfl⟩ ?_
    rintro ρ w mm ⟨k, hρ41, hρ42, hρ43, hρ44, hρ45, hk, ok1, ok2, hs46, rfl⟩
    refine c_seq ?_
    refine c_seq ?_
    refine c_region ?_
    refine st (v := .int .i64 ((k : Nat) : Int)) (x_move (.tmp rfl hρ45)) ?_
    refine st (v := v3) (x_move (.tmp rfl hρ43)) ?_
    obtain ⟨A47, c48, hv49, hc50⟩ := ok2.slice
    refine st (v := .int .i64 (((lst s).length : Nat) : Int)) (x_len (n := (lst s).length) Tryd.underlying28 (.tmp rfl hv49)) ?_
    refine st (v := .bool (decide ((((k : Nat) : Int) : Int) < (((lst s).length : Nat) : Int)))) (x_lss (k := .i64) (a := ((k : Nat) : Int)) (b := (((lst s).length : Nat) : Int)) (.tmp rfl rfl) (.tmp rfl rfl)) ?_
    refine c_nil ?_
    refine n_then ?_
    rcases Bool.eq_false_or_eq_true (decide ((((k : Nat) : Int) : Int) < (((lst s).length : Nat) : Int))) with hc51 | hc51
    · have hp51 : (((k : Nat) : Int) : Int) < (((lst s).length : Nat) : Int) := of_decide_eq_true hc51
      refine c_cond_t (t := true) (.tmp rfl (congrArg Value.bool hc51)) rfl ?_
      refine c_skip ?_
      refine n_then ?_
      refine c_seq ?_
      refine c_block ?_
      refine c_seq ?_
      refine q_region mixed hs46 (by kernel_rfl) ?_
      refine q_st (v := v3) (fun w hs => (x_move (.tmp rfl hρ43))) ?_
      refine q_st (v := .int .i64 ((k : Nat) : Int)) (fun w hs => (x_move (.tmp rfl hρ45))) ?_
      obtain ⟨g52, c53, hv54⟩ := ok2.pos (by omega)
      refine q_st (v := .pointer (some ⟨g52, (k), none⟩)) (fun w hs => (ixo28 (.tmp rfl hv54) rfl (i := ((k : Nat) : Int)) (.tmp rfl rfl) (by omega) (by omega) (by omega))) ?_
      obtain ⟨z55, hz56⟩ : ∃ x, (lst s)[k]? = some x := ⟨_, List.getElem?_eq_getElem (by omega)⟩
      refine q_st (v := .int .i64 ((z55 : Nat) : Int)) (fun w hs => (ld3 (.tmp rfl rfl) (hs.rowEnc (enc := encI) 1 rfl hv54 k hz56))) ?_
      refine q_st (v := v8) (fun w hs => (x_move (.tmp rfl hρ44))) ?_
      refine q_st (v := .int .i64 ((k : Nat) : Int)) (fun w hs => (x_move (.tmp rfl hρ45))) ?_
      obtain ⟨g57, c58, hv59⟩ := ok1.pos (by omega)
      refine q_st (v := .pointer (some ⟨g57, (k), none⟩)) (fun w hs => (ixo28 (.tmp rfl hv59) rfl (i := ((k : Nat) : Int)) (.tmp rfl rfl) (by omega) (by omega) (by omega))) ?_
      obtain ⟨z60, hz61⟩ : ∃ x, (lst s)[k]? = some x := ⟨_, List.getElem?_eq_getElem (by omega)⟩
      refine q_st (v := .int .i64 ((z60 : Nat) : Int)) (fun w hs => (ld3 (.tmp rfl rfl) (hs.rowEnc (enc := encI) 0 rfl hv59 k hz61))) ?_
      refine q_st (v := .bool (decide ((((z55 : Nat) : Int) : Int) ≠ ((z60 : Nat) : Int)))) (fun w hs => (x_neq (k := .i64) (a := ((z55 : Nat) : Int)) (b := ((z60 : Nat) : Int)) (.tmp rfl rfl) (.tmp rfl rfl))) ?_
      refine q_nil ?_
      intro w hs62
      refine n_then ?_
      have hc63 : (decide ((((z55 : Nat) : Int) : Int) ≠ ((z60 : Nat) : Int))) = false := (decide_eq_false (by have h1 := hz56; have h2 := hz61; rw [h1] at h2; injection h2 with h2; omega))
      refine c_cond_f (t := false) (.tmp rfl (congrArg Value.bool hc63)) rfl ?_
      refine c_skip ?_
      refine n_block ?_
      refine n_then ?_
      refine c_region ?_
      refine st (v := .int .i64 ((k : Nat) : Int)) (x_move (.tmp rfl hρ45)) ?_
      refine st (v := .int .i64 (((k : Nat) : Int) + 1)) (x_add (k := .i64) (a := ((k : Nat) : Int)) (b := 1) (.tmp rfl rfl) .const (w64 (by omega) (by omega))) ?_
      refine st (v := .int .i64 (((k : Nat) : Int) + 1)) (x_assign (.tmp rfl rfl)) ?_
      refine c_nil ?_
      refine n_then ⟨_, _, rfl, ?_, (k + 1), hρ41, hρ42, hρ43, hρ44, rfl, (by omega), ok1, ok2, hs62, rfl⟩
      omega
    · have hp51 : ¬ ((((k : Nat) : Int) : Int) < (((lst s).length : Nat) : Int)) := of_decide_eq_false hc51
      refine c_cond_f (t := false) (.tmp rfl (congrArg Value.bool hc51)) rfl ?_
      refine c_exit ?_
      refine x_then ?_
      refine x_then ?_
      refine x_here ?_
      refine n_then ?_
      refine c_seq ?_
      refine c_region ?_
      refine st (v := .int .i64 (-1)) (x_assign .const) ?_
      refine c_nil ?_
      refine n_then ?_
      refine c_seq ?_
      refine c_seq ?_
      refine c_region ?_
      refine st (v := v8) (x_move (.tmp rfl hρ44)) ?_
      obtain ⟨A64, c65, hv66, hc67⟩ := ok1.slice
      refine st (v := .int .i64 (((lst s).length : Nat) : Int)) (x_len (n := (lst s).length) Tryd.underlying28 (.tmp rfl hv66)) ?_
      refine st (v := .bool (decide ((0 : Int) < (((lst s).length : Nat) : Int)))) (x_gtr (k := .i64) (a := (((lst s).length : Nat) : Int)) (b := 0) (.tmp rfl rfl) .const) ?_
      refine c_nil ?_
      refine n_then ?_
      rcases Bool.eq_false_or_eq_true (decide ((0 : Int) < (((lst s).length : Nat) : Int))) with hc68 | hc68
      · have hp68 : (0 : Int) < (((lst s).length : Nat) : Int) := of_decide_eq_true hc68
        refine c_cond_t (t := true) (.tmp rfl (congrArg Value.bool hc68)) rfl ?_
        refine c_region ?_
        refine st (v := v8) (x_move (.tmp rfl hρ44)) ?_
        obtain ⟨g69, c70, hv71⟩ := ok1.pos (by omega)
        refine st (v := .pointer (some ⟨g69, (0), none⟩)) (ixo28 (.tmp rfl hv71) rfl (i := 0) .const (by omega) (by omega) (by omega)) ?_
        obtain ⟨z72, hz73⟩ : ∃ x, (lst s)[0]? = some x := ⟨_, List.getElem?_eq_getElem (by omega)⟩
        refine st (v := .int .i64 ((z72 : Nat) : Int)) (ld3 (.tmp rfl rfl) (hs46.rowEnc (enc := encI) 0 rfl hv71 0 hz73)) ?_
        refine st (v := .int .i64 ((z72 : Nat) : Int)) (x_assign (.tmp rfl rfl)) ?_
        refine c_nil ?_
        refine n_then ?_
        refine c_seq ?_
        refine c_region ?_
        refine st (v := .int .u16 ((s : Nat) : Int)) (x_move (.tmp rfl hρ41)) ?_
        refine st_c cb14 .func (evs1 (.tmp rfl rfl)) (least_spec hs46 htab s b_s) ?_
        rintro e w74 ⟨rfl, hs75⟩
        refine ⟨_, rfl, ?_⟩
        refine st (v := .int .i64 ((z72 : Nat) : Int)) (x_move (.tmp rfl rfl)) ?_
        refine st (v := .bool (decide (((least s) : Int) = ((z72 : Nat) : Int)))) (x_eql (k := .i64) (a := (least s)) (b := ((z72 : Nat) : Int)) (.tmp rfl rfl) (.tmp rfl rfl)) ?_
        refine st (v := .bool (decide (((least s) : Int) = ((z72 : Nat) : Int)))) (x_move (.tmp rfl rfl)) ?_
        have hc76 : (decide (((least s) : Int) = ((z72 : Nat) : Int))) = true := (decide_eq_true (by first | (rw [hlz, if_pos (by omega)]; simp_all) | (rw [hlz, if_neg (by omega)])))
        refine g_yes (yl (dj := 83) (b := true) rfl rfl (congrArg Value.bool hc76)) ?_
        refine st (v := .int .u16 ((s : Nat) : Int)) (x_move (.tmp rfl hρ41)) ?_
        refine g_yes (yl (dj := 83) (b := true) rfl rfl (congrArg Value.bool hc76)) ?_
        refine st (v := .int .i64 n) (x_move (.tmp rfl hρ42)) ?_
        refine g_yes (yl (dj := 83) (b := true) rfl rfl (congrArg Value.bool hc76)) ?_
        refine st_c cb8 .func (evs2 (.tmp rfl rfl) (.tmp rfl rfl)) (most_spec hs75 s n b_s (by omega)) ?_
        rintro e w77 ⟨rfl, hs78⟩
        refine ⟨_, rfl, ?_⟩
        refine g_yes (yl (dj := 83) (b := true) rfl rfl (congrArg Value.bool hc76)) ?_
        refine st (v := .int .i64 n) (x_move (.tmp rfl hρ42)) ?_
        refine g_yes (yl (dj := 83) (b := true) rfl rfl (congrArg Value.bool hc76)) ?_
        refine st (v := .bool (decide ((1 : Int) ≤ n))) (x_geq (k := .i64) (a := n) (b := 1) (.tmp rfl rfl) .const) ?_
        refine g_yes (yl (dj := 83) (b := true) rfl rfl (congrArg Value.bool hc76)) ?_
        refine st (v := .bool (decide ((1 : Int) ≤ n))) (x_move (.tmp rfl rfl)) ?_
        rcases Bool.eq_false_or_eq_true (decide ((1 : Int) ≤ n)) with hc79 | hc79
        · have hp79 : (1 : Int) ≤ n := of_decide_eq_true hc79
          refine g_yes (yl (dj := 89) (b := true) rfl rfl (congrArg Value.bool hc79)) ?_
          refine st (v := .int .i64 n) (x_move (.tmp rfl hρ42)) ?_
          refine g_yes (yl (dj := 89) (b := true) rfl rfl (congrArg Value.bool hc79)) ?_
          refine st (v := .bool (decide ((n : Int) ≤ 16))) (x_leq (k := .i64) (a := n) (b := 16) (.tmp rfl rfl) .const) ?_
          refine g_yes (yl (dj := 83) (b := true) rfl rfl (congrArg Value.bool hc76)) ?_
          refine st (v := .bool (decide ((n : Int) ≤ 16))) (x_pick_t (.tmp rfl (congrArg Value.bool hc79)) (.tmp rfl rfl)) ?_
          refine g_yes (yl (dj := 83) (b := true) rfl rfl (congrArg Value.bool hc76)) ?_
          refine st (v := .bool (decide ((n : Int) ≤ 16))) (x_move (.tmp rfl rfl)) ?_
          rcases Bool.eq_false_or_eq_true (decide ((n : Int) ≤ 16)) with hc80 | hc80
          · have hp80 : (n : Int) ≤ 16 := of_decide_eq_true hc80
            refine g_yes (yl (dj := 93) (b := true) rfl rfl (congrArg Value.bool hc80)) ?_
            refine st (v := v8) (x_move (.tmp rfl hρ44)) ?_
            refine g_yes (yl (dj := 93) (b := true) rfl rfl (congrArg Value.bool hc80)) ?_
            obtain ⟨A81, c82, hv83, hc84⟩ := ok1.slice
            refine st (v := .int .i64 (((lst s).length : Nat) : Int)) (x_len (n := (lst s).length) Tryd.underlying28 (.tmp rfl hv83)) ?_
            refine g_yes (yl (dj := 93) (b := true) rfl rfl (congrArg Value.bool hc80)) ?_
            refine st (v := .int .i64 (2 * (((lst s).length : Nat) : Int))) (x_mul (k := .i64) (a := 2) (b := (((lst s).length : Nat) : Int)) .const (.tmp rfl rfl) (w64 (by omega) (by omega))) ?_
            refine g_yes (yl (dj := 93) (b := true) rfl rfl (congrArg Value.bool hc80)) ?_
            refine st (v := .int .i64 n) (x_move (.tmp rfl hρ42)) ?_
            refine g_yes (yl (dj := 93) (b := true) rfl rfl (congrArg Value.bool hc80)) ?_
            refine st (v := .bool (decide ((n : Int) < (2 * (((lst s).length : Nat) : Int))))) (x_gtr (k := .i64) (a := (2 * (((lst s).length : Nat) : Int))) (b := n) (.tmp rfl rfl) (.tmp rfl rfl)) ?_
            refine g_yes (yl (dj := 83) (b := true) rfl rfl (congrArg Value.bool hc76)) ?_
            refine st (v := .bool (decide ((n : Int) < (2 * (((lst s).length : Nat) : Int))))) (x_pick_t (.tmp rfl (congrArg Value.bool hc80)) (.tmp rfl rfl)) ?_
            refine g_yes (yl (dj := 83) (b := true) rfl rfl (congrArg Value.bool hc76)) ?_
            refine st (v := .bool ((most s n) == (decide ((n : Int) < (2 * (((lst s).length : Nat) : Int)))))) (x_eqlB Tryd.underlying4 (.tmp rfl rfl) (.tmp rfl rfl)) ?_
            refine st (v := .bool ((most s n) == (decide ((n : Int) < (2 * (((lst s).length : Nat) : Int)))))) (x_pick_t (.tmp rfl (congrArg Value.bool hc76)) (.tmp rfl rfl)) ?_
            refine st (v := .bool ((most s n) == (decide ((n : Int) < (2 * (((lst s).length : Nat) : Int)))))) (x_assign (.tmp rfl rfl)) ?_
            refine c_nil ?_
            refine n_then ?_
            refine c_ret ?_
            refine leave_ret (res_one (v := .bool ((most s n) == (decide ((n : Int) < (2 * (((lst s).length : Nat) : Int)))))) rfl (.mk rfl rfl)) ?_
            exact ⟨ret_true (b := ((most s n) == (decide ((n : Int) < (2 * (((lst s).length : Nat) : Int)))))) (by simp only [most]; first | (rw [decide_eq_true_iff]; omega) | (simp; omega) | (rw [beq_iff_eq]; exact decide_eq_decide.2 (by omega)) | (simp only [beq_true, beq_false, Bool.not_eq_true', decide_eq_true_eq, decide_eq_false_iff_not]; omega)), hs78.drop.drop⟩
          · have hp80 : ¬ ((n : Int) ≤ 16) := of_decide_eq_false hc80
            refine g_no (yl (dj := 93) (b := false) rfl rfl (congrArg Value.bool hc80)) rfl ?_
            refine g_no (yl (dj := 93) (b := false) rfl rfl (congrArg Value.bool hc80)) rfl ?_
            refine g_no (yl (dj := 93) (b := false) rfl rfl (congrArg Value.bool hc80)) rfl ?_
            refine g_no (yl (dj := 93) (b := false) rfl rfl (congrArg Value.bool hc80)) rfl ?_
            refine g_no (yl (dj := 93) (b := false) rfl rfl (congrArg Value.bool hc80)) rfl ?_
            refine g_yes (yl (dj := 83) (b := true) rfl rfl (congrArg Value.bool hc76)) ?_
            refine st (v := .bool false) (x_pick_f (.tmp rfl (congrArg Value.bool hc80)) .const) ?_
            refine g_yes (yl (dj := 83) (b := true) rfl rfl (congrArg Value.bool hc76)) ?_
            refine st (v := .bool ((most s n) == false)) (x_eqlB Tryd.underlying4 (.tmp rfl rfl) (.tmp rfl rfl)) ?_
            refine st (v := .bool ((most s n) == false)) (x_pick_t (.tmp rfl (congrArg Value.bool hc76)) (.tmp rfl rfl)) ?_
            refine st (v := .bool ((most s n) == false)) (x_assign (.tmp rfl rfl)) ?_
            refine c_nil ?_
            refine n_then ?_
            refine c_ret ?_
            refine leave_ret (res_one (v := .bool ((most s n) == false)) rfl (.mk rfl rfl)) ?_
            exact ⟨ret_true (b := ((most s n) == false)) (by simp only [most]; first | (rw [decide_eq_true_iff]; omega) | (simp; omega) | (rw [beq_iff_eq]; exact decide_eq_decide.2 (by omega)) | (simp only [beq_true, beq_false, Bool.not_eq_true', decide_eq_true_eq, decide_eq_false_iff_not]; omega)), hs78.drop.drop⟩
        · have hp79 : ¬ ((1 : Int) ≤ n) := of_decide_eq_false hc79
          refine g_no (yl (dj := 89) (b := false) rfl rfl (congrArg Value.bool hc79)) rfl ?_
          refine g_no (yl (dj := 89) (b := false) rfl rfl (congrArg Value.bool hc79)) rfl ?_
          refine g_yes (yl (dj := 83) (b := true) rfl rfl (congrArg Value.bool hc76)) ?_
          refine st (v := .bool false) (x_pick_f (.tmp rfl (congrArg Value.bool hc79)) .const) ?_
          refine g_yes (yl (dj := 83) (b := true) rfl rfl (congrArg Value.bool hc76)) ?_
          refine st (v := .bool false) (x_move (.tmp rfl rfl)) ?_
          refine g_no (yl (dj := 93) (b := false) rfl rfl rfl) rfl ?_
          refine g_no (yl (dj := 93) (b := false) rfl rfl rfl) rfl ?_
          refine g_no (yl (dj := 93) (b := false) rfl rfl rfl) rfl ?_
          refine g_no (yl (dj := 93) (b := false) rfl rfl rfl) rfl ?_
          refine g_no (yl (dj := 93) (b := false) rfl rfl rfl) rfl ?_
          refine g_yes (yl (dj := 83) (b := true) rfl rfl (congrArg Value.bool hc76)) ?_
          refine st (v := .bool false) (x_pick_f (.tmp rfl rfl) .const) ?_
          refine g_yes (yl (dj := 83) (b := true) rfl rfl (congrArg Value.bool hc76)) ?_
          refine st (v := .bool ((most s n) == false)) (x_eqlB Tryd.underlying4 (.tmp rfl rfl) (.tmp rfl rfl)) ?_
          refine st (v := .bool ((most s n) == false)) (x_pick_t (.tmp rfl (congrArg Value.bool hc76)) (.tmp rfl rfl)) ?_
          refine st (v := .bool ((most s n) == false)) (x_assign (.tmp rfl rfl)) ?_
          refine c_nil ?_
          refine n_then ?_
          refine c_ret ?_
          refine leave_ret (res_one (v := .bool ((most s n) == false)) rfl (.mk rfl rfl)) ?_
          exact ⟨ret_true (b := ((most s n) == false)) (by simp only [most]; first | (rw [decide_eq_true_iff]; omega) | (simp; omega) | (rw [beq_iff_eq]; exact decide_eq_decide.2 (by omega)) | (simp only [beq_true, beq_false, Bool.not_eq_true', decide_eq_true_eq, decide_eq_false_iff_not]; omega)), hs78.drop.drop⟩
      · have hp68 : ¬ ((0 : Int) < (((lst s).length : Nat) : Int)) := of_decide_eq_false hc68
        refine c_cond_f (t := false) (.tmp rfl (congrArg Value.bool hc68)) rfl ?_
        refine c_skip ?_
        refine n_then ?_
        refine c_seq ?_
        refine c_region ?_
        refine st (v := .int .u16 ((s : Nat) : Int)) (x_move (.tmp rfl hρ41)) ?_
        refine st_c cb14 .func (evs1 (.tmp rfl rfl)) (least_spec hs46 htab s b_s) ?_
        rintro e w85 ⟨rfl, hs86⟩
        refine ⟨_, rfl, ?_⟩
        refine st (v := .int .i64 (-1)) (x_move (.tmp rfl rfl)) ?_
        refine st (v := .bool (decide (((least s) : Int) = (-1)))) (x_eql (k := .i64) (a := (least s)) (b := (-1)) (.tmp rfl rfl) (.tmp rfl rfl)) ?_
        refine st (v := .bool (decide (((least s) : Int) = (-1)))) (x_move (.tmp rfl rfl)) ?_
        have hc87 : (decide (((least s) : Int) = (-1))) = true := (decide_eq_true (by first | (rw [hlz, if_pos (by omega)]; simp_all) | (rw [hlz, if_neg (by omega)])))
        refine g_yes (yl (dj := 83) (b := true) rfl rfl (congrArg Value.bool hc87)) ?_
        refine st (v := .int .u16 ((s : Nat) : Int)) (x_move (.tmp rfl hρ41)) ?_
        refine g_yes (yl (dj := 83) (b := true) rfl rfl (congrArg Value.bool hc87)) ?_
        refine st (v := .int .i64 n) (x_move (.tmp rfl hρ42)) ?_
        refine g_yes (yl (dj := 83) (b := true) rfl rfl (congrArg Value.bool hc87)) ?_
        refine st_c cb8 .func (evs2 (.tmp rfl rfl) (.tmp rfl rfl)) (most_spec hs86 s n b_s (by omega)) ?_
        rintro e w88 ⟨rfl, hs89⟩
        refine ⟨_, rfl, ?_⟩
        refine g_yes (yl (dj := 83) (b := true) rfl rfl (congrArg Value.bool hc87)) ?_
        refine st (v := .int .i64 n) (x_move (.tmp rfl hρ42)) ?_
        refine g_yes (yl (dj := 83) (b := true) rfl rfl (congrArg Value.bool hc87)) ?_
        refine st (v := .bool (decide ((1 : Int) ≤ n))) (x_geq (k := .i64) (a := n) (b := 1) (.tmp rfl rfl) .const) ?_
        refine g_yes (yl (dj := 83) (b := true) rfl rfl (congrArg Value.bool hc87)) ?_
        refine st (v := .bool (decide ((1 : Int) ≤ n))) (x_move (.tmp rfl rfl)) ?_
        rcases Bool.eq_false_or_eq_true (decide ((1 : Int) ≤ n)) with hc90 | hc90
        · have hp90 : (1 : Int) ≤ n := of_decide_eq_true hc90
          refine g_yes (yl (dj := 89) (b := true) rfl rfl (congrArg Value.bool hc90)) ?_
          refine st (v := .int .i64 n) (x_move (.tmp rfl hρ42)) ?_
          refine g_yes (yl (dj := 89) (b := true) rfl rfl (congrArg Value.bool hc90)) ?_
          refine st (v := .bool (decide ((n : Int) ≤ 16))) (x_leq (k := .i64) (a := n) (b := 16) (.tmp rfl rfl) .const) ?_
          refine g_yes (yl (dj := 83) (b := true) rfl rfl (congrArg Value.bool hc87)) ?_
          refine st (v := .bool (decide ((n : Int) ≤ 16))) (x_pick_t (.tmp rfl (congrArg Value.bool hc90)) (.tmp rfl rfl)) ?_
          refine g_yes (yl (dj := 83) (b := true) rfl rfl (congrArg Value.bool hc87)) ?_
          refine st (v := .bool (decide ((n : Int) ≤ 16))) (x_move (.tmp rfl rfl)) ?_
          rcases Bool.eq_false_or_eq_true (decide ((n : Int) ≤ 16)) with hc91 | hc91
          · have hp91 : (n : Int) ≤ 16 := of_decide_eq_true hc91
            refine g_yes (yl (dj := 93) (b := true) rfl rfl (congrArg Value.bool hc91)) ?_
            refine st (v := v8) (x_move (.tmp rfl hρ44)) ?_
            refine g_yes (yl (dj := 93) (b := true) rfl rfl (congrArg Value.bool hc91)) ?_
            obtain ⟨A92, c93, hv94, hc95⟩ := ok1.slice
            refine st (v := .int .i64 (((lst s).length : Nat) : Int)) (x_len (n := (lst s).length) Tryd.underlying28 (.tmp rfl hv94)) ?_
            refine g_yes (yl (dj := 93) (b := true) rfl rfl (congrArg Value.bool hc91)) ?_
            refine st (v := .int .i64 (2 * (((lst s).length : Nat) : Int))) (x_mul (k := .i64) (a := 2) (b := (((lst s).length : Nat) : Int)) .const (.tmp rfl rfl) (w64 (by omega) (by omega))) ?_
            refine g_yes (yl (dj := 93) (b := true) rfl rfl (congrArg Value.bool hc91)) ?_
            refine st (v := .int .i64 n) (x_move (.tmp rfl hρ42)) ?_
            refine g_yes (yl (dj := 93) (b := true) rfl rfl (congrArg Value.bool hc91)) ?_
            refine st (v := .bool (decide ((n : Int) < (2 * (((lst s).length : Nat) : Int))))) (x_gtr (k := .i64) (a := (2 * (((lst s).length : Nat) : Int))) (b := n) (.tmp rfl rfl) (.tmp rfl rfl)) ?_
            refine g_yes (yl (dj := 83) (b := true) rfl rfl (congrArg Value.bool hc87)) ?_
            refine st (v := .bool (decide ((n : Int) < (2 * (((lst s).length : Nat) : Int))))) (x_pick_t (.tmp rfl (congrArg Value.bool hc91)) (.tmp rfl rfl)) ?_
            refine g_yes (yl (dj := 83) (b := true) rfl rfl (congrArg Value.bool hc87)) ?_
            refine st (v := .bool ((most s n) == (decide ((n : Int) < (2 * (((lst s).length : Nat) : Int)))))) (x_eqlB Tryd.underlying4 (.tmp rfl rfl) (.tmp rfl rfl)) ?_
            refine st (v := .bool ((most s n) == (decide ((n : Int) < (2 * (((lst s).length : Nat) : Int)))))) (x_pick_t (.tmp rfl (congrArg Value.bool hc87)) (.tmp rfl rfl)) ?_
            refine st (v := .bool ((most s n) == (decide ((n : Int) < (2 * (((lst s).length : Nat) : Int)))))) (x_assign (.tmp rfl rfl)) ?_
            refine c_nil ?_
            refine n_then ?_
            refine c_ret ?_
            refine leave_ret (res_one (v := .bool ((most s n) == (decide ((n : Int) < (2 * (((lst s).length : Nat) : Int)))))) rfl (.mk rfl rfl)) ?_
            exact ⟨ret_true (b := ((most s n) == (decide ((n : Int) < (2 * (((lst s).length : Nat) : Int)))))) (by simp only [most]; first | (rw [decide_eq_true_iff]; omega) | (simp; omega) | (rw [beq_iff_eq]; exact decide_eq_decide.2 (by omega)) | (simp only [beq_true, beq_false, Bool.not_eq_true', decide_eq_true_eq, decide_eq_false_iff_not]; omega)), hs89.drop.drop⟩
          · have hp91 : ¬ ((n : Int) ≤ 16) := of_decide_eq_false hc91
            refine g_no (yl (dj := 93) (b := false) rfl rfl (congrArg Value.bool hc91)) rfl ?_
            refine g_no (yl (dj := 93) (b := false) rfl rfl (congrArg Value.bool hc91)) rfl ?_
            refine g_no (yl (dj := 93) (b := false) rfl rfl (congrArg Value.bool hc91)) rfl ?_
            refine g_no (yl (dj := 93) (b := false) rfl rfl (congrArg Value.bool hc91)) rfl ?_
            refine g_no (yl (dj := 93) (b := false) rfl rfl (congrArg Value.bool hc91)) rfl ?_
            refine g_yes (yl (dj := 83) (b := true) rfl rfl (congrArg Value.bool hc87)) ?_
            refine st (v := .bool false) (x_pick_f (.tmp rfl (congrArg Value.bool hc91)) .const) ?_
            refine g_yes (yl (dj := 83) (b := true) rfl rfl (congrArg Value.bool hc87)) ?_
            refine st (v := .bool ((most s n) == false)) (x_eqlB Tryd.underlying4 (.tmp rfl rfl) (.tmp rfl rfl)) ?_
            refine st (v := .bool ((most s n) == false)) (x_pick_t (.tmp rfl (congrArg Value.bool hc87)) (.tmp rfl rfl)) ?_
            refine st (v := .bool ((most s n) == false)) (x_assign (.tmp rfl rfl)) ?_
            refine c_nil ?_
            refine n_then ?_
            refine c_ret ?_
            refine leave_ret (res_one (v := .bool ((most s n) == false)) rfl (.mk rfl rfl)) ?_
            exact ⟨ret_true (b := ((most s n) == false)) (by simp only [most]; first | (rw [decide_eq_true_iff]; omega) | (simp; omega) | (rw [beq_iff_eq]; exact decide_eq_decide.2 (by omega)) | (simp only [beq_true, beq_false, Bool.not_eq_true', decide_eq_true_eq, decide_eq_false_iff_not]; omega)), hs89.drop.drop⟩
        · have hp90 : ¬ ((1 : Int) ≤ n) := of_decide_eq_false hc90
          refine g_no (yl (dj := 89) (b := false) rfl rfl (congrArg Value.bool hc90)) rfl ?_
          refine g_no (yl (dj := 89) (b := false) rfl rfl (congrArg Value.bool hc90)) rfl ?_
          refine g_yes (yl (dj := 83) (b := true) rfl rfl (congrArg Value.bool hc87)) ?_
          refine st (v := .bool false) (x_pick_f (.tmp rfl (congrArg Value.bool hc90)) .const) ?_
          refine g_yes (yl (dj := 83) (b := true) rfl rfl (congrArg Value.bool hc87)) ?_
          refine st (v := .bool false) (x_move (.tmp rfl rfl)) ?_
          refine g_no (yl (dj := 93) (b := false) rfl rfl rfl) rfl ?_
          refine g_no (yl (dj := 93) (b := false) rfl rfl rfl) rfl ?_
          refine g_no (yl (dj := 93) (b := false) rfl rfl rfl) rfl ?_
          refine g_no (yl (dj := 93) (b := false) rfl rfl rfl) rfl ?_
          refine g_no (yl (dj := 93) (b := false) rfl rfl rfl) rfl ?_
          refine g_yes (yl (dj := 83) (b := true) rfl rfl (congrArg Value.bool hc87)) ?_
          refine st (v := .bool false) (x_pick_f (.tmp rfl rfl) .const) ?_
          refine g_yes (yl (dj := 83) (b := true) rfl rfl (congrArg Value.bool hc87)) ?_
          refine st (v := .bool ((most s n) == false)) (x_eqlB Tryd.underlying4 (.tmp rfl rfl) (.tmp rfl rfl)) ?_
          refine st (v := .bool ((most s n) == false)) (x_pick_t (.tmp rfl (congrArg Value.bool hc87)) (.tmp rfl rfl)) ?_
          refine st (v := .bool ((most s n) == false)) (x_assign (.tmp rfl rfl)) ?_
          refine c_nil ?_
          refine n_then ?_
          refine c_ret ?_
          refine leave_ret (res_one (v := .bool ((most s n) == false)) rfl (.mk rfl rfl)) ?_
          exact ⟨ret_true (b := ((most s n) == false)) (by simp only [most]; first | (rw [decide_eq_true_iff]; omega) | (simp; omega) | (rw [beq_iff_eq]; exact decide_eq_decide.2 (by omega)) | (simp only [beq_true, beq_false, Bool.not_eq_true', decide_eq_true_eq, decide_eq_false_iff_not]; omega)), hs89.drop.drop⟩

end Go.Proofs.YtdllflllhjaimaaDoor
