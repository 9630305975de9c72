/- Steps of the proofs over the functions of this seat, printed by a program (gen.py) and checked by Lean. -/
import Derived.Test.YtdllflllhjaimaaDoorTy
import Derived.Test.YtdllflllhjaimaaDoorFmM4b
import Derived.Test.YtdllflllhjaimaaDoorT2dawake
set_option linter.unusedVariables false
set_option linter.unusedSimpArgs false
namespace Go.Proofs.YtdllflllhjaimaaDoor
open Go Go.FM Go.Proofs
attribute [local irreducible] wpList wpQuiet Code.wp Calls
set_option maxHeartbeats 8000000 in
theorem order_spec {H : Hp} {w : World} {L : List Res} (hs : St H w L) (htab : Tab H) (an : Nat) (ap : Int) (bn : Nat) (bp : Int) (cn : Nat) (cp : Int) : Calls Tryd.prog 7 #[.agg #[.int .u64 ((an : Nat) : Int), .int .i64 ap], .agg #[.int .u64 ((bn : Nat) : Int), .int .i64 bp], .agg #[.int .u64 ((cn : Nat) : Int), .int .i64 cp]] w (fun e w' => e = .returned (.bool true) ∧ St H w' L) := by
  refine enter (args := [.agg #[.int .u64 ((an : Nat) : Int), .int .i64 ap], .agg #[.int .u64 ((bn : Nat) : Int), .int .i64 bp], .agg #[.int .u64 ((cn : Nat) : Int), .int .i64 cp]]) (N := 67) Tryd.func7 rfl rfl rfl ?_
  refine c_seq ?_
  refine c_region ?_
  refine st_m (m_box (cs := [.int .u64 ((an : Nat) : Int), .int .i64 ap]) hs (v := .agg #[.int .u64 ((an : Nat) : Int), .int .i64 ap]) (.tmp rfl rfl) rfl) ?_
  rintro _ w2 ⟨g1, rfl, hs4⟩
  refine st_m (m_box (cs := [.int .u64 ((bn : Nat) : Int), .int .i64 bp]) hs4 (v := .agg #[.int .u64 ((bn : Nat) : Int), .int .i64 bp]) (.tmp rfl rfl) rfl) ?_
  rintro _ w6 ⟨g5, rfl, hs8⟩
  refine st_m (m_box (cs := [.int .u64 ((cn : Nat) : Int), .int .i64 cp]) hs8 (v := .agg #[.int .u64 ((cn : Nat) : Int), .int .i64 cp]) (.tmp rfl rfl) rfl) ?_
  rintro _ w10 ⟨g9, rfl, hs12⟩
  refine st (v := .bool false) (x_assign .const) ?_
  refine c_nil ?_
  refine n_then ?_
  refine c_seq ?_
  refine c_seq ?_
  refine q_region mixed hs12 (by kernel_rfl) ?_
  refine q_c (v := .bool true) cb9 .func (evs0 ) (fun w hs => awake_spec hs htab) ?_
  refine q_st (v := .bool false) (fun w hs => (x_not (b := true) (.tmp rfl rfl))) ?_
  refine q_st (v := .bool false) (fun w hs => (x_move (.tmp rfl rfl))) ?_
  refine q_yes (yl (dj := 9) (b := false) rfl rfl rfl) ?_
  refine q_st (v := .agg #[.int .u64 ((an : Nat) : Int), .int .i64 ap]) (fun w hs => (ld34 (cs := [.int .u64 ((an : Nat) : Int), .int .i64 ap]) (.tmp rfl rfl) (hs.at_ 2 rfl 0 rfl) rfl)) ?_
  refine q_yes (yl (dj := 9) (b := false) rfl rfl rfl) ?_
  refine q_st (v := .agg #[.int .u64 ((bn : Nat) : Int), .int .i64 bp]) (fun w hs => (ld34 (cs := [.int .u64 ((bn : Nat) : Int), .int .i64 bp]) (.tmp rfl rfl) (hs.at_ 1 rfl 0 rfl) rfl)) ?_
  refine q_yes (yl (dj := 9) (b := false) rfl rfl rfl) ?_
  refine q_c (v := .int .i64 (cmpV an ap bn bp)) cb20 .func (evs2 (.tmp rfl rfl) (.tmp rfl rfl)) (fun w hs => compare_spec hs an ap bn bp) ?_
  refine q_yes (yl (dj := 9) (b := false) rfl rfl rfl) ?_
  refine q_st (v := .agg #[.int .u64 ((an : Nat) : Int), .int .i64 ap]) (fun w hs => (ld34 (cs := [.int .u64 ((an : Nat) : Int), .int .i64 ap]) (.tmp rfl rfl) (hs.at_ 2 rfl 0 rfl) rfl)) ?_
  refine q_yes (yl (dj := 9) (b := false) rfl rfl rfl) ?_
  refine q_st (v := .agg #[.int .u64 ((bn : Nat) : Int), .int .i64 bp]) (fun w hs => (ld34 (cs := [.int .u64 ((bn : Nat) : Int), .int .i64 bp]) (.tmp rfl rfl) (hs.at_ 1 rfl 0 rfl) rfl)) ?_
  refine q_yes (yl (dj := 9) (b := false) rfl rfl rfl) ?_
  refine q_c (v := .int .i64 (cmpV an ap bn bp)) cb21 .func (evs2 (.tmp rfl rfl) (.tmp rfl rfl)) (fun w hs => rcompare_spec hs an ap bn bp) ?_
  refine q_yes (yl (dj := 9) (b := false) rfl rfl rfl) ?_
  refine q_st (v := .bool (decide (((cmpV an ap bn bp) : Int) ≠ (cmpV an ap bn bp)))) (fun w hs => (x_neq (k := .i64) (a := (cmpV an ap bn bp)) (b := (cmpV an ap bn bp)) (.tmp rfl rfl) (.tmp rfl rfl))) ?_
  refine q_st (v := .bool false) (fun w hs => (x_pick_f (.tmp rfl rfl) (.tmp rfl (congrArg Value.bool (show (decide (((cmpV an ap bn bp) : Int) ≠ (cmpV an ap bn bp))) = false from by simp))))) ?_
  refine q_st (v := .bool false) (fun w hs => (x_move (.tmp rfl rfl))) ?_
  refine q_yes (yl (dj := 18) (b := false) rfl rfl rfl) ?_
  refine q_st (v := .agg #[.int .u64 ((an : Nat) : Int), .int .i64 ap]) (fun w hs => (ld34 (cs := [.int .u64 ((an : Nat) : Int), .int .i64 ap]) (.tmp rfl rfl) (hs.at_ 2 rfl 0 rfl) rfl)) ?_
  refine q_yes (yl (dj := 18) (b := false) rfl rfl rfl) ?_
  refine q_st (v := .agg #[.int .u64 ((bn : Nat) : Int), .int .i64 bp]) (fun w hs => (ld34 (cs := [.int .u64 ((bn : Nat) : Int), .int .i64 bp]) (.tmp rfl rfl) (hs.at_ 1 rfl 0 rfl) rfl)) ?_
  refine q_yes (yl (dj := 18) (b := false) rfl rfl rfl) ?_
  refine q_c (v := .bool (decide (0 < cmpV an ap bn bp))) cb22 .func (evs2 (.tmp rfl rfl) (.tmp rfl rfl)) (fun w hs => above_spec hs an ap bn bp) ?_
  refine q_yes (yl (dj := 18) (b := false) rfl rfl rfl) ?_
  refine q_st (v := .agg #[.int .u64 ((an : Nat) : Int), .int .i64 ap]) (fun w hs => (ld34 (cs := [.int .u64 ((an : Nat) : Int), .int .i64 ap]) (.tmp rfl rfl) (hs.at_ 2 rfl 0 rfl) rfl)) ?_
  refine q_yes (yl (dj := 18) (b := false) rfl rfl rfl) ?_
  refine q_st (v := .agg #[.int .u64 ((bn : Nat) : Int), .int .i64 bp]) (fun w hs => (ld34 (cs := [.int .u64 ((bn : Nat) : Int), .int .i64 bp]) (.tmp rfl rfl) (hs.at_ 1 rfl 0 rfl) rfl)) ?_
  refine q_yes (yl (dj := 18) (b := false) rfl rfl rfl) ?_
  refine q_c (v := .int .i64 (cmpV an ap bn bp)) cb21 .func (evs2 (.tmp rfl rfl) (.tmp rfl rfl)) (fun w hs => rcompare_spec hs an ap bn bp) ?_
  refine q_yes (yl (dj := 18) (b := false) rfl rfl rfl) ?_
  refine q_st (v := .bool (decide ((0 : Int) < (cmpV an ap bn bp)))) (fun w hs => (x_gtr (k := .i64) (a := (cmpV an ap bn bp)) (b := 0) (.tmp rfl rfl) .const)) ?_
  refine q_yes (yl (dj := 18) (b := false) rfl rfl rfl) ?_
  refine q_st (v := .bool ((decide (0 < cmpV an ap bn bp)) != (decide ((0 : Int) < (cmpV an ap bn bp))))) (fun w hs => (x_neqB Tryd.underlying4 (.tmp rfl rfl) (.tmp rfl rfl))) ?_
  refine q_st (v := .bool ((decide (0 < cmpV an ap bn bp)) != (decide ((0 : Int) < (cmpV an ap bn bp))))) (fun w hs => (x_pick_f (.tmp rfl rfl) (.tmp rfl rfl))) ?_
  refine q_st (v := .bool ((decide (0 < cmpV an ap bn bp)) != (decide ((0 : Int) < (cmpV an ap bn bp))))) (fun w hs => (x_move (.tmp rfl rfl))) ?_
  have hc13 : ((decide (0 < cmpV an ap bn bp)) != (decide ((0 : Int) < (cmpV an ap bn bp)))) = false := (by simp)
  refine q_yes (yl (dj := 28) (b := false) rfl rfl (congrArg Value.bool hc13)) ?_
  refine q_st (v := .agg #[.int .u64 ((an : Nat) : Int), .int .i64 ap]) (fun w hs => (ld34 (cs := [.int .u64 ((an : Nat) : Int), .int .i64 ap]) (.tmp rfl rfl) (hs.at_ 2 rfl 0 rfl) rfl)) ?_
  refine q_yes (yl (dj := 28) (b := false) rfl rfl (congrArg Value.bool hc13)) ?_
  refine q_c (v := .bool (formV an ap)) cb23 .func (evs1 (.tmp rfl rfl)) (fun w hs => form_spec hs an ap) ?_
  refine q_yes (yl (dj := 28) (b := false) rfl rfl (congrArg Value.bool hc13)) ?_
  refine q_st (v := .agg #[.int .u64 ((an : Nat) : Int), .int .i64 ap]) (fun w hs => (ld34 (cs := [.int .u64 ((an : Nat) : Int), .int .i64 ap]) (.tmp rfl rfl) (hs.at_ 2 rfl 0 rfl) rfl)) ?_
  refine q_yes (yl (dj := 28) (b := false) rfl rfl (congrArg Value.bool hc13)) ?_
  refine q_c (v := .bool (formV an ap)) cb24 .func (evs1 (.tmp rfl rfl)) (fun w hs => rform_spec hs an ap) ?_
  refine q_yes (yl (dj := 28) (b := false) rfl rfl (congrArg Value.bool hc13)) ?_
  refine q_st (v := .bool ((formV an ap) != (formV an ap))) (fun w hs => (x_neqB Tryd.underlying4 (.tmp rfl rfl) (.tmp rfl rfl))) ?_
  refine q_st (v := .bool false) (fun w hs => (x_pick_f (.tmp rfl (congrArg Value.bool hc13)) (.tmp rfl (congrArg Value.bool (show ((formV an ap) != (formV an ap)) = false from by simp))))) ?_
  refine q_nil ?_
  intro w hs14
  refine n_then ?_
  refine c_cond_f (t := false) (.tmp rfl rfl) rfl ?_
  refine c_skip ?_
  refine n_then ?_
  refine c_seq ?_
  refine c_seq ?_
  refine q_region mixed hs14 (by kernel_rfl) ?_
  refine q_st (v := .agg #[.int .u64 ((an : Nat) : Int), .int .i64 ap]) (fun w hs => (ld34 (cs := [.int .u64 ((an : Nat) : Int), .int .i64 ap]) (.tmp rfl rfl) (hs.at_ 2 rfl 0 rfl) rfl)) ?_
  refine q_st (v := .agg #[.int .u64 ((bn : Nat) : Int), .int .i64 bp]) (fun w hs => (ld34 (cs := [.int .u64 ((bn : Nat) : Int), .int .i64 bp]) (.tmp rfl rfl) (hs.at_ 1 rfl 0 rfl) rfl)) ?_
  refine q_c (v := .int .i64 (cmpV an ap bn bp)) cb20 .func (evs2 (.tmp rfl rfl) (.tmp rfl rfl)) (fun w hs => compare_spec hs an ap bn bp) ?_
  refine q_st (v := .agg #[.int .u64 ((bn : Nat) : Int), .int .i64 bp]) (fun w hs => (ld34 (cs := [.int .u64 ((bn : Nat) : Int), .int .i64 bp]) (.tmp rfl rfl) (hs.at_ 1 rfl 0 rfl) rfl)) ?_
  refine q_st (v := .agg #[.int .u64 ((an : Nat) : Int), .int .i64 ap]) (fun w hs => (ld34 (cs := [.int .u64 ((an : Nat) : Int), .int .i64 ap]) (.tmp rfl rfl) (hs.at_ 2 rfl 0 rfl) rfl)) ?_
  refine q_c (v := .int .i64 (cmpV bn bp an ap)) cb20 .func (evs2 (.tmp rfl rfl) (.tmp rfl rfl)) (fun w hs => compare_spec hs bn bp an ap) ?_
  have hbd := cmpV_bound bn bp an ap
  have hng := cmpV_neg an ap bn bp
  have hze := cmpV_zero an ap bn bp
  refine q_st (v := .int .i64 (0 - (cmpV bn bp an ap))) (fun w hs => (x_sub (k := .i64) (a := 0) (b := (cmpV bn bp an ap)) .const (.tmp rfl rfl) (w64 (by omega) (by omega)))) ?_
  refine q_st (v := .bool (decide (((cmpV an ap bn bp) : Int) ≠ (0 - (cmpV bn bp an ap))))) (fun w hs => (x_neq (k := .i64) (a := (cmpV an ap bn bp)) (b := (0 - (cmpV bn bp an ap))) (.tmp rfl rfl) (.tmp rfl rfl))) ?_
  refine q_st (v := .bool (decide (((cmpV an ap bn bp) : Int) ≠ (0 - (cmpV bn bp an ap))))) (fun w hs => (x_move (.tmp rfl rfl))) ?_
  have hc15 : (decide (((cmpV an ap bn bp) : Int) ≠ (0 - (cmpV bn bp an ap)))) = false := (decide_eq_false (by omega))
  refine q_yes (yl (dj := 43) (b := false) rfl rfl (congrArg Value.bool hc15)) ?_
  refine q_st (v := .agg #[.int .u64 ((an : Nat) : Int), .int .i64 ap]) (fun w hs => (ld34 (cs := [.int .u64 ((an : Nat) : Int), .int .i64 ap]) (.tmp rfl rfl) (hs.at_ 2 rfl 0 rfl) rfl)) ?_
  refine q_yes (yl (dj := 43) (b := false) rfl rfl (congrArg Value.bool hc15)) ?_
  refine q_st (v := .agg #[.int .u64 ((bn : Nat) : Int), .int .i64 bp]) (fun w hs => (ld34 (cs := [.int .u64 ((bn : Nat) : Int), .int .i64 bp]) (.tmp rfl rfl) (hs.at_ 1 rfl 0 rfl) rfl)) ?_
  refine q_yes (yl (dj := 43) (b := false) rfl rfl (congrArg Value.bool hc15)) ?_
  refine q_c (v := .int .i64 (cmpV an ap bn bp)) cb20 .func (evs2 (.tmp rfl rfl) (.tmp rfl rfl)) (fun w hs => compare_spec hs an ap bn bp) ?_
  refine q_yes (yl (dj := 43) (b := false) rfl rfl (congrArg Value.bool hc15)) ?_
  refine q_st (v := .bool (decide (((cmpV an ap bn bp) : Int) = 0))) (fun w hs => (x_eql (k := .i64) (a := (cmpV an ap bn bp)) (b := 0) (.tmp rfl rfl) .const)) ?_
  refine q_yes (yl (dj := 43) (b := false) rfl rfl (congrArg Value.bool hc15)) ?_
  refine q_st (v := .agg #[.int .u64 ((an : Nat) : Int), .int .i64 ap]) (fun w hs => (ld34 (cs := [.int .u64 ((an : Nat) : Int), .int .i64 ap]) (.tmp rfl rfl) (hs.at_ 2 rfl 0 rfl) rfl)) ?_
  refine q_yes (yl (dj := 43) (b := false) rfl rfl (congrArg Value.bool hc15)) ?_
  refine q_st (v := .agg #[.int .u64 ((bn : Nat) : Int), .int .i64 bp]) (fun w hs => (ld34 (cs := [.int .u64 ((bn : Nat) : Int), .int .i64 bp]) (.tmp rfl rfl) (hs.at_ 1 rfl 0 rfl) rfl)) ?_
  refine q_yes (yl (dj := 43) (b := false) rfl rfl (congrArg Value.bool hc15)) ?_
  refine q_st (v := .bool ((((an : Nat) : Int) == ((bn : Nat) : Int)) && ((ap == bp) && true))) (fun w hs => (x_eqlA eqg34 (.tmp rfl rfl) (.tmp rfl rfl) (fun d => eqs34 (d + 98) _ ((an : Nat) : Int) ((bn : Nat) : Int) ap bp))) ?_
  refine q_yes (yl (dj := 43) (b := false) rfl rfl (congrArg Value.bool hc15)) ?_
  refine q_st (v := .bool ((decide (((cmpV an ap bn bp) : Int) = 0)) != ((((an : Nat) : Int) == ((bn : Nat) : Int)) && ((ap == bp) && true)))) (fun w hs => (x_neqB Tryd.underlying4 (.tmp rfl rfl) (.tmp rfl rfl))) ?_
  refine q_st (v := .bool ((decide (((cmpV an ap bn bp) : Int) = 0)) != ((((an : Nat) : Int) == ((bn : Nat) : Int)) && ((ap == bp) && true)))) (fun w hs => (x_pick_f (.tmp rfl (congrArg Value.bool hc15)) (.tmp rfl rfl))) ?_
  refine q_nil ?_
  intro w hs16
  refine n_then ?_
  have hc17 : ((decide (((cmpV an ap bn bp) : Int) = 0)) != ((((an : Nat) : Int) == ((bn : Nat) : Int)) && ((ap == bp) && true))) = false := (by rw [bne_eq_false_iff_eq]; simp only [Bool.and_true]; rw [Bool.eq_iff_iff]; simp only [decide_eq_true_eq, Bool.and_eq_true, beq_iff_eq]; omega)
  refine c_cond_f (t := false) (.tmp rfl (congrArg Value.bool hc17)) rfl ?_
  refine c_skip ?_
  refine n_then ?_
  refine c_seq ?_
  refine c_region ?_
  refine st (v := .agg #[.int .u64 ((an : Nat) : Int), .int .i64 ap]) (ld34 (cs := [.int .u64 ((an : Nat) : Int), .int .i64 ap]) (.tmp rfl rfl) (hs16.at_ 2 rfl 0 rfl) rfl) ?_
  refine st (v := .agg #[.int .u64 ((bn : Nat) : Int), .int .i64 bp]) (ld34 (cs := [.int .u64 ((bn : Nat) : Int), .int .i64 bp]) (.tmp rfl rfl) (hs16.at_ 1 rfl 0 rfl) rfl) ?_
  refine st_c cb22 .func (evs2 (.tmp rfl rfl) (.tmp rfl rfl)) (above_spec hs16 an ap bn bp) ?_
  rintro e w18 ⟨rfl, hs19⟩
  refine ⟨_, rfl, ?_⟩
  refine st (v := .bool (decide (0 < cmpV an ap bn bp))) (x_move (.tmp rfl rfl)) ?_
  rcases Bool.eq_false_or_eq_true (decide (0 < cmpV an ap bn bp)) with hc20 | hc20
  · refine g_yes (yl (dj := 56) (b := true) rfl rfl (congrArg Value.bool hc20)) ?_
    refine st (v := .agg #[.int .u64 ((bn : Nat) : Int), .int .i64 bp]) (ld34 (cs := [.int .u64 ((bn : Nat) : Int), .int .i64 bp]) (.tmp rfl rfl) (hs19.at_ 1 rfl 0 rfl) rfl) ?_
    refine g_yes (yl (dj := 56) (b := true) rfl rfl (congrArg Value.bool hc20)) ?_
    refine st (v := .agg #[.int .u64 ((cn : Nat) : Int), .int .i64 cp]) (ld34 (cs := [.int .u64 ((cn : Nat) : Int), .int .i64 cp]) (.tmp rfl rfl) (hs19.at_ 0 rfl 0 rfl) rfl) ?_
    refine g_yes (yl (dj := 56) (b := true) rfl rfl (congrArg Value.bool hc20)) ?_
    refine st_c cb22 .func (evs2 (.tmp rfl rfl) (.tmp rfl rfl)) (above_spec hs19 bn bp cn cp) ?_
    rintro e w21 ⟨rfl, hs22⟩
    refine ⟨_, rfl, ?_⟩
    refine st (v := .bool (decide (0 < cmpV bn bp cn cp))) (x_pick_t (.tmp rfl (congrArg Value.bool hc20)) (.tmp rfl rfl)) ?_
    refine st (v := .bool (!(decide (0 < cmpV bn bp cn cp)))) (x_not (.tmp rfl rfl)) ?_
    refine st (v := .bool (!(decide (0 < cmpV bn bp cn cp)))) (x_move (.tmp rfl rfl)) ?_
    rcases Bool.eq_false_or_eq_true (decide (0 < cmpV bn bp cn cp)) with hc23 | hc23
    · refine g_yes (yl (dj := 62) (b := false) rfl rfl (congrArg Value.bool (by rw [hc23]; rfl))) ?_
      refine st (v := .agg #[.int .u64 ((an : Nat) : Int), .int .i64 ap]) (ld34 (cs := [.int .u64 ((an : Nat) : Int), .int .i64 ap]) (.tmp rfl rfl) (hs22.at_ 2 rfl 0 rfl) rfl) ?_
      refine g_yes (yl (dj := 62) (b := false) rfl rfl (congrArg Value.bool (by rw [hc23]; rfl))) ?_
      refine st (v := .agg #[.int .u64 ((cn : Nat) : Int), .int .i64 cp]) (ld34 (cs := [.int .u64 ((cn : Nat) : Int), .int .i64 cp]) (.tmp rfl rfl) (hs22.at_ 0 rfl 0 rfl) rfl) ?_
      refine g_yes (yl (dj := 62) (b := false) rfl rfl (congrArg Value.bool (by rw [hc23]; rfl))) ?_
      refine st_c cb22 .func (evs2 (.tmp rfl rfl) (.tmp rfl rfl)) (above_spec hs22 an ap cn cp) ?_
      rintro e w24 ⟨rfl, hs25⟩
      refine ⟨_, rfl, ?_⟩
      refine st (v := .bool (decide (0 < cmpV an ap cn cp))) (x_pick_f (.tmp rfl (congrArg Value.bool (by rw [hc23]; rfl))) (.tmp rfl rfl)) ?_
      refine st (v := .bool (decide (0 < cmpV an ap cn cp))) (x_assign (.tmp rfl rfl)) ?_
      refine c_nil ?_
      refine n_then ?_
      refine c_ret ?_
      refine leave_ret (res_one (v := .bool (decide (0 < cmpV an ap cn cp))) rfl (.mk rfl rfl)) ?_
      skip
      have hk1 := of_decide_eq_false hc15
      skip
      have hk3 := of_decide_eq_true hc20
      have hk4 := of_decide_eq_true hc23
      have p1 := cmpV_pos an ap bn bp
      have p2 := cmpV_pos bn bp cn cp
      have p3 := cmpV_pos an ap cn cp
      exact ⟨ret_true (b := (decide (0 < cmpV an ap cn cp))) (decide_eq_true (by omega)), hs25.drop.drop.drop⟩
    · refine g_no (yl (dj := 62) (b := true) rfl rfl (congrArg Value.bool (by rw [hc23]; rfl))) rfl ?_
      refine g_no (yl (dj := 62) (b := true) rfl rfl (congrArg Value.bool (by rw [hc23]; rfl))) rfl ?_
      refine g_no (yl (dj := 62) (b := true) rfl rfl (congrArg Value.bool (by rw [hc23]; rfl))) rfl ?_
      refine st (v := .bool true) (x_pick_t (.tmp rfl (congrArg Value.bool (by rw [hc23]; rfl))) .const) ?_
      refine st (v := .bool true) (x_assign (.tmp rfl rfl)) ?_
      refine c_nil ?_
      refine n_then ?_
      refine c_ret ?_
      refine leave_ret (res_one (v := .bool true) rfl (.mk rfl rfl)) ?_
      skip
      have hk1 := of_decide_eq_false hc15
      skip
      have hk3 := of_decide_eq_true hc20
      have hk4 := of_decide_eq_false hc23
      have p1 := cmpV_pos an ap bn bp
      have p2 := cmpV_pos bn bp cn cp
      have p3 := cmpV_pos an ap cn cp
      exact ⟨rfl, hs22.drop.drop.drop⟩
  · refine g_no (yl (dj := 56) (b := false) rfl rfl (congrArg Value.bool hc20)) rfl ?_
    refine g_no (yl (dj := 56) (b := false) rfl rfl (congrArg Value.bool hc20)) rfl ?_
    refine g_no (yl (dj := 56) (b := false) rfl rfl (congrArg Value.bool hc20)) rfl ?_
    refine st (v := .bool false) (x_pick_f (.tmp rfl (congrArg Value.bool hc20)) .const) ?_
    refine st (v := .bool true) (x_not (b := false) (.tmp rfl rfl)) ?_
    refine st (v := .bool true) (x_move (.tmp rfl rfl)) ?_
    refine g_no (yl (dj := 62) (b := true) rfl rfl rfl) rfl ?_
    refine g_no (yl (dj := 62) (b := true) rfl rfl rfl) rfl ?_
    refine g_no (yl (dj := 62) (b := true) rfl rfl rfl) rfl ?_
    refine st (v := .bool true) (x_pick_t (.tmp rfl rfl) .const) ?_
    refine st (v := .bool true) (x_assign (.tmp rfl rfl)) ?_
    refine c_nil ?_
    refine n_then ?_
    refine c_ret ?_
    refine leave_ret (res_one (v := .bool true) rfl (.mk rfl rfl)) ?_
    skip
    have hk1 := of_decide_eq_false hc15
    skip
    have hk3 := of_decide_eq_false hc20
    have p1 := cmpV_pos an ap bn bp
    have p2 := cmpV_pos bn bp cn cp
    have p3 := cmpV_pos an ap cn cp
    exact ⟨rfl, hs19.drop.drop.drop⟩

end Go.Proofs.YtdllflllhjaimaaDoor
