/- Steps of the proofs over the functions of this seat, printed by a program (gen.py) and checked by Lean. -/
import Derived.Test.YtdllflllhjaimaaDoorTy
import Derived.Test.YtdllflllhjaimaaDoorFmM4b
import Derived.Test.YtdllflllhjaimaaDoorT2b
set_option linter.unusedVariables false
set_option linter.unusedSimpArgs false
namespace Go.Proofs.YtdllflllhjaimaaDoor
open Go Go.FM Go.Proofs
attribute [local irreducible] wpList wpQuiet Code.wp Calls
theorem least_spec2 {H : Hp} {w : World} {L : List Res} (hs : St H w L) (htab : Tab H) (s : Nat) (b_s : s < 65536) (h0 : s ≠ 0) : Calls Tryd.prog 14 #[.int .u16 ((s : Nat) : Int)] w (fun e w' => e = .returned (.int .i64 ((low 16 s : Nat) : Int)) ∧ St H w' L) := by
  have := least_spec hs htab s b_s
  simp only [least, if_neg h0] at this
  exact this
set_option maxHeartbeats 8000000 in
theorem list_spec {H : Hp} {w : World} {L : List Res} (hs : St H w L) (htab : Tab H) (s : Nat) (b_s : s < 65536) : Calls Tryd.prog 11 #[.int .u16 ((s : Nat) : Int)] w (fun e w' => ∃ v, e = .returned v ∧ RowOk 1 v (lst s).length ((lst s).map encI) ∧ St H w' (row 3 1 v (lst s).length ((lst s).map encI) :: L)) := by
  refine enter (args := [.int .u16 ((s : Nat) : Int)]) (N := 16) Tryd.func11 rfl rfl rfl ?_
  refine c_seq ?_
  refine c_region ?_
  refine st (v := .slice none 0 0) (x_assign .const) ?_
  refine c_nil ?_
  refine n_then ?_
  refine c_seq ?_
  refine c_region ?_
  refine st (v := .slice none 0 0) (x_assign .const) ?_
  refine c_nil ?_
  refine n_then ?_
  refine c_seq ?_
  refine c_block ?_
  have hs0 := hs.rowNil 3 1
  refine c_loop (fun ρ w k => ∃ (r : Nat) (v : Value) (pre : List Nat), ρ 0 = .int .u16 ((r : Nat) : Int) ∧ ρ 3 = v ∧ (r < 65536) ∧ (lst s = pre ++ lst r) ∧ (RowOk 1 v pre.length (pre.map encI)) ∧ St H w (row 3 1 v pre.length (pre.map encI) :: L) ∧ k = (lst r).length) _ ⟨s, (.slice none 0 0), [], rfl, rfl, b_s, (by simp), (RowOk.nil 1), hs0, rfl⟩ ?_
  rintro ρ w k ⟨r, v, pre, hρ2, hρ3, hr, hl, ok, hs4, rfl⟩
  refine c_seq ?_
  refine c_seq ?_
  refine c_region ?_
  refine st (v := .int .u16 ((r : Nat) : Int)) (x_move (.tmp rfl hρ2)) ?_
  refine st (v := .bool (decide ((((r : Nat) : Int) : Int) ≠ 0))) (x_neq (k := .u16) (a := ((r : Nat) : Int)) (b := 0) (.tmp rfl rfl) .const) ?_
  refine c_nil ?_
  refine n_then ?_
  rcases Bool.eq_false_or_eq_true (decide ((((r : Nat) : Int) : Int) ≠ 0)) with hc5 | hc5
  · have hp5 : (((r : Nat) : Int) : Int) ≠ 0 := of_decide_eq_true hc5
    refine c_cond_t (t := true) (.tmp rfl (congrArg Value.bool hc5)) rfl ?_
    refine c_skip ?_
    refine n_then ?_
    refine c_block ?_
    refine c_seq ?_
    refine c_region ?_
    refine st (v := v) (x_move (.tmp rfl hρ3)) ?_
    refine st (v := .int .u16 ((r : Nat) : Int)) (x_move (.tmp rfl hρ2)) ?_
    refine st_c cb14 .func (evs1 (.tmp rfl rfl)) (least_spec2 hs4 htab r hr (by omega)) ?_
    rintro e w6 ⟨rfl, hs7⟩
    refine ⟨_, rfl, ?_⟩
    refine st_m (m_lit (n := 1) (ps := [(0, .int .i64 ((low 16 r : Nat) : Int))]) (cs := [.int .i64 ((low 16 r : Nat) : Int)]) Tryd.underlying28 inf3 (.cons (.tmp rfl rfl) Evp.nil) (by decide) (by decide) rfl rfl hs7) ?_
    rintro _ w9 ⟨g8, rfl, hs11⟩
    have hln := lst_pred r (by omega) hr
    have hll : (lst s).length ≤ 16 := by rw [lst_length]; exact pc_le 16 s
    have hl2 : pre.length + (lst r).length ≤ 16 := by rw [hl] at hll; simpa using hll
    have hl3 : 1 ≤ (lst r).length := by rw [hln]; simp
    have hs12 : St H _ (row 3 1 v pre.length (pre.map encI) :: obj g8 3 [.int .i64 ((low 16 r : Nat) : Int)] :: L) := hs11.pick 1 rfl rfl
    refine st_m (m_app (news := [.int .i64 ((low 16 r : Nat) : Int)]) (m := 1) Tryd.underlying28 inf3 rfl (by decide) hs12 ok (.tmp rfl rfl) (.tmp rfl rfl) rfl (hs12.at_ 1 rfl 0 rfl) (by simp [Value.oneCell']) (by omega) (by decide)) ?_
    rintro v13 w14 ⟨ok16, hs17⟩
    refine st (v := v13) (x_assign (.tmp rfl rfl)) ?_
    refine c_nil ?_
    refine n_then ?_
    refine c_region ?_
    refine st (v := .int .u16 ((r : Nat) : Int)) (x_move (.tmp rfl hρ2)) ?_
    refine st (v := .int .u16 ((r : Nat) : Int)) (x_move (.tmp rfl hρ2)) ?_
    have hb18 : (r - 1) < 65536 := by omega
    refine st (v := .int .u16 (((r - 1) : Nat) : Int)) (x_sub (k := .u16) (a := ((r : Nat) : Int)) (b := 1) (.tmp rfl rfl) .const (wU rfl (by omega) hb18)) ?_
    have hb19 : (r &&& (r - 1)) < 65536 := Nat.lt_of_le_of_lt Nat.and_le_left hr
    refine st (v := .int .u16 (((r &&& (r - 1)) : Nat) : Int)) (x_and (k := .u16) (m := r) (n := (r - 1)) rfl (.tmp rfl rfl) (.tmp rfl rfl) (show _ < 2 ^ 16 from hr) (show _ < 2 ^ 16 from hb18)) ?_
    refine st (v := .int .u16 (((r &&& (r - 1)) : Nat) : Int)) (x_assign (.tmp rfl rfl)) ?_
    refine c_nil ?_
    refine n_block ?_
    refine n_then ⟨_, _, rfl, ?_, (r &&& (r - 1)), v13, (pre ++ [low 16 r]), rfl, rfl, (Nat.lt_of_le_of_lt Nat.and_le_left hr), (by rw [hl, lst_pred r (by omega) hr]; simp), (RowOk.snoc (enc := encI) ok16), (St.rowSnoc (enc := encI) hs17.drop2), rfl⟩
    exact (by rw [lst_pred r (by omega) hr]; simp)
  · have hp5 : ¬ ((((r : Nat) : Int) : Int) ≠ 0) := of_decide_eq_false hc5
    refine c_cond_f (t := false) (.tmp rfl (congrArg Value.bool hc5)) rfl ?_
    refine c_exit ?_
    refine x_then ?_
    refine x_then ?_
    refine x_here ?_
    refine n_then ?_
    refine c_seq ?_
    refine c_region ?_
    refine st (v := v) (x_move (.tmp rfl hρ3)) ?_
    refine st (v := v) (x_assign (.tmp rfl rfl)) ?_
    refine c_nil ?_
    refine n_then ?_
    refine c_ret ?_
    refine leave_ret (res_one (v := v) rfl (.mk rfl rfl)) ?_
    have er : r = 0 := by omega
    have e : lst s = pre := by rw [hl, er, lst, els_zero, List.append_nil]
    exact ⟨v, rfl, by rw [e]; exact ok, by rw [e]; exact hs4⟩

set_option maxHeartbeats 8000000 in
theorem rlist_spec {H : Hp} {w : World} {L : List Res} (hs : St H w L) (s : Nat) (b_s : s < 65536) : Calls Tryd.prog 15 #[.int .u16 ((s : Nat) : Int)] w (fun e w' => ∃ v, e = .returned v ∧ RowOk 1 v (lst s).length ((lst s).map encI) ∧ St H w' (row 3 1 v (lst s).length ((lst s).map encI) :: L)) := by
  refine enter (args := [.int .u16 ((s : Nat) : Int)]) (N := 17) Tryd.func15 rfl rfl rfl ?_
  refine c_seq ?_
  refine c_region ?_
  refine st (v := .slice none 0 0) (x_assign .const) ?_
  refine c_nil ?_
  refine n_then ?_
  refine c_seq ?_
  refine c_region ?_
  refine st (v := .slice none 0 0) (x_assign .const) ?_
  refine c_nil ?_
  refine n_then ?_
  refine c_seq ?_
  refine c_seq ?_
  refine c_region ?_
  refine st (v := .int .i64 0) (x_assign .const) ?_
  refine c_nil ?_
  refine n_then ?_
  refine c_block ?_
  have hs0 := hs.rowNil 3 1
  refine c_loop (fun ρ w k => ∃ (j : Nat) (v : Value), ρ 0 = .int .u16 ((s : Nat) : Int) ∧ ρ 3 = v ∧ ρ 4 = .int .i64 ((j : Nat) : Int) ∧ (j ≤ 16) ∧ (RowOk 1 v (els j 0 s).length ((els j 0 s).map encI)) ∧ St H w (row 3 1 v ((els j 0 s).length) ((els j 0 s).map encI) :: L) ∧ k = 16 - j) _ ⟨0, (.slice none 0 0), rfl, rfl, rfl, (by omega), (RowOk.nil 1), hs0, rfl⟩ ?_
  rintro ρ w k ⟨j, v, hρ2, hρ3, hρ4, hj, ok, hs5, rfl⟩
  refine c_seq ?_
  refine c_seq ?_
  refine c_region ?_
  refine st (v := .int .i64 ((j : Nat) : Int)) (x_move (.tmp rfl hρ4)) ?_
  refine st (v := .bool (decide ((((j : Nat) : Int) : Int) < 16))) (x_lss (k := .i64) (a := ((j : Nat) : Int)) (b := 16) (.tmp rfl rfl) .const) ?_
  refine c_nil ?_
  refine n_then ?_
  rcases Bool.eq_false_or_eq_true (decide ((((j : Nat) : Int) : Int) < 16)) with hc6 | hc6
  · have hp6 : (((j : Nat) : Int) : Int) < 16 := of_decide_eq_true hc6
    refine c_cond_t (t := true) (.tmp rfl (congrArg Value.bool hc6)) rfl ?_
    refine c_skip ?_
    refine n_then ?_
    refine c_seq ?_
    refine c_block ?_
    refine c_seq ?_
    refine c_region ?_
    refine st (v := .int .u16 ((s : Nat) : Int)) (x_move (.tmp rfl hρ2)) ?_
    refine st (v := .int .i64 ((j : Nat) : Int)) (x_move (.tmp rfl hρ4)) ?_
    refine st_c cb17 .func (evs2 (.tmp rfl rfl) (.tmp rfl rfl)) (rhas_spec hs5 s ((j : Nat) : Int) b_s (by omega)) ?_
    rintro e w7 ⟨rfl, hs8⟩
    refine ⟨_, rfl, ?_⟩
    refine c_nil ?_
    refine n_then ?_
    rcases Bool.eq_false_or_eq_true (has s ((j : Nat) : Int)) with hc9 | hc9
    · refine c_cond_t (t := true) (.tmp rfl (congrArg Value.bool hc9)) rfl ?_
      refine c_region ?_
      refine st (v := v) (x_move (.tmp rfl hρ3)) ?_
      refine st (v := .int .i64 ((j : Nat) : Int)) (x_move (.tmp rfl hρ4)) ?_
      refine st_m (m_lit (n := 1) (ps := [(0, .int .i64 ((j : Nat) : Int))]) (cs := [.int .i64 ((j : Nat) : Int)]) Tryd.underlying28 inf3 (.cons (.tmp rfl rfl) Evp.nil) (by decide) (by decide) rfl rfl hs8) ?_
      rintro _ w11 ⟨g10, rfl, hs13⟩
      have hll : (els j 0 s).length ≤ j := by rw [els_length]; exact pc_le j s
      have hs14 : St H _ (row 3 1 v ((els j 0 s).length) ((els j 0 s).map encI) :: obj g10 3 [.int .i64 ((j : Nat) : Int)] :: L) := hs13.pick 1 rfl rfl
      refine st_m (m_app (news := [.int .i64 ((j : Nat) : Int)]) (m := 1) Tryd.underlying28 inf3 rfl (by decide) hs14 ok (.tmp rfl rfl) (.tmp rfl rfl) rfl (hs14.at_ 1 rfl 0 rfl) (by simp [Value.oneCell']) (by omega) (by decide)) ?_
      rintro v15 w16 ⟨ok18, hs19⟩
      refine st (v := v15) (x_assign (.tmp rfl rfl)) ?_
      refine c_nil ?_
      refine n_block ?_
      refine n_then ?_
      refine c_region ?_
      refine st (v := .int .i64 ((j : Nat) : Int)) (x_move (.tmp rfl hρ4)) ?_
      refine st (v := .int .i64 (((j : Nat) : Int) + 1)) (x_add (k := .i64) (a := ((j : Nat) : Int)) (b := 1) (.tmp rfl rfl) .const (w64 (by omega) (by omega))) ?_
      refine st (v := .int .i64 (((j : Nat) : Int) + 1)) (x_assign (.tmp rfl rfl)) ?_
      refine c_nil ?_
      refine n_then ⟨_, _, rfl, ?_, (j + 1), v15, hρ2, rfl, rfl, (by omega), (by rw [els_has (b := true) (by omega) hc9]; exact (RowOk.snoc (enc := encI) (l := els j 0 s) (x := j) ok18)), (by rw [els_has (b := true) (by omega) hc9]; exact (St.rowSnoc (enc := encI) (l := els j 0 s) (x := j) hs19.drop2)), rfl⟩
      omega
    · refine c_cond_f (t := false) (.tmp rfl (congrArg Value.bool hc9)) rfl ?_
      refine c_skip ?_
      refine n_block ?_
      refine n_then ?_
      refine c_region ?_
      refine st (v := .int .i64 ((j : Nat) : Int)) (x_move (.tmp rfl hρ4)) ?_
      refine st (v := .int .i64 (((j : Nat) : Int) + 1)) (x_add (k := .i64) (a := ((j : Nat) : Int)) (b := 1) (.tmp rfl rfl) .const (w64 (by omega) (by omega))) ?_
      refine st (v := .int .i64 (((j : Nat) : Int) + 1)) (x_assign (.tmp rfl rfl)) ?_
      refine c_nil ?_
      refine n_then ⟨_, _, rfl, ?_, (j + 1), v, hρ2, hρ3, rfl, (by omega), (by rw [els_has (b := false) (by omega) hc9, if_neg (by simp), List.append_nil]; exact ok), (by rw [els_has (b := false) (by omega) hc9, if_neg (by simp), List.append_nil]; exact hs8), rfl⟩
      omega
  · have hp6 : ¬ ((((j : Nat) : Int) : Int) < 16) := of_decide_eq_false hc6
    refine c_cond_f (t := false) (.tmp rfl (congrArg Value.bool hc6)) rfl ?_
    refine c_exit ?_
    refine x_then ?_
    refine x_then ?_
    refine x_here ?_
    refine n_then ?_
    refine c_seq ?_
    refine c_region ?_
    refine st (v := v) (x_move (.tmp rfl hρ3)) ?_
    refine st (v := v) (x_assign (.tmp rfl rfl)) ?_
    refine c_nil ?_
    refine n_then ?_
    refine c_ret ?_
    refine leave_ret (res_one (v := v) rfl (.mk rfl rfl)) ?_
    have e : els j 0 s = lst s := by rw [show j = 16 by omega]; rfl
    exact ⟨v, rfl, by rw [← e]; exact ok, by rw [← e]; exact hs5⟩

end Go.Proofs.YtdllflllhjaimaaDoor
