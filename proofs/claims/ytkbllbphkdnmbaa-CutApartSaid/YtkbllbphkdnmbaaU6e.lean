/- Steps of the proofs over the functions of this seat, printed by a program (gen.py) and checked by Lean. -/
import Derived.Test.YtkbllbphkdnmbaaUty
import Derived.Test.YtkbllbphkdnmbaaFmM6
import Derived.Test.YtkbllbphkdnmbaaU6d
set_option linter.unusedVariables false
set_option linter.unusedSimpArgs false
namespace Go.Proofs.Ytkbllbphkdnmbaa
open Go Go.FM Go.Proofs
attribute [local irreducible] wpList wpQuiet wpS Code.wp Calls
set_option maxHeartbeats 8000000 in
theorem right_spec {H : Hp} {w : World} {L : List Res} (hs : St H w (L)) {A_l : Option Addr} {n_l c_l : Nat} (l : (List GState)) (h_l : Sl kState H A_l n_l c_l l) : Calls Try.prog 11 #[.slice A_l n_l c_l] w (fun e w' => e = .returned (.bool (rightS l)) ∧ St H w' (L)) := by
  have := h_l.len; have := h_l.le; have : n_l * 48 ≤ 140737488351232 := h_l.bnd
  refine enter (args := [.slice A_l n_l c_l]) (N := 27) Try.func11 rfl rfl rfl ?_
  refine c_seq ?_
  refine c_region ?_
  refine st (v := .bool false) (x_assign .const) ?_
  refine c_nil ?_
  refine n_then ?_
  refine c_seq ?_
  refine c_seq ?_
  refine c_region ?_
  refine st (v := .int .i64 0) (x_assign .const) ?_
  refine c_nil ?_
  refine n_then ?_
  refine c_block ?_
  refine c_loop (fun ρ w mm => ∃ (i : Nat), ρ 0 = .slice A_l n_l c_l ∧ ρ 3 = .int .i64 ((i : Nat) : Int) ∧ (i ≤ n_l) ∧ (∀ (j : Nat) (y : GState), j < i → l[j]? = some y → decide (0 ≤ y.Floor ∧ y.Floor ≤ 1073741824) = true) ∧ St H w (L) ∧ mm = n_l - i) _ ⟨0, rfl, rfl, (by omega), (fun j y h _ => absurd h (Nat.not_lt_zero _)), hs, rfl⟩ ?_
  rintro ρ w mm ⟨i, hρ2, hρ3, hi, ha, hs4, rfl⟩
  refine c_seq ?_
  refine c_seq ?_
  refine c_region ?_
  refine st (v := .int .i64 ((i : Nat) : Int)) (x_move (.tmp rfl hρ3)) ?_
  refine st (v := .slice A_l n_l c_l) (x_move (.tmp rfl hρ2)) ?_
  refine st (v := .int .i64 ((n_l : Nat) : Int)) (x_len (n := n_l) Try.underlying22 (.tmp rfl rfl)) ?_
  refine st (v := .bool (decide ((((i : Nat) : Int) : Int) < ((n_l : Nat) : Int)))) (x_lss (k := .i64) (a := ((i : Nat) : Int)) (b := ((n_l : Nat) : Int)) (.tmp rfl rfl) (.tmp rfl rfl)) ?_
  refine c_nil ?_
  refine n_then ?_
  rcases Bool.eq_false_or_eq_true (decide ((((i : Nat) : Int) : Int) < ((n_l : Nat) : Int))) with hc5 | hc5
  · have hp5 : (((i : Nat) : Int) : Int) < ((n_l : Nat) : Int) := of_decide_eq_true hc5
    refine c_cond_t (t := true) (.tmp rfl (congrArg Value.bool hc5)) rfl ?_
    refine c_skip ?_
    refine n_then ?_
    refine c_seq ?_
    refine c_block ?_
    refine c_seq ?_
    refine c_region ?_
    refine st (v := .slice A_l n_l c_l) (x_move (.tmp rfl hρ2)) ?_
    refine st (v := .int .i64 ((i : Nat) : Int)) (x_move (.tmp rfl hρ3)) ?_
    obtain ⟨e6, b7, o8, cs9, hx10, hA11, hr12, hat13⟩ := h_l.get (i := i) (by omega)
    obtain ⟨A19, n20, c21, rfl, b14, ⟨b15, b16⟩, ⟨b17, b18⟩, hl22⟩ := hr12
    have := hl22.len; have : n20 * 32 ≤ 140737488351232 := hl22.bnd; have := hl22.le
    have hat13x : ∀ {w : World} {L : List Res}, St H w L → At w ⟨b7, o8 + i * 4, none⟩ [.int .u64 ((e6.V.N : Nat) : Int), .int .i64 e6.V.P, .int .i64 e6.Floor, .slice A19 n20 c21] := fun h => hat13 h
    refine st (v := .pointer (some ⟨b7, (o8 + i * 4), none⟩)) (ixo22 (.tmp rfl rfl) hA11 (i := ((i : Nat) : Int)) (.tmp rfl rfl) (by omega) (by omega) (by omega)) ?_
    refine st (v := .pointer (some ⟨b7, (o8 + i * 4) + 2, none⟩)) (fa38_1 (.tmp rfl rfl)) ?_
    refine st (v := .int .i64 e6.Floor) (ld3 (.tmp rfl rfl) ((hat13x hs4).cell 2 rfl)) ?_
    refine st (v := .bool (decide ((e6.Floor : Int) < 0))) (x_lss (k := .i64) (a := e6.Floor) (b := 0) (.tmp rfl rfl) .const) ?_
    refine st (v := .bool (decide ((e6.Floor : Int) < 0))) (x_move (.tmp rfl rfl)) ?_
    rcases Bool.eq_false_or_eq_true (decide ((e6.Floor : Int) < 0)) with hc23 | hc23
    · have hp23 : (e6.Floor : Int) < 0 := of_decide_eq_true hc23
      refine g_no (yl (dj := 16) (b := true) rfl rfl (congrArg Value.bool hc23)) rfl ?_
      refine g_no (yl (dj := 16) (b := true) rfl rfl (congrArg Value.bool hc23)) rfl ?_
      refine g_no (yl (dj := 16) (b := true) rfl rfl (congrArg Value.bool hc23)) rfl ?_
      refine g_no (yl (dj := 16) (b := true) rfl rfl (congrArg Value.bool hc23)) rfl ?_
      refine g_no (yl (dj := 16) (b := true) rfl rfl (congrArg Value.bool hc23)) rfl ?_
      refine g_no (yl (dj := 16) (b := true) rfl rfl (congrArg Value.bool hc23)) rfl ?_
      refine st (v := .bool true) (x_pick_t (.tmp rfl (congrArg Value.bool hc23)) .const) ?_
      refine c_nil ?_
      refine n_then ?_
      refine c_cond_t (t := true) (.tmp rfl rfl) rfl ?_
      refine c_seq ?_
      refine c_region ?_
      refine st (v := .bool false) (x_assign .const) ?_
      refine c_nil ?_
      refine n_then ?_
      refine c_ret ?_
      refine r_block ?_
      refine r_then ?_
      refine r_then ?_
      refine r_block ?_
      refine r_then ?_
      refine leave_ret (res_one (v := .bool false) rfl (.mk rfl rfl)) ?_
      have hans24 : rightS l = false := rightS_no hx10 (by omega)
      rw [hans24]
      exact ⟨rfl, hs4⟩
    · have hp23 : ¬ ((e6.Floor : Int) < 0) := of_decide_eq_false hc23
      refine g_yes (yl (dj := 16) (b := false) rfl rfl (congrArg Value.bool hc23)) ?_
      refine st (v := .slice A_l n_l c_l) (x_move (.tmp rfl hρ2)) ?_
      refine g_yes (yl (dj := 16) (b := false) rfl rfl (congrArg Value.bool hc23)) ?_
      refine st (v := .int .i64 ((i : Nat) : Int)) (x_move (.tmp rfl hρ3)) ?_
      refine g_yes (yl (dj := 16) (b := false) rfl rfl (congrArg Value.bool hc23)) ?_
      refine st (v := .pointer (some ⟨b7, (o8 + i * 4), none⟩)) (ixo22 (.tmp rfl rfl) hA11 (i := ((i : Nat) : Int)) (.tmp rfl rfl) (by omega) (by omega) (by omega)) ?_
      refine g_yes (yl (dj := 16) (b := false) rfl rfl (congrArg Value.bool hc23)) ?_
      refine st (v := .pointer (some ⟨b7, (o8 + i * 4) + 2, none⟩)) (fa38_1 (.tmp rfl rfl)) ?_
      refine g_yes (yl (dj := 16) (b := false) rfl rfl (congrArg Value.bool hc23)) ?_
      refine st (v := .int .i64 e6.Floor) (ld3 (.tmp rfl rfl) ((hat13x hs4).cell 2 rfl)) ?_
      refine g_yes (yl (dj := 16) (b := false) rfl rfl (congrArg Value.bool hc23)) ?_
      refine st (v := .bool (decide ((1073741824 : Int) < e6.Floor))) (x_gtr (k := .i64) (a := e6.Floor) (b := 1073741824) (.tmp rfl rfl) .const) ?_
      refine st (v := .bool (decide ((1073741824 : Int) < e6.Floor))) (x_pick_f (.tmp rfl (congrArg Value.bool hc23)) (.tmp rfl rfl)) ?_
      refine c_nil ?_
      refine n_then ?_
      rcases Bool.eq_false_or_eq_true (decide ((1073741824 : Int) < e6.Floor)) with hc25 | hc25
      · have hp25 : (1073741824 : Int) < e6.Floor := of_decide_eq_true hc25
        refine c_cond_t (t := true) (.tmp rfl (congrArg Value.bool hc25)) rfl ?_
        refine c_seq ?_
        refine c_region ?_
        refine st (v := .bool false) (x_assign .const) ?_
        refine c_nil ?_
        refine n_then ?_
        refine c_ret ?_
        refine r_block ?_
        refine r_then ?_
        refine r_then ?_
        refine r_block ?_
        refine r_then ?_
        refine leave_ret (res_one (v := .bool false) rfl (.mk rfl rfl)) ?_
        have hans26 : rightS l = false := rightS_no hx10 (by omega)
        rw [hans26]
        exact ⟨rfl, hs4⟩
      · have hp25 : ¬ ((1073741824 : Int) < e6.Floor) := of_decide_eq_false hc25
        refine c_cond_f (t := false) (.tmp rfl (congrArg Value.bool hc25)) rfl ?_
        refine c_skip ?_
        refine n_block ?_
        refine n_then ?_
        refine c_region ?_
        refine st (v := .int .i64 ((i : Nat) : Int)) (x_move (.tmp rfl hρ3)) ?_
        refine st (v := .int .i64 (((i + 1) : Nat) : Int)) (x_add (k := .i64) (a := ((i : Nat) : Int)) (b := 1) (.tmp rfl rfl) .const ((w64 (by omega) (by omega)).trans (by omega))) ?_
        refine st (v := .int .i64 (((i + 1) : Nat) : Int)) (x_assign (.tmp rfl rfl)) ?_
        refine c_nil ?_
        refine n_then ⟨_, _, rfl, ?_, (i + 1), hρ2, rfl, (by omega), (next_all ha hx10 (decide_eq_true (by omega))), hs4, rfl⟩
        omega
  · have hp5 : ¬ ((((i : Nat) : Int) : Int) < ((n_l : Nat) : Int)) := of_decide_eq_false hc5
    refine c_cond_f (t := false) (.tmp rfl (congrArg Value.bool hc5)) rfl ?_
    refine c_exit ?_
    refine x_then ?_
    refine x_then ?_
    refine x_here ?_
    refine n_then ?_
    refine c_seq ?_
    refine c_region ?_
    refine st (v := .slice A_l n_l c_l) (x_move (.tmp rfl hρ2)) ?_
    refine st (v := .int .i64 ((n_l : Nat) : Int)) (x_len (n := n_l) Try.underlying22 (.tmp rfl rfl)) ?_
    refine st (v := .bool (decide ((((n_l : Nat) : Int) : Int) ≤ 40))) (x_leq (k := .i64) (a := ((n_l : Nat) : Int)) (b := 40) (.tmp rfl rfl) .const) ?_
    refine st (v := .bool (decide ((((n_l : Nat) : Int) : Int) ≤ 40))) (x_assign (.tmp rfl rfl)) ?_
    refine c_nil ?_
    refine n_then ?_
    refine c_ret ?_
    refine leave_ret (res_one (v := .bool (decide ((((n_l : Nat) : Int) : Int) ≤ 40))) rfl (.mk rfl rfl)) ?_
    have hans27 : rightS l = (decide ((((n_l : Nat) : Int) : Int) ≤ 40)) := (rightS_end ha (by omega)).trans (decide_eq_decide.2 (by omega))
    rw [hans27]
    exact ⟨rfl, hs4⟩

set_option maxHeartbeats 8000000 in
theorem awake_spec {H : Hp} {w : World} {L : List Res} (hs : St H w (L))  : Calls Try.prog 10 #[] w (fun e w' => e = .returned (.bool true) ∧ St H w' (L)) := by
  refine enter (args := []) (N := 33) Try.func10 rfl rfl rfl ?_
  refine c_seq ?_
  refine c_region ?_
  refine st (v := .bool false) (x_assign .const) ?_
  refine c_nil ?_
  refine n_then ?_
  refine c_seq ?_
  refine c_region ?_
  refine st (v := .agg #[.int .u64 1, .int .i64 0]) (bl25 (ps := [(0, .int .u64 1)]) (.cons .const Evp.nil) rfl) ?_
  refine st_m (m_lit (n := 1) (ps := [(0, .int .u8 99)]) (cs := [.int .u8 99]) Try.underlying40 inf5 (.cons .const Evp.nil) (by decide) (by decide) rfl rfl hs) ?_
  rintro _ w2 ⟨g1, rfl, hs4⟩
  refine st_m (m_litBytes (n := 1) (c := 1) Try.underlying40 Try.underlying5 hs4 (.tmp rfl rfl)) ?_
  rintro _ w5 ⟨rfl, H7, hle8, hs6, rd9⟩
  have hp10 : Bs H7 ((some ⟨g1, 0, none⟩)) 1 1 [99] := ⟨rd9, rfl, Nat.le_refl _, by decide, by unfold Small; decide⟩
  refine st (v := .agg #[.int .i64 0, .slice (some ⟨g1, 0, none⟩) 1 1]) (bl47 (ps := [(1, .slice (some ⟨g1, 0, none⟩) 1 1)]) (.cons (.tmp rfl rfl) Evp.nil) rfl) ?_
  refine st_m (m_lit (n := 1) (ps := [(0, .int .u8 100)]) (cs := [.int .u8 100]) Try.underlying40 inf5 (.cons .const Evp.nil) (by decide) (by decide) rfl rfl hs6) ?_
  rintro _ w12 ⟨g11, rfl, hs14⟩
  refine st_m (m_litBytes (n := 1) (c := 1) Try.underlying40 Try.underlying5 hs14 (.tmp rfl rfl)) ?_
  rintro _ w15 ⟨rfl, H17, hle18, hs16, rd19⟩
  have hp20 : Bs H17 ((some ⟨g11, 0, none⟩)) 1 1 [100] := ⟨rd19, rfl, Nat.le_refl _, by decide, by unfold Small; decide⟩
  refine st (v := .agg #[.int .i64 0, .slice (some ⟨g11, 0, none⟩) 1 1]) (bl47 (ps := [(1, .slice (some ⟨g11, 0, none⟩) 1 1)]) (.cons (.tmp rfl rfl) Evp.nil) rfl) ?_
  refine st_m (m_lit (n := 2) (ps := [(0, .agg #[.int .i64 0, .slice (some ⟨g1, 0, none⟩) 1 1]), (1, .agg #[.int .i64 0, .slice (some ⟨g11, 0, none⟩) 1 1])]) (cs := [.int .i64 0, .slice (some ⟨g1, 0, none⟩) 1 1, .int .i64 0, .slice (some ⟨g11, 0, none⟩) 1 1]) Try.underlying29 inf47 (.cons (.tmp rfl rfl) (.cons (.tmp rfl rfl) Evp.nil)) (by decide) (by decide) rfl rfl hs16) ?_
  rintro _ w22 ⟨g21, rfl, hs24⟩
  refine st (v := .agg #[.int .u64 1, .int .i64 0, .int .i64 2, .slice (some ⟨g21, 0, none⟩) 2 2]) (bl38 (ps := [(0, .agg #[.int .u64 1, .int .i64 0]), (1, .int .i64 2), (2, .slice (some ⟨g21, 0, none⟩) 2 2)]) (.cons (.tmp rfl rfl) (.cons .const (.cons (.tmp rfl rfl) Evp.nil))) rfl) ?_
  have hr30 : kItem.rep H17 (GItem.mk 0 [99]) [.int .i64 0, .slice (some ⟨g1, 0, none⟩) 1 1] := ⟨(some ⟨g1, 0, none⟩), 1, 1, rfl, (show IB 0 from ⟨by omega, by omega⟩), ⟨(hp10.mono hle18), by omega⟩⟩
  have hr31 : kItem.rep H17 (GItem.mk 0 [100]) [.int .i64 0, .slice (some ⟨g11, 0, none⟩) 1 1] := ⟨(some ⟨g11, 0, none⟩), 1, 1, rfl, (show IB 0 from ⟨by omega, by omega⟩), ⟨hp20, by omega⟩⟩
  have hk32 : kItem.toKn.rows H17 [(GItem.mk 0 [99]), (GItem.mk 0 [100])] [.int .i64 0, .slice (some ⟨g1, 0, none⟩) 1 1, .int .i64 0, .slice (some ⟨g11, 0, none⟩) 1 1] := Kn.rows_snoc (Kn.rows_one hr30) hr31
  obtain ⟨H25, hle26, hs27, rd28, hb29⟩ := hs24.freezeObj
  have sp33 : Sl kItem H25 ((some ⟨g21, 0, none⟩)) 2 2 [(GItem.mk 0 [99]), (GItem.mk 0 [100])] := ⟨⟨_, rd28, Kn.rows_mono hk32 hle26⟩, rfl, Nat.le_refl _, by decide, by decide⟩
  refine st_m (m_lit (n := 1) (ps := [(0, .agg #[.int .u64 1, .int .i64 0, .int .i64 2, .slice (some ⟨g21, 0, none⟩) 2 2])]) (cs := [.int .u64 1, .int .i64 0, .int .i64 2, .slice (some ⟨g21, 0, none⟩) 2 2]) Try.underlying22 inf38 (.cons (.tmp rfl rfl) Evp.nil) (by decide) (by decide) rfl rfl hs27) ?_
  rintro _ w35 ⟨g34, rfl, hs37⟩
  refine st (v := .agg #[.int .u64 1, .int .i64 0]) (bl25 (ps := [(0, .int .u64 1)]) (.cons .const Evp.nil) rfl) ?_
  have hr43 : kState.rep H25 (GState.mk (GViewID.mk 1 0) 2 [(GItem.mk 0 [99]), (GItem.mk 0 [100])]) [.int .u64 1, .int .i64 0, .int .i64 2, .slice (some ⟨g21, 0, none⟩) 2 2] := ⟨(some ⟨g21, 0, none⟩), 2, 2, rfl, (show 1 < 18446744073709551616 from by omega), (show IB 0 from ⟨by omega, by omega⟩), (show IB 2 from ⟨by omega, by omega⟩), sp33⟩
  have hk44 : kState.toKn.rows H25 [(GState.mk (GViewID.mk 1 0) 2 [(GItem.mk 0 [99]), (GItem.mk 0 [100])])] [.int .u64 1, .int .i64 0, .int .i64 2, .slice (some ⟨g21, 0, none⟩) 2 2] := Kn.rows_one hr43
  obtain ⟨H38, hle39, hs40, rd41, hb42⟩ := hs37.freezeObj
  have sp45 : Sl kState H38 ((some ⟨g34, 0, none⟩)) 1 1 [(GState.mk (GViewID.mk 1 0) 2 [(GItem.mk 0 [99]), (GItem.mk 0 [100])])] := ⟨⟨_, rd41, Kn.rows_mono hk44 hle39⟩, rfl, Nat.le_refl _, by decide, by decide⟩
  have hr46 : kViewID.rep H38 (GViewID.mk 1 0) [.int .u64 1, .int .i64 0] := ⟨rfl, (show 1 < 18446744073709551616 from by omega), (show IB 0 from ⟨by omega, by omega⟩)⟩
  refine st_c cb13 .func (evs3 (.tmp rfl rfl) (.tmp rfl rfl) .const) (rest_spec hs40 [(GState.mk (GViewID.mk 1 0) 2 [(GItem.mk 0 [99]), (GItem.mk 0 [100])])] sp45 (GViewID.mk 1 0) hr46 3 ⟨by omega, by omega⟩ (by decide)) ?_
  rintro e w47 ⟨H49, A51, n52, c53, hle50, rfl, sp54, hs48⟩
  have := sp54.len; have := sp54.le; have : n52 * 32 ≤ 140737488351232 := sp54.bnd
  refine ⟨_, rfl, ?_⟩
  refine st (v := .tuple #[.slice A51 n52 c53, .int .i64 (((restS [(GState.mk (GViewID.mk 1 0) 2 [(GItem.mk 0 [99]), (GItem.mk 0 [100])])] (GViewID.mk 1 0) 3).2 : Nat) : Int)]) (x_move (.tmp rfl rfl)) ?_
  refine st (v := .slice A51 n52 c53) (x_extract (.tmp rfl rfl) (i := 0) rfl) ?_
  refine st (v := .int .i64 (((restS [(GState.mk (GViewID.mk 1 0) 2 [(GItem.mk 0 [99]), (GItem.mk 0 [100])])] (GViewID.mk 1 0) 3).2 : Nat) : Int)) (x_extract (.tmp rfl rfl) (i := 1) rfl) ?_
  refine st (v := .slice A51 n52 c53) (x_assign (.tmp rfl rfl)) ?_
  refine st (v := .int .i64 (((restS [(GState.mk (GViewID.mk 1 0) 2 [(GItem.mk 0 [99]), (GItem.mk 0 [100])])] (GViewID.mk 1 0) 3).2 : Nat) : Int)) (x_assign (.tmp rfl rfl)) ?_
  refine c_nil ?_
  refine n_then ?_
  refine c_seq ?_
  refine c_region ?_
  have hrs : ((restS [(GState.mk (GViewID.mk 1 0) 2 [(GItem.mk 0 [99]), (GItem.mk 0 [100])])] (GViewID.mk 1 0) 3).1) = [GItem.mk 0 [100]] := by decide +kernel
  have hrn : n52 = 1 := by rw [← sp54.len, hrs]; rfl
  have := hrn
  refine st (v := .int .i64 (((restS [(GState.mk (GViewID.mk 1 0) 2 [(GItem.mk 0 [99]), (GItem.mk 0 [100])])] (GViewID.mk 1 0) 3).2 : Nat) : Int)) (x_move (.tmp rfl rfl)) ?_
  refine st (v := .bool (decide (((((restS [(GState.mk (GViewID.mk 1 0) 2 [(GItem.mk 0 [99]), (GItem.mk 0 [100])])] (GViewID.mk 1 0) 3).2 : Nat) : Int) : Int) = 0))) (x_eql (k := .i64) (a := (((restS [(GState.mk (GViewID.mk 1 0) 2 [(GItem.mk 0 [99]), (GItem.mk 0 [100])])] (GViewID.mk 1 0) 3).2 : Nat) : Int)) (b := 0) (.tmp rfl rfl) .const) ?_
  refine st (v := .bool (decide (((((restS [(GState.mk (GViewID.mk 1 0) 2 [(GItem.mk 0 [99]), (GItem.mk 0 [100])])] (GViewID.mk 1 0) 3).2 : Nat) : Int) : Int) = 0))) (x_move (.tmp rfl rfl)) ?_
  have hc55 : (decide (((((restS [(GState.mk (GViewID.mk 1 0) 2 [(GItem.mk 0 [99]), (GItem.mk 0 [100])])] (GViewID.mk 1 0) 3).2 : Nat) : Int) : Int) = 0)) = true := (decide_eq_true (by decide +kernel))
  refine g_yes (yl (dj := 20) (b := true) rfl rfl (congrArg Value.bool hc55)) ?_
  refine st (v := .slice A51 n52 c53) (x_move (.tmp rfl rfl)) ?_
  refine g_yes (yl (dj := 20) (b := true) rfl rfl (congrArg Value.bool hc55)) ?_
  refine st (v := .int .i64 ((n52 : Nat) : Int)) (x_len (n := n52) Try.underlying29 (.tmp rfl rfl)) ?_
  refine g_yes (yl (dj := 20) (b := true) rfl rfl (congrArg Value.bool hc55)) ?_
  refine st (v := .bool (decide ((((n52 : Nat) : Int) : Int) = 1))) (x_eql (k := .i64) (a := ((n52 : Nat) : Int)) (b := 1) (.tmp rfl rfl) .const) ?_
  refine st (v := .bool (decide ((((n52 : Nat) : Int) : Int) = 1))) (x_pick_t (.tmp rfl (congrArg Value.bool hc55)) (.tmp rfl rfl)) ?_
  refine st (v := .bool (decide ((((n52 : Nat) : Int) : Int) = 1))) (x_move (.tmp rfl rfl)) ?_
  have hc56 : (decide ((((n52 : Nat) : Int) : Int) = 1)) = true := (decide_eq_true (by omega))
  refine g_yes (yl (dj := 25) (b := true) rfl rfl (congrArg Value.bool hc56)) ?_
  refine st (v := .slice A51 n52 c53) (x_move (.tmp rfl rfl)) ?_
  refine g_yes (yl (dj := 25) (b := true) rfl rfl (congrArg Value.bool hc56)) ?_
  obtain ⟨e57, b58, o59, cs60, hx61, hA62, hr63, hat64⟩ := sp54.get (i := 0) (by omega)
  obtain ⟨A67, n68, c69, rfl, ⟨b65, b66⟩, hy70⟩ := hr63
  have := hy70.len; have := hy70.bnd; have := hy70.le
  have hat64x : ∀ {w : World} {L : List Res}, St H49 w L → At w ⟨b58, o59 + 0 * 2, none⟩ [.int .i64 e57.From, .slice A67 n68 c69] := fun h => hat64 h
  have he1 : e57 = GItem.mk 0 [100] := by rw [hrs] at hx61; exact (Option.some.inj hx61).symm
  refine st (v := .pointer (some ⟨b58, (o59 + 0 * 2), none⟩)) (ixo29 (.tmp rfl rfl) hA62 (i := 0) .const (by omega) (by omega) (by omega)) ?_
  refine g_yes (yl (dj := 25) (b := true) rfl rfl (congrArg Value.bool hc56)) ?_
  refine st (v := .pointer (some ⟨b58, (o59 + 0 * 2) + 1, none⟩)) (fa47_1 (.tmp rfl rfl)) ?_
  refine g_yes (yl (dj := 25) (b := true) rfl rfl (congrArg Value.bool hc56)) ?_
  refine st (v := .slice A67 n68 c69) (ld40 (.tmp rfl rfl) ((hat64x hs48).cell 1 rfl)) ?_
  refine g_yes (yl (dj := 25) (b := true) rfl rfl (congrArg Value.bool hc56)) ?_
  refine st (v := .string (bstr e57.M)) (hy70.toBs.str Try.underlying40 Try.underlying5 Try.underlying9 hs48 (.tmp rfl rfl)) ?_
  refine g_yes (yl (dj := 25) (b := true) rfl rfl (congrArg Value.bool hc56)) ?_
  refine st (v := .bool (decide ((bstr e57.M) = (⟨#[100]⟩)))) (x_eqlS (.tmp rfl rfl) .const) ?_
  refine st (v := .bool (decide ((bstr e57.M) = (⟨#[100]⟩)))) (x_pick_t (.tmp rfl (congrArg Value.bool hc56)) (.tmp rfl rfl)) ?_
  refine st (v := .bool (decide ((bstr e57.M) = (⟨#[100]⟩)))) (x_assign (.tmp rfl rfl)) ?_
  refine c_nil ?_
  refine n_then ?_
  refine c_ret ?_
  refine leave_ret (res_one (v := .bool (decide ((bstr e57.M) = (⟨#[100]⟩)))) rfl (.mk rfl rfl)) ?_
  have hyes : (decide ((bstr e57.M) = (⟨#[100]⟩))) = true := (decide_eq_true (by rw [he1]; rfl))
  rw [hyes]
  exact ⟨rfl, (hs48.weaken ((((hle8.trans hle18).trans hle26).trans hle39).trans hle50))⟩

end Go.Proofs.Ytkbllbphkdnmbaa
