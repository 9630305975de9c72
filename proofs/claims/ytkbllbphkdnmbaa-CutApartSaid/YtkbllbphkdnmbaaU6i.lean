/- Steps of the proofs over the functions of this seat, printed by a program (gen.py) and checked by Lean. -/
import Derived.Test.YtkbllbphkdnmbaaUty
import Derived.Test.YtkbllbphkdnmbaaFmM6
import Derived.Test.YtkbllbphkdnmbaaU6h
set_option linter.unusedVariables false
set_option linter.unusedSimpArgs false
namespace Go.Proofs.Ytkbllbphkdnmbaa
open Go Go.FM Go.Proofs
attribute [local irreducible] wpList wpQuiet wpS Code.wp Calls
set_option maxHeartbeats 8000000 in
theorem form_p {H : Hp} {w : World} {L : List Res} (hs : St H w (L)) (x : GItem) {k_x : List Value} (h_x : kItem.rep H x k_x) : Calls Try.prog 34 #[.agg k_x.toArray] w (fun e w' => e = .returned (.bool (badFrom x)) ∧ St H w' (L)) := by
  obtain ⟨A3, n4, c5, rfl, ⟨b1, b2⟩, hy6⟩ := h_x
  have := hy6.len; have := hy6.bnd; have := hy6.le
  refine enter (args := [.agg #[.int .i64 x.From, .slice A3 n4 c5]]) (N := 11) Try.func34 rfl rfl rfl ?_
  refine c_seq ?_
  refine c_region ?_
  refine st_m (m_box (cs := [.int .i64 x.From, .slice A3 n4 c5]) hs (v := .agg #[.int .i64 x.From, .slice A3 n4 c5]) (.tmp rfl rfl) rfl) ?_
  rintro _ w8 ⟨g7, rfl, hs10⟩
  refine st (v := .bool false) (x_assign .const) ?_
  refine c_nil ?_
  refine n_then ?_
  refine c_seq ?_
  refine c_region ?_
  refine st (v := .pointer (some ⟨g7, 0 + 0, none⟩)) (fa47_0 (.tmp rfl rfl)) ?_
  refine st (v := .int .i64 x.From) (ld3 (.tmp rfl rfl) (hs10.cell 0 rfl (0 + 0) rfl)) ?_
  refine st (v := .bool (decide ((x.From : Int) < 0))) (x_lss (k := .i64) (a := x.From) (b := 0) (.tmp rfl rfl) .const) ?_
  refine st (v := .bool (decide ((x.From : Int) < 0))) (x_move (.tmp rfl rfl)) ?_
  rcases Bool.eq_false_or_eq_true (decide ((x.From : Int) < 0)) with hc11 | hc11
  · have hp11 : (x.From : Int) < 0 := of_decide_eq_true hc11
    refine g_no (yl (dj := 6) (b := true) rfl rfl (congrArg Value.bool hc11)) rfl ?_
    refine g_no (yl (dj := 6) (b := true) rfl rfl (congrArg Value.bool hc11)) rfl ?_
    refine g_no (yl (dj := 6) (b := true) rfl rfl (congrArg Value.bool hc11)) rfl ?_
    refine st (v := .bool true) (x_pick_t (.tmp rfl (congrArg Value.bool hc11)) .const) ?_
    refine st (v := .bool true) (x_assign (.tmp rfl rfl)) ?_
    refine c_nil ?_
    refine n_then ?_
    refine c_ret ?_
    refine leave_ret (res_one (v := .bool true) rfl (.mk rfl rfl)) ?_
    have hans12 : (badFrom x) = true := by unfold badFrom; first | exact decide_eq_true (by omega) | exact decide_eq_decide.2 (by omega)
    rw [hans12]
    exact ⟨rfl, hs10.drop⟩
  · have hp11 : ¬ ((x.From : Int) < 0) := of_decide_eq_false hc11
    refine g_yes (yl (dj := 6) (b := false) rfl rfl (congrArg Value.bool hc11)) ?_
    refine st (v := .pointer (some ⟨g7, 0 + 0, none⟩)) (fa47_0 (.tmp rfl rfl)) ?_
    refine g_yes (yl (dj := 6) (b := false) rfl rfl (congrArg Value.bool hc11)) ?_
    refine st (v := .int .i64 x.From) (ld3 (.tmp rfl rfl) (hs10.cell 0 rfl (0 + 0) rfl)) ?_
    refine g_yes (yl (dj := 6) (b := false) rfl rfl (congrArg Value.bool hc11)) ?_
    refine st (v := .bool (decide ((16 : Int) ≤ x.From))) (x_geq (k := .i64) (a := x.From) (b := 16) (.tmp rfl rfl) .const) ?_
    refine st (v := .bool (decide ((16 : Int) ≤ x.From))) (x_pick_f (.tmp rfl (congrArg Value.bool hc11)) (.tmp rfl rfl)) ?_
    refine st (v := .bool (decide ((16 : Int) ≤ x.From))) (x_assign (.tmp rfl rfl)) ?_
    refine c_nil ?_
    refine n_then ?_
    refine c_ret ?_
    refine leave_ret (res_one (v := .bool (decide ((16 : Int) ≤ x.From))) rfl (.mk rfl rfl)) ?_
    have hans13 : (badFrom x) = (decide ((16 : Int) ≤ x.From)) := by unfold badFrom; first | exact decide_eq_true (by omega) | exact decide_eq_decide.2 (by omega)
    rw [hans13]
    exact ⟨rfl, hs10.drop⟩

set_option maxHeartbeats 8000000 in
theorem index_item {H : Hp} {w : World} {L : List Res} (hs : St H w (L)) {A_l : Option Addr} {n_l c_l : Nat} (l : (List GItem)) (h_l : Sl kItem H A_l n_l c_l l) {f_p : Nat} {cap_p : Array Value} (p : GItem → Bool) (cb_p : Cb Try.prog f_p) (h_p : ∀ {w : World} {L : List Res} (hs : St H w L) (x0_ : GItem) {k_x0_ : List Value} (h_x0_ : kItem.rep H x0_ k_x0_), Calls Try.prog f_p (#[.agg k_x0_.toArray] ++ cap_p) w (fun e w' => e = .returned (.bool (p x0_)) ∧ St H w' L)) : Calls Try.prog 40 #[.slice A_l n_l c_l, .func (.func f_p) #[] cap_p] w (fun e w' => e = .returned (.int .i64 (idxP p l)) ∧ St H w' (L)) := by
  have := h_l.len; have := h_l.le; have : n_l * 32 ≤ 140737488351232 := h_l.bnd
  refine enter (args := [.slice A_l n_l c_l, .func (.func f_p) #[] cap_p]) (N := 19) Try.func40 rfl rfl rfl ?_
  refine c_seq ?_
  refine c_region ?_
  refine st (v := .int .i64 0) (x_assign .const) ?_
  refine c_nil ?_
  refine n_then ?_
  refine c_seq ?_
  refine c_seq ?_
  refine c_region ?_
  refine st (v := .slice A_l n_l c_l) (x_move (.tmp rfl rfl)) ?_
  refine st (v := .int .i64 ((n_l : Nat) : Int)) (x_len (n := n_l) Try.underlying29 (.tmp rfl rfl)) ?_
  refine st (v := .int .i64 0) (x_move .const) ?_
  refine c_nil ?_
  refine n_then ?_
  refine c_block ?_
  refine c_loop (fun ρ w mm => ∃ (i : Nat), ρ 0 = .slice A_l n_l c_l ∧ ρ 1 = .func (.func f_p) #[] cap_p ∧ ρ 7 = .int .i64 ((n_l : Nat) : Int) ∧ ρ 8 = .int .i64 ((i : Nat) : Int) ∧ (i ≤ n_l) ∧ (∀ (j : Nat) (y : GItem), j < i → l[j]? = some y → p y = false) ∧ St H w (L) ∧ mm = n_l - i) _ ⟨0, rfl, rfl, rfl, rfl, (by omega), (fun j y h _ => absurd h (Nat.not_lt_zero _)), hs, rfl⟩ ?_
  rintro ρ w mm ⟨i, hρ2, hρ3, hρ4, hρ5, hi, ha, hs6, rfl⟩
  refine c_seq ?_
  refine c_region ?_
  refine st (v := .bool (decide ((((i : Nat) : Int) : Int) < ((n_l : Nat) : Int)))) (x_lss (k := .i64) (a := ((i : Nat) : Int)) (b := ((n_l : Nat) : Int)) (.tmp rfl hρ5) (.tmp rfl hρ4)) ?_
  refine c_nil ?_
  refine n_then ?_
  refine c_seq ?_
  rcases Bool.eq_false_or_eq_true (decide ((((i : Nat) : Int) : Int) < ((n_l : Nat) : Int))) with hc7 | hc7
  · have hp7 : (((i : Nat) : Int) : Int) < ((n_l : Nat) : Int) := of_decide_eq_true hc7
    refine c_cond_t (t := true) (.tmp rfl (congrArg Value.bool hc7)) rfl ?_
    refine c_skip ?_
    refine n_then ?_
    refine c_seq ?_
    refine c_block ?_
    refine c_seq ?_
    refine c_region ?_
    refine st (v := .int .i64 ((i : Nat) : Int)) (x_move (.tmp rfl hρ5)) ?_
    refine st (v := .int .i64 ((i : Nat) : Int)) (x_assign (.tmp rfl rfl)) ?_
    refine c_nil ?_
    refine n_then ?_
    refine c_seq ?_
    refine c_region ?_
    refine st (v := .func (.func f_p) #[] cap_p) (x_move (.tmp rfl hρ3)) ?_
    refine st (v := .slice A_l n_l c_l) (x_move (.tmp rfl hρ2)) ?_
    refine st (v := .int .i64 ((i : Nat) : Int)) (x_move (.tmp rfl rfl)) ?_
    obtain ⟨e8, b9, o10, cs11, hx12, hA13, hr14, hat15⟩ := h_l.get (i := i) (by omega)
    obtain ⟨A18, n19, c20, rfl, ⟨b16, b17⟩, hy21⟩ := hr14
    have := hy21.len; have := hy21.bnd; have := hy21.le
    have hat15x : ∀ {w : World} {L : List Res}, St H w L → At w ⟨b9, o10 + i * 2, none⟩ [.int .i64 e8.From, .slice A18 n19 c20] := fun h => hat15 h
    refine st (v := .pointer (some ⟨b9, (o10 + i * 2), none⟩)) (ixo29 (.tmp rfl rfl) hA13 (i := ((i : Nat) : Int)) (.tmp rfl rfl) (by omega) (by omega) (by omega)) ?_
    refine st (v := .agg #[.int .i64 e8.From, .slice A18 n19 c20]) (ld47 (cs := [.int .i64 e8.From, .slice A18 n19 c20]) (.tmp rfl rfl) ((hat15x hs6).sub 0 rfl) rfl) ?_
    have hr22 : kItem.rep H e8 [.int .i64 e8.From, .slice A18 n19 c20] := ⟨A18, n19, c20, rfl, ⟨b16, b17⟩, hy21⟩
    refine st_cc cb_p (.tmp rfl rfl) (evs1 (.tmp rfl rfl)) rfl (h_p hs6 e8 hr22) ?_
    rintro e w23 ⟨rfl, hs24⟩
    refine ⟨_, rfl, ?_⟩
    refine c_nil ?_
    refine n_then ?_
    rcases Bool.eq_false_or_eq_true (p e8) with hc25 | hc25
    · refine c_cond_t (t := true) (.tmp rfl (congrArg Value.bool hc25)) rfl ?_
      refine c_seq ?_
      refine c_region ?_
      refine st (v := .int .i64 ((i : Nat) : Int)) (x_move (.tmp rfl rfl)) ?_
      refine st (v := .int .i64 ((i : Nat) : Int)) (x_assign (.tmp rfl rfl)) ?_
      refine c_nil ?_
      refine n_then ?_
      refine c_ret ?_
      refine r_block ?_
      refine r_then ?_
      refine r_then ?_
      refine r_block ?_
      refine r_then ?_
      refine leave_ret (res_one (v := .int .i64 ((i : Nat) : Int)) rfl (.mk rfl rfl)) ?_
      have hans26 : idxP p l = ((i : Nat) : Int) := idxP_at p l i _ hx12 hc25 ha
      rw [hans26]
      exact ⟨rfl, hs24⟩
    · refine c_cond_f (t := false) (.tmp rfl (congrArg Value.bool hc25)) rfl ?_
      refine c_skip ?_
      refine n_block ?_
      refine n_then ?_
      refine c_region ?_
      refine st (v := .int .i64 (((i + 1) : Nat) : Int)) (x_add (k := .i64) (a := ((i : Nat) : Int)) (b := 1) (.tmp rfl hρ5) .const ((w64 (by omega) (by omega)).trans (by omega))) ?_
      refine st (v := .int .i64 (((i + 1) : Nat) : Int)) (x_move (.tmp rfl rfl)) ?_
      refine c_nil ?_
      refine n_then ⟨_, _, rfl, ?_, (i + 1), hρ2, hρ3, hρ4, rfl, (by omega), (before_next ha hx12 hc25), hs24, rfl⟩
      omega
  · have hp7 : ¬ ((((i : Nat) : Int) : Int) < ((n_l : Nat) : Int)) := of_decide_eq_false hc7
    refine c_cond_f (t := false) (.tmp rfl (congrArg Value.bool hc7)) rfl ?_
    refine c_exit ?_
    refine x_then ?_
    refine x_then ?_
    refine x_here ?_
    refine n_then ?_
    refine c_seq ?_
    refine c_region ?_
    refine st (v := .int .i64 (-1)) (x_assign .const) ?_
    refine c_nil ?_
    refine n_then ?_
    refine c_ret ?_
    refine leave_ret (res_one (v := .int .i64 (-1)) rfl (.mk rfl rfl)) ?_
    have hans27 : idxP p l = -1 := idxP_none p l (fun j y hy => ha j y (by have := (List.getElem?_eq_some_iff.1 hy).1; omega) hy)
    rw [hans27]
    exact ⟨rfl, hs6⟩

set_option maxHeartbeats 8000000 in
theorem contains_item {H : Hp} {w : World} {L : List Res} (hs : St H w (L)) {A_l : Option Addr} {n_l c_l : Nat} (l : (List GItem)) (h_l : Sl kItem H A_l n_l c_l l) {f_p : Nat} {cap_p : Array Value} (p : GItem → Bool) (cb_p : Cb Try.prog f_p) (h_p : ∀ {w : World} {L : List Res} (hs : St H w L) (x0_ : GItem) {k_x0_ : List Value} (h_x0_ : kItem.rep H x0_ k_x0_), Calls Try.prog f_p (#[.agg k_x0_.toArray] ++ cap_p) w (fun e w' => e = .returned (.bool (p x0_)) ∧ St H w' L)) : Calls Try.prog 33 #[.slice A_l n_l c_l, .func (.func f_p) #[] cap_p] w (fun e w' => e = .returned (.bool (l.any p)) ∧ St H w' (L)) := by
  have := h_l.len; have := h_l.le; have : n_l * 32 ≤ 140737488351232 := h_l.bnd
  refine enter (args := [.slice A_l n_l c_l, .func (.func f_p) #[] cap_p]) (N := 9) Try.func33 rfl rfl rfl ?_
  refine c_seq ?_
  refine c_region ?_
  refine st (v := .bool false) (x_assign .const) ?_
  refine c_nil ?_
  refine n_then ?_
  refine c_seq ?_
  refine c_region ?_
  refine st (v := .slice A_l n_l c_l) (x_move (.tmp rfl rfl)) ?_
  refine st (v := .func (.func f_p) #[] cap_p) (x_move (.tmp rfl rfl)) ?_
  refine st_c cb40 .func (evs2 (.tmp rfl rfl) (.tmp rfl rfl)) (index_item hs l h_l p cb_p h_p ) ?_
  rintro e w1 ⟨rfl, hs2⟩
  refine ⟨_, rfl, ?_⟩
  refine st (v := .bool (decide ((0 : Int) ≤ (idxP p l)))) (x_geq (k := .i64) (a := (idxP p l)) (b := 0) (.tmp rfl rfl) .const) ?_
  refine st (v := .bool (decide ((0 : Int) ≤ (idxP p l)))) (x_assign (.tmp rfl rfl)) ?_
  refine c_nil ?_
  refine n_then ?_
  refine c_ret ?_
  refine leave_ret (res_one (v := .bool (decide ((0 : Int) ≤ (idxP p l)))) rfl (.mk rfl rfl)) ?_
  have hans3 : (l.any p) = (decide ((0 : Int) ≤ (idxP p l))) := (idxP_any p l).symm
  rw [hans3]
  exact ⟨rfl, hs2⟩

set_option maxHeartbeats 8000000 in
theorem cform_spec {H : Hp} {w : World} {L : List Res} (hs : St H w (L)) (s : GState) {k_s : List Value} (h_s : kState.rep H s k_s) : Calls Try.prog 19 #[.agg k_s.toArray] w (fun e w' => e = .returned (.bool (sForm s)) ∧ St H w' (L)) := by
  obtain ⟨A6, n7, c8, rfl, b1, ⟨b2, b3⟩, ⟨b4, b5⟩, hl9⟩ := h_s
  have := hl9.len; have : n7 * 32 ≤ 140737488351232 := hl9.bnd; have := hl9.le
  refine enter (args := [.agg #[.int .u64 ((s.V.N : Nat) : Int), .int .i64 s.V.P, .int .i64 s.Floor, .slice A6 n7 c8]]) (N := 32) Try.func19 rfl rfl rfl ?_
  have hE : sEnd s = s.Floor + (s.Items.length : Int) := rfl
  refine c_seq ?_
  refine c_region ?_
  refine st_m (m_box (cs := [.int .u64 ((s.V.N : Nat) : Int), .int .i64 s.V.P, .int .i64 s.Floor, .slice A6 n7 c8]) hs (v := .agg #[.int .u64 ((s.V.N : Nat) : Int), .int .i64 s.V.P, .int .i64 s.Floor, .slice A6 n7 c8]) (.tmp rfl rfl) rfl) ?_
  rintro _ w11 ⟨g10, rfl, hs13⟩
  refine st (v := .bool false) (x_assign .const) ?_
  refine c_nil ?_
  refine n_then ?_
  refine c_seq ?_
  refine c_seq ?_
  refine c_region ?_
  refine st (v := .pointer (some ⟨g10, 0 + 0, none⟩)) (fa38_0 (.tmp rfl rfl)) ?_
  refine st (v := .agg #[.int .u64 ((s.V.N : Nat) : Int), .int .i64 s.V.P]) (ld25 (cs := [.int .u64 ((s.V.N : Nat) : Int), .int .i64 s.V.P]) (.tmp rfl rfl) (hs13.at_ 0 rfl (0 + 0) rfl) rfl) ?_
  refine st_c cb32 .func (evs1 (.tmp rfl rfl)) (form_spec hs13 s.V.N s.V.P) ?_
  rintro e w14 ⟨rfl, hs15⟩
  refine ⟨_, rfl, ?_⟩
  refine st (v := .bool (!(formV s.V.N s.V.P))) (x_not (.tmp rfl rfl)) ?_
  refine st (v := .bool (!(formV s.V.N s.V.P))) (x_move (.tmp rfl rfl)) ?_
  rcases Bool.eq_false_or_eq_true (formV s.V.N s.V.P) with hc16 | hc16
  · refine g_yes (yl (dj := 7) (b := false) rfl rfl (congrArg Value.bool (by rw [hc16]; rfl))) ?_
    refine st (v := .pointer (some ⟨g10, 0 + 2, none⟩)) (fa38_1 (.tmp rfl rfl)) ?_
    refine g_yes (yl (dj := 7) (b := false) rfl rfl (congrArg Value.bool (by rw [hc16]; rfl))) ?_
    refine st (v := .int .i64 s.Floor) (ld3 (.tmp rfl rfl) (hs15.cell 0 rfl (0 + 2) rfl)) ?_
    refine g_yes (yl (dj := 7) (b := false) rfl rfl (congrArg Value.bool (by rw [hc16]; rfl))) ?_
    refine st (v := .bool (decide ((s.Floor : Int) < 0))) (x_lss (k := .i64) (a := s.Floor) (b := 0) (.tmp rfl rfl) .const) ?_
    refine st (v := .bool (decide ((s.Floor : Int) < 0))) (x_pick_f (.tmp rfl (congrArg Value.bool (by rw [hc16]; rfl))) (.tmp rfl rfl)) ?_
    refine st (v := .bool (decide ((s.Floor : Int) < 0))) (x_move (.tmp rfl rfl)) ?_
    rcases Bool.eq_false_or_eq_true (decide ((s.Floor : Int) < 0)) with hc17 | hc17
    · have hp17 : (s.Floor : Int) < 0 := of_decide_eq_true hc17
      refine g_no (yl (dj := 12) (b := true) rfl rfl (congrArg Value.bool hc17)) rfl ?_
      refine g_no (yl (dj := 12) (b := true) rfl rfl (congrArg Value.bool hc17)) rfl ?_
      refine g_no (yl (dj := 12) (b := true) rfl rfl (congrArg Value.bool hc17)) rfl ?_
      refine st (v := .bool true) (x_pick_t (.tmp rfl (congrArg Value.bool hc17)) .const) ?_
      refine st (v := .bool true) (x_move (.tmp rfl rfl)) ?_
      refine g_no (yl (dj := 17) (b := true) rfl rfl rfl) rfl ?_
      refine g_no (yl (dj := 17) (b := true) rfl rfl rfl) rfl ?_
      refine g_no (yl (dj := 17) (b := true) rfl rfl rfl) rfl ?_
      refine g_no (yl (dj := 17) (b := true) rfl rfl rfl) rfl ?_
      refine g_no (yl (dj := 17) (b := true) rfl rfl rfl) rfl ?_
      refine g_no0 (yn (dj := 22) rfl rfl) ?_
      refine g_no0 (yn (dj := 22) rfl rfl) ?_
      refine g_no0 (yn (dj := 22) rfl rfl) ?_
      refine g_no (yl (dj := 17) (b := true) rfl rfl rfl) rfl ?_
      refine st (v := .bool true) (x_pick_t (.tmp rfl rfl) .const) ?_
      refine c_nil ?_
      refine n_then ?_
      refine c_cond_t (t := true) (.tmp rfl rfl) rfl ?_
      refine c_seq ?_
      refine c_region ?_
      refine st (v := .bool false) (x_assign .const) ?_
      refine c_nil ?_
      refine n_then ?_
      refine c_ret ?_
      refine r_then ?_
      refine leave_ret (res_one (v := .bool false) rfl (.mk rfl rfl)) ?_
      have hans18 : sForm s = false := sForm_false (by first | (left; assumption) | (right; omega))
      rw [hans18]
      exact ⟨rfl, hs15.drop⟩
    · have hp17 : ¬ ((s.Floor : Int) < 0) := of_decide_eq_false hc17
      refine g_yes (yl (dj := 12) (b := false) rfl rfl (congrArg Value.bool hc17)) ?_
      refine st (v := .pointer (some ⟨g10, 0 + 2, none⟩)) (fa38_1 (.tmp rfl rfl)) ?_
      refine g_yes (yl (dj := 12) (b := false) rfl rfl (congrArg Value.bool hc17)) ?_
      refine st (v := .int .i64 s.Floor) (ld3 (.tmp rfl rfl) (hs15.cell 0 rfl (0 + 2) rfl)) ?_
      refine g_yes (yl (dj := 12) (b := false) rfl rfl (congrArg Value.bool hc17)) ?_
      refine st (v := .bool (decide ((1073741824 : Int) < s.Floor))) (x_gtr (k := .i64) (a := s.Floor) (b := 1073741824) (.tmp rfl rfl) .const) ?_
      refine st (v := .bool (decide ((1073741824 : Int) < s.Floor))) (x_pick_f (.tmp rfl (congrArg Value.bool hc17)) (.tmp rfl rfl)) ?_
      refine st (v := .bool (decide ((1073741824 : Int) < s.Floor))) (x_move (.tmp rfl rfl)) ?_
      rcases Bool.eq_false_or_eq_true (decide ((1073741824 : Int) < s.Floor)) with hc19 | hc19
      · have hp19 : (1073741824 : Int) < s.Floor := of_decide_eq_true hc19
        refine g_no (yl (dj := 17) (b := true) rfl rfl (congrArg Value.bool hc19)) rfl ?_
        refine g_no (yl (dj := 17) (b := true) rfl rfl (congrArg Value.bool hc19)) rfl ?_
        refine g_no (yl (dj := 17) (b := true) rfl rfl (congrArg Value.bool hc19)) rfl ?_
        refine g_no (yl (dj := 17) (b := true) rfl rfl (congrArg Value.bool hc19)) rfl ?_
        refine g_no (yl (dj := 17) (b := true) rfl rfl (congrArg Value.bool hc19)) rfl ?_
        refine g_no0 (yn (dj := 22) rfl rfl) ?_
        refine g_no0 (yn (dj := 22) rfl rfl) ?_
        refine g_no0 (yn (dj := 22) rfl rfl) ?_
        refine g_no (yl (dj := 17) (b := true) rfl rfl (congrArg Value.bool hc19)) rfl ?_
        refine st (v := .bool true) (x_pick_t (.tmp rfl (congrArg Value.bool hc19)) .const) ?_
        refine c_nil ?_
        refine n_then ?_
        refine c_cond_t (t := true) (.tmp rfl rfl) rfl ?_
        refine c_seq ?_
        refine c_region ?_
        refine st (v := .bool false) (x_assign .const) ?_
        refine c_nil ?_
        refine n_then ?_
        refine c_ret ?_
        refine r_then ?_
        refine leave_ret (res_one (v := .bool false) rfl (.mk rfl rfl)) ?_
        have hans20 : sForm s = false := sForm_false (by first | (left; assumption) | (right; omega))
        rw [hans20]
        exact ⟨rfl, hs15.drop⟩
      · have hp19 : ¬ ((1073741824 : Int) < s.Floor) := of_decide_eq_false hc19
        refine g_yes (yl (dj := 17) (b := false) rfl rfl (congrArg Value.bool hc19)) ?_
        refine st (v := .pointer (some ⟨g10, 0 + 0, none⟩)) (fa38_0 (.tmp rfl rfl)) ?_
        refine g_yes (yl (dj := 17) (b := false) rfl rfl (congrArg Value.bool hc19)) ?_
        refine st (v := .pointer (some ⟨g10, 0 + 0 + 0, none⟩)) (fa25_0 (.tmp rfl rfl)) ?_
        refine g_yes (yl (dj := 17) (b := false) rfl rfl (congrArg Value.bool hc19)) ?_
        refine st (v := .int .u64 ((s.V.N : Nat) : Int)) (ld23 (.tmp rfl rfl) (hs15.cell 0 rfl (0 + 0 + 0) rfl)) ?_
        refine g_yes (yl (dj := 17) (b := false) rfl rfl (congrArg Value.bool hc19)) ?_
        refine st (v := .bool (decide ((((s.V.N : Nat) : Int) : Int) = 0))) (x_eql (k := .u64) (a := ((s.V.N : Nat) : Int)) (b := 0) (.tmp rfl rfl) .const) ?_
        refine g_yes (yl (dj := 17) (b := false) rfl rfl (congrArg Value.bool hc19)) ?_
        refine st (v := .bool (decide ((((s.V.N : Nat) : Int) : Int) = 0))) (x_move (.tmp rfl rfl)) ?_
        rcases Bool.eq_false_or_eq_true (decide ((((s.V.N : Nat) : Int) : Int) = 0)) with hc21 | hc21
        · have hp21 : (((s.V.N : Nat) : Int) : Int) = 0 := of_decide_eq_true hc21
          refine g_yes (yl (dj := 22) (b := true) rfl rfl (congrArg Value.bool hc21)) ?_
          refine st (v := .agg #[.int .u64 ((s.V.N : Nat) : Int), .int .i64 s.V.P, .int .i64 s.Floor, .slice A6 n7 c8]) (ld38 (cs := [.int .u64 ((s.V.N : Nat) : Int), .int .i64 s.V.P, .int .i64 s.Floor, .slice A6 n7 c8]) (.tmp rfl rfl) (hs15.at_ 0 rfl (0) rfl) rfl) ?_
          refine g_yes (yl (dj := 22) (b := true) rfl rfl (congrArg Value.bool hc21)) ?_
          have hr22 : kState.rep H s [.int .u64 ((s.V.N : Nat) : Int), .int .i64 s.V.P, .int .i64 s.Floor, .slice A6 n7 c8] := ⟨A6, n7, c8, rfl, b1, ⟨b2, b3⟩, ⟨b4, b5⟩, hl9⟩
          refine st_c cb16 .func (evs1 (.tmp rfl rfl)) (end_spec hs15 s hr22 (show (0 : Int) ≤ s.Floor from by omega) (show s.Floor ≤ (1073741824 : Int) from by omega)) ?_
          rintro e w23 ⟨rfl, hs24⟩
          refine ⟨_, rfl, ?_⟩
          refine g_yes (yl (dj := 22) (b := true) rfl rfl (congrArg Value.bool hc21)) ?_
          refine st (v := .bool (decide ((0 : Int) < (sEnd s)))) (x_gtr (k := .i64) (a := (sEnd s)) (b := 0) (.tmp rfl rfl) .const) ?_
          refine g_yes (yl (dj := 17) (b := false) rfl rfl (congrArg Value.bool hc19)) ?_
          refine st (v := .bool (decide ((0 : Int) < (sEnd s)))) (x_pick_t (.tmp rfl (congrArg Value.bool hc21)) (.tmp rfl rfl)) ?_
          refine st (v := .bool (decide ((0 : Int) < (sEnd s)))) (x_pick_f (.tmp rfl (congrArg Value.bool hc19)) (.tmp rfl rfl)) ?_
          refine c_nil ?_
          refine n_then ?_
          rcases Bool.eq_false_or_eq_true (decide ((0 : Int) < (sEnd s))) with hc25 | hc25
          · have hp25 : (0 : Int) < (sEnd s) := of_decide_eq_true hc25
            refine c_cond_t (t := true) (.tmp rfl (congrArg Value.bool hc25)) rfl ?_
            refine c_seq ?_
            refine c_region ?_
            refine st (v := .bool false) (x_assign .const) ?_
            refine c_nil ?_
            refine n_then ?_
            refine c_ret ?_
            refine r_then ?_
            refine leave_ret (res_one (v := .bool false) rfl (.mk rfl rfl)) ?_
            have hans26 : sForm s = false := sForm_false (by first | (left; assumption) | (right; omega))
            rw [hans26]
            exact ⟨rfl, hs24.drop⟩
          · have hp25 : ¬ ((0 : Int) < (sEnd s)) := of_decide_eq_false hc25
            refine c_cond_f (t := false) (.tmp rfl (congrArg Value.bool hc25)) rfl ?_
            refine c_skip ?_
            refine n_then ?_
            refine c_seq ?_
            refine c_region ?_
            refine st (v := .pointer (some ⟨g10, 0 + 3, none⟩)) (fa38_2 (.tmp rfl rfl)) ?_
            refine st (v := .slice A6 n7 c8) (ld29 (.tmp rfl rfl) (hs24.cell 0 rfl (0 + 3) rfl)) ?_
            refine st_c cb33 .func (evs2 (.tmp rfl rfl) .func) (contains_item hs24 s.Items hl9 (fun (y0 : GItem) => (badFrom y0)) cb34 (fun {_} {_} hs y0 {_} h0 => form_p hs y0 h0 ) ) ?_
            rintro e w27 ⟨rfl, hs28⟩
            refine ⟨_, rfl, ?_⟩
            refine st (v := .bool (!(s.Items.any (fun (y0 : GItem) => (badFrom y0))))) (x_not (.tmp rfl rfl)) ?_
            refine st (v := .bool (!(s.Items.any (fun (y0 : GItem) => (badFrom y0))))) (x_assign (.tmp rfl rfl)) ?_
            refine c_nil ?_
            refine n_then ?_
            refine c_ret ?_
            refine leave_ret (res_one (v := .bool (!(s.Items.any (fun (y0 : GItem) => (badFrom y0))))) rfl (.mk rfl rfl)) ?_
            have hans29 : sForm s = (!(s.Items.any (fun (y0 : GItem) => (badFrom y0)))) := sForm_true hc16 (by omega)
            rw [hans29]
            exact ⟨rfl, hs28.drop⟩
        · have hp21 : ¬ ((((s.V.N : Nat) : Int) : Int) = 0) := of_decide_eq_false hc21
          refine g_no (yl (dj := 22) (b := false) rfl rfl (congrArg Value.bool hc21)) rfl ?_
          refine g_no (yl (dj := 22) (b := false) rfl rfl (congrArg Value.bool hc21)) rfl ?_
          refine g_no (yl (dj := 22) (b := false) rfl rfl (congrArg Value.bool hc21)) rfl ?_
          refine g_yes (yl (dj := 17) (b := false) rfl rfl (congrArg Value.bool hc19)) ?_
          refine st (v := .bool false) (x_pick_f (.tmp rfl (congrArg Value.bool hc21)) .const) ?_
          refine st (v := .bool false) (x_pick_f (.tmp rfl (congrArg Value.bool hc19)) (.tmp rfl rfl)) ?_
          refine c_nil ?_
          refine n_then ?_
          refine c_cond_f (t := false) (.tmp rfl rfl) rfl ?_
          refine c_skip ?_
          refine n_then ?_
          refine c_seq ?_
          refine c_region ?_
          refine st (v := .pointer (some ⟨g10, 0 + 3, none⟩)) (fa38_2 (.tmp rfl rfl)) ?_
          refine st (v := .slice A6 n7 c8) (ld29 (.tmp rfl rfl) (hs15.cell 0 rfl (0 + 3) rfl)) ?_
          refine st_c cb33 .func (evs2 (.tmp rfl rfl) .func) (contains_item hs15 s.Items hl9 (fun (y0 : GItem) => (badFrom y0)) cb34 (fun {_} {_} hs y0 {_} h0 => form_p hs y0 h0 ) ) ?_
          rintro e w30 ⟨rfl, hs31⟩
          refine ⟨_, rfl, ?_⟩
          refine st (v := .bool (!(s.Items.any (fun (y0 : GItem) => (badFrom y0))))) (x_not (.tmp rfl rfl)) ?_
          refine st (v := .bool (!(s.Items.any (fun (y0 : GItem) => (badFrom y0))))) (x_assign (.tmp rfl rfl)) ?_
          refine c_nil ?_
          refine n_then ?_
          refine c_ret ?_
          refine leave_ret (res_one (v := .bool (!(s.Items.any (fun (y0 : GItem) => (badFrom y0))))) rfl (.mk rfl rfl)) ?_
          have hans32 : sForm s = (!(s.Items.any (fun (y0 : GItem) => (badFrom y0)))) := sForm_true hc16 (by omega)
          rw [hans32]
          exact ⟨rfl, hs31.drop⟩
  · refine g_no (yl (dj := 7) (b := true) rfl rfl (congrArg Value.bool (by rw [hc16]; rfl))) rfl ?_
    refine g_no (yl (dj := 7) (b := true) rfl rfl (congrArg Value.bool (by rw [hc16]; rfl))) rfl ?_
    refine g_no (yl (dj := 7) (b := true) rfl rfl (congrArg Value.bool (by rw [hc16]; rfl))) rfl ?_
    refine st (v := .bool true) (x_pick_t (.tmp rfl (congrArg Value.bool (by rw [hc16]; rfl))) .const) ?_
    refine st (v := .bool true) (x_move (.tmp rfl rfl)) ?_
    refine g_no (yl (dj := 12) (b := true) rfl rfl rfl) rfl ?_
    refine g_no (yl (dj := 12) (b := true) rfl rfl rfl) rfl ?_
    refine g_no (yl (dj := 12) (b := true) rfl rfl rfl) rfl ?_
    refine st (v := .bool true) (x_pick_t (.tmp rfl rfl) .const) ?_
    refine st (v := .bool true) (x_move (.tmp rfl rfl)) ?_
    refine g_no (yl (dj := 17) (b := true) rfl rfl rfl) rfl ?_
    refine g_no (yl (dj := 17) (b := true) rfl rfl rfl) rfl ?_
    refine g_no (yl (dj := 17) (b := true) rfl rfl rfl) rfl ?_
    refine g_no (yl (dj := 17) (b := true) rfl rfl rfl) rfl ?_
    refine g_no (yl (dj := 17) (b := true) rfl rfl rfl) rfl ?_
    refine g_no0 (yn (dj := 22) rfl rfl) ?_
    refine g_no0 (yn (dj := 22) rfl rfl) ?_
    refine g_no0 (yn (dj := 22) rfl rfl) ?_
    refine g_no (yl (dj := 17) (b := true) rfl rfl rfl) rfl ?_
    refine st (v := .bool true) (x_pick_t (.tmp rfl rfl) .const) ?_
    refine c_nil ?_
    refine n_then ?_
    refine c_cond_t (t := true) (.tmp rfl rfl) rfl ?_
    refine c_seq ?_
    refine c_region ?_
    refine st (v := .bool false) (x_assign .const) ?_
    refine c_nil ?_
    refine n_then ?_
    refine c_ret ?_
    refine r_then ?_
    refine leave_ret (res_one (v := .bool false) rfl (.mk rfl rfl)) ?_
    have hans33 : sForm s = false := sForm_false (by first | (left; assumption) | (right; omega))
    rw [hans33]
    exact ⟨rfl, hs15.drop⟩

set_option maxHeartbeats 8000000 in
theorem rcform_spec {H : Hp} {w : World} {L : List Res} (hs : St H w (L)) (s : GState) {k_s : List Value} (h_s : kState.rep H s k_s) : Calls Try.prog 20 #[.agg k_s.toArray] w (fun e w' => e = .returned (.bool (sForm s)) ∧ St H w' (L)) := by
  obtain ⟨A6, n7, c8, rfl, b1, ⟨b2, b3⟩, ⟨b4, b5⟩, hl9⟩ := h_s
  have := hl9.len; have : n7 * 32 ≤ 140737488351232 := hl9.bnd; have := hl9.le
  refine enter (args := [.agg #[.int .u64 ((s.V.N : Nat) : Int), .int .i64 s.V.P, .int .i64 s.Floor, .slice A6 n7 c8]]) (N := 57) Try.func20 rfl rfl rfl ?_
  have hE : sEnd s = s.Floor + (s.Items.length : Int) := rfl
  refine c_seq ?_
  refine c_region ?_
  refine st_m (m_box (cs := [.int .u64 ((s.V.N : Nat) : Int), .int .i64 s.V.P, .int .i64 s.Floor, .slice A6 n7 c8]) hs (v := .agg #[.int .u64 ((s.V.N : Nat) : Int), .int .i64 s.V.P, .int .i64 s.Floor, .slice A6 n7 c8]) (.tmp rfl rfl) rfl) ?_
  rintro _ w11 ⟨g10, rfl, hs13⟩
  refine st (v := .bool false) (x_assign .const) ?_
  refine c_nil ?_
  refine n_then ?_
  refine c_seq ?_
  refine c_seq ?_
  refine c_region ?_
  refine st (v := .int .i64 0) (x_assign .const) ?_
  refine c_nil ?_
  refine n_then ?_
  refine c_block ?_
  refine c_loop (fun ρ w mm => ∃ (i : Nat), ρ 1 = .pointer (some ⟨g10, 0, none⟩) ∧ ρ 3 = .int .i64 ((i : Nat) : Int) ∧ (i ≤ s.Items.length) ∧ (∀ (j : Nat) (y : GItem), j < i → s.Items[j]? = some y → decide (0 ≤ y.From ∧ y.From < 16) = true) ∧ St H w (obj g10 38 [.int .u64 ((s.V.N : Nat) : Int), .int .i64 s.V.P, .int .i64 s.Floor, .slice A6 n7 c8] :: L) ∧ mm = s.Items.length - i) _ ⟨0, rfl, rfl, (by omega), (fun j y h _ => absurd h (Nat.not_lt_zero _)), hs13, rfl⟩ ?_
  rintro ρ w mm ⟨i, hρ15, hρ16, hi, ha, hs17, rfl⟩
  refine c_seq ?_
  refine c_seq ?_
  refine c_region ?_
  refine st (v := .int .i64 ((i : Nat) : Int)) (x_move (.tmp rfl hρ16)) ?_
  refine st (v := .pointer (some ⟨g10, 0 + 3, none⟩)) (fa38_2 (.tmp rfl hρ15)) ?_
  refine st (v := .slice A6 n7 c8) (ld29 (.tmp rfl rfl) (hs17.cell 0 rfl (0 + 3) rfl)) ?_
  refine st (v := .int .i64 ((n7 : Nat) : Int)) (x_len (n := n7) Try.underlying29 (.tmp rfl rfl)) ?_
  refine st (v := .bool (decide ((((i : Nat) : Int) : Int) < ((n7 : Nat) : Int)))) (x_lss (k := .i64) (a := ((i : Nat) : Int)) (b := ((n7 : Nat) : Int)) (.tmp rfl rfl) (.tmp rfl rfl)) ?_
  refine c_nil ?_
  refine n_then ?_
  rcases Bool.eq_false_or_eq_true (decide ((((i : Nat) : Int) : Int) < ((n7 : Nat) : Int))) with hc18 | hc18
  · have hp18 : (((i : Nat) : Int) : Int) < ((n7 : Nat) : Int) := of_decide_eq_true hc18
    refine c_cond_t (t := true) (.tmp rfl (congrArg Value.bool hc18)) rfl ?_
    refine c_skip ?_
    refine n_then ?_
    refine c_seq ?_
    refine c_block ?_
    refine c_seq ?_
    refine c_region ?_
    refine st (v := .pointer (some ⟨g10, 0 + 3, none⟩)) (fa38_2 (.tmp rfl hρ15)) ?_
    refine st (v := .slice A6 n7 c8) (ld29 (.tmp rfl rfl) (hs17.cell 0 rfl (0 + 3) rfl)) ?_
    refine st (v := .int .i64 ((i : Nat) : Int)) (x_move (.tmp rfl hρ16)) ?_
    obtain ⟨e19, b20, o21, cs22, hx23, hA24, hr25, hat26⟩ := hl9.get (i := i) (by omega)
    obtain ⟨A29, n30, c31, rfl, ⟨b27, b28⟩, hy32⟩ := hr25
    have := hy32.len; have := hy32.bnd; have := hy32.le
    have hat26x : ∀ {w : World} {L : List Res}, St H w L → At w ⟨b20, o21 + i * 2, none⟩ [.int .i64 e19.From, .slice A29 n30 c31] := fun h => hat26 h
    refine st (v := .pointer (some ⟨b20, (o21 + i * 2), none⟩)) (ixo29 (.tmp rfl rfl) hA24 (i := ((i : Nat) : Int)) (.tmp rfl rfl) (by omega) (by omega) (by omega)) ?_
    refine st (v := .pointer (some ⟨b20, (o21 + i * 2) + 0, none⟩)) (fa47_0 (.tmp rfl rfl)) ?_
    refine st (v := .int .i64 e19.From) (ld3 (.tmp rfl rfl) ((hat26x hs17).cell 0 rfl)) ?_
    refine st (v := .bool (decide ((e19.From : Int) < 0))) (x_lss (k := .i64) (a := e19.From) (b := 0) (.tmp rfl rfl) .const) ?_
    refine st (v := .bool (decide ((e19.From : Int) < 0))) (x_move (.tmp rfl rfl)) ?_
    rcases Bool.eq_false_or_eq_true (decide ((e19.From : Int) < 0)) with hc33 | hc33
    · have hp33 : (e19.From : Int) < 0 := of_decide_eq_true hc33
      refine g_no (yl (dj := 18) (b := true) rfl rfl (congrArg Value.bool hc33)) rfl ?_
      refine g_no (yl (dj := 18) (b := true) rfl rfl (congrArg Value.bool hc33)) rfl ?_
      refine g_no (yl (dj := 18) (b := true) rfl rfl (congrArg Value.bool hc33)) rfl ?_
      refine g_no (yl (dj := 18) (b := true) rfl rfl (congrArg Value.bool hc33)) rfl ?_
      refine g_no (yl (dj := 18) (b := true) rfl rfl (congrArg Value.bool hc33)) rfl ?_
      refine g_no (yl (dj := 18) (b := true) rfl rfl (congrArg Value.bool hc33)) rfl ?_
      refine g_no (yl (dj := 18) (b := true) rfl rfl (congrArg Value.bool hc33)) rfl ?_
      refine st (v := .bool true) (x_pick_t (.tmp rfl (congrArg Value.bool hc33)) .const) ?_
      refine c_nil ?_
      refine n_then ?_
      refine c_cond_t (t := true) (.tmp rfl rfl) rfl ?_
      refine c_seq ?_
      refine c_region ?_
      refine st (v := .bool false) (x_assign .const) ?_
      refine c_nil ?_
      refine n_then ?_
      refine c_ret ?_
      refine r_block ?_
      refine r_then ?_
      refine r_then ?_
      refine r_block ?_
      refine r_then ?_
      refine leave_ret (res_one (v := .bool false) rfl (.mk rfl rfl)) ?_
      have hans34 : sForm s = false := sForm_item hx23 (by omega)
      rw [hans34]
      exact ⟨rfl, hs17.drop⟩
    · have hp33 : ¬ ((e19.From : Int) < 0) := of_decide_eq_false hc33
      refine g_yes (yl (dj := 18) (b := false) rfl rfl (congrArg Value.bool hc33)) ?_
      refine st (v := .pointer (some ⟨g10, 0 + 3, none⟩)) (fa38_2 (.tmp rfl hρ15)) ?_
      refine g_yes (yl (dj := 18) (b := false) rfl rfl (congrArg Value.bool hc33)) ?_
      refine st (v := .slice A6 n7 c8) (ld29 (.tmp rfl rfl) (hs17.cell 0 rfl (0 + 3) rfl)) ?_
      refine g_yes (yl (dj := 18) (b := false) rfl rfl (congrArg Value.bool hc33)) ?_
      refine st (v := .int .i64 ((i : Nat) : Int)) (x_move (.tmp rfl hρ16)) ?_
      refine g_yes (yl (dj := 18) (b := false) rfl rfl (congrArg Value.bool hc33)) ?_
      refine st (v := .pointer (some ⟨b20, (o21 + i * 2), none⟩)) (ixo29 (.tmp rfl rfl) hA24 (i := ((i : Nat) : Int)) (.tmp rfl rfl) (by omega) (by omega) (by omega)) ?_
      refine g_yes (yl (dj := 18) (b := false) rfl rfl (congrArg Value.bool hc33)) ?_
      refine st (v := .pointer (some ⟨b20, (o21 + i * 2) + 0, none⟩)) (fa47_0 (.tmp rfl rfl)) ?_
      refine g_yes (yl (dj := 18) (b := false) rfl rfl (congrArg Value.bool hc33)) ?_
      refine st (v := .int .i64 e19.From) (ld3 (.tmp rfl rfl) ((hat26x hs17).cell 0 rfl)) ?_
      refine g_yes (yl (dj := 18) (b := false) rfl rfl (congrArg Value.bool hc33)) ?_
      refine st (v := .bool (decide ((15 : Int) < e19.From))) (x_gtr (k := .i64) (a := e19.From) (b := 15) (.tmp rfl rfl) .const) ?_
      refine st (v := .bool (decide ((15 : Int) < e19.From))) (x_pick_f (.tmp rfl (congrArg Value.bool hc33)) (.tmp rfl rfl)) ?_
      refine c_nil ?_
      refine n_then ?_
      rcases Bool.eq_false_or_eq_true (decide ((15 : Int) < e19.From)) with hc35 | hc35
      · have hp35 : (15 : Int) < e19.From := of_decide_eq_true hc35
        refine c_cond_t (t := true) (.tmp rfl (congrArg Value.bool hc35)) rfl ?_
        refine c_seq ?_
        refine c_region ?_
        refine st (v := .bool false) (x_assign .const) ?_
        refine c_nil ?_
        refine n_then ?_
        refine c_ret ?_
        refine r_block ?_
        refine r_then ?_
        refine r_then ?_
        refine r_block ?_
        refine r_then ?_
        refine leave_ret (res_one (v := .bool false) rfl (.mk rfl rfl)) ?_
        have hans36 : sForm s = false := sForm_item hx23 (by omega)
        rw [hans36]
        exact ⟨rfl, hs17.drop⟩
      · have hp35 : ¬ ((15 : Int) < e19.From) := of_decide_eq_false hc35
        refine c_cond_f (t := false) (.tmp rfl (congrArg Value.bool hc35)) rfl ?_
        refine c_skip ?_
        refine n_block ?_
        refine n_then ?_
        refine c_region ?_
        refine st (v := .int .i64 ((i : Nat) : Int)) (x_move (.tmp rfl hρ16)) ?_
        refine st (v := .int .i64 (((i + 1) : Nat) : Int)) (x_add (k := .i64) (a := ((i : Nat) : Int)) (b := 1) (.tmp rfl rfl) .const ((w64 (by omega) (by omega)).trans (by omega))) ?_
        refine st (v := .int .i64 (((i + 1) : Nat) : Int)) (x_assign (.tmp rfl rfl)) ?_
        refine c_nil ?_
        refine n_then ⟨_, _, rfl, ?_, (i + 1), hρ15, rfl, (by omega), (next_all ha hx23 (decide_eq_true (by omega))), hs17, rfl⟩
        omega
  · have hp18 : ¬ ((((i : Nat) : Int) : Int) < ((n7 : Nat) : Int)) := of_decide_eq_false hc18
    refine c_cond_f (t := false) (.tmp rfl (congrArg Value.bool hc18)) rfl ?_
    refine c_exit ?_
    refine x_then ?_
    refine x_then ?_
    refine x_here ?_
    refine n_then ?_
    refine c_seq ?_
    refine c_region ?_
    refine st (v := .pointer (some ⟨g10, 0 + 0, none⟩)) (fa38_0 (.tmp rfl hρ15)) ?_
    refine st (v := .agg #[.int .u64 ((s.V.N : Nat) : Int), .int .i64 s.V.P]) (ld25 (cs := [.int .u64 ((s.V.N : Nat) : Int), .int .i64 s.V.P]) (.tmp rfl rfl) (hs17.at_ 0 rfl (0 + 0) rfl) rfl) ?_
    refine st_c cb35 .func (evs1 (.tmp rfl rfl)) (rform_spec hs17 s.V.N s.V.P) ?_
    rintro e w37 ⟨rfl, hs38⟩
    refine ⟨_, rfl, ?_⟩
    refine st (v := .bool (formV s.V.N s.V.P)) (x_move (.tmp rfl rfl)) ?_
    rcases Bool.eq_false_or_eq_true (formV s.V.N s.V.P) with hc39 | hc39
    · refine g_yes (yl (dj := 30) (b := true) rfl rfl (congrArg Value.bool hc39)) ?_
      refine st (v := .pointer (some ⟨g10, 0 + 2, none⟩)) (fa38_1 (.tmp rfl hρ15)) ?_
      refine g_yes (yl (dj := 30) (b := true) rfl rfl (congrArg Value.bool hc39)) ?_
      refine st (v := .int .i64 s.Floor) (ld3 (.tmp rfl rfl) (hs38.cell 0 rfl (0 + 2) rfl)) ?_
      refine g_yes (yl (dj := 30) (b := true) rfl rfl (congrArg Value.bool hc39)) ?_
      refine st (v := .bool (decide ((0 : Int) ≤ s.Floor))) (x_geq (k := .i64) (a := s.Floor) (b := 0) (.tmp rfl rfl) .const) ?_
      refine st (v := .bool (decide ((0 : Int) ≤ s.Floor))) (x_pick_t (.tmp rfl (congrArg Value.bool hc39)) (.tmp rfl rfl)) ?_
      refine st (v := .bool (decide ((0 : Int) ≤ s.Floor))) (x_move (.tmp rfl rfl)) ?_
      rcases Bool.eq_false_or_eq_true (decide ((0 : Int) ≤ s.Floor)) with hc40 | hc40
      · have hp40 : (0 : Int) ≤ s.Floor := of_decide_eq_true hc40
        refine g_yes (yl (dj := 35) (b := true) rfl rfl (congrArg Value.bool hc40)) ?_
        refine st (v := .pointer (some ⟨g10, 0 + 2, none⟩)) (fa38_1 (.tmp rfl hρ15)) ?_
        refine g_yes (yl (dj := 35) (b := true) rfl rfl (congrArg Value.bool hc40)) ?_
        refine st (v := .int .i64 s.Floor) (ld3 (.tmp rfl rfl) (hs38.cell 0 rfl (0 + 2) rfl)) ?_
        refine g_yes (yl (dj := 35) (b := true) rfl rfl (congrArg Value.bool hc40)) ?_
        refine st (v := .bool (decide ((s.Floor : Int) ≤ 1073741824))) (x_leq (k := .i64) (a := s.Floor) (b := 1073741824) (.tmp rfl rfl) .const) ?_
        refine st (v := .bool (decide ((s.Floor : Int) ≤ 1073741824))) (x_pick_t (.tmp rfl (congrArg Value.bool hc40)) (.tmp rfl rfl)) ?_
        refine st (v := .bool (decide ((s.Floor : Int) ≤ 1073741824))) (x_move (.tmp rfl rfl)) ?_
        rcases Bool.eq_false_or_eq_true (decide ((s.Floor : Int) ≤ 1073741824)) with hc41 | hc41
        · have hp41 : (s.Floor : Int) ≤ 1073741824 := of_decide_eq_true hc41
          refine g_yes (yl (dj := 40) (b := true) rfl rfl (congrArg Value.bool hc41)) ?_
          refine st (v := .pointer (some ⟨g10, 0 + 0, none⟩)) (fa38_0 (.tmp rfl hρ15)) ?_
          refine g_yes (yl (dj := 40) (b := true) rfl rfl (congrArg Value.bool hc41)) ?_
          refine st (v := .pointer (some ⟨g10, 0 + 0 + 0, none⟩)) (fa25_0 (.tmp rfl rfl)) ?_
          refine g_yes (yl (dj := 40) (b := true) rfl rfl (congrArg Value.bool hc41)) ?_
          refine st (v := .int .u64 ((s.V.N : Nat) : Int)) (ld23 (.tmp rfl rfl) (hs38.cell 0 rfl (0 + 0 + 0) rfl)) ?_
          refine g_yes (yl (dj := 40) (b := true) rfl rfl (congrArg Value.bool hc41)) ?_
          refine st (v := .bool (decide ((0 : Int) < ((s.V.N : Nat) : Int)))) (x_gtr (k := .u64) (a := ((s.V.N : Nat) : Int)) (b := 0) (.tmp rfl rfl) .const) ?_
          refine g_yes (yl (dj := 40) (b := true) rfl rfl (congrArg Value.bool hc41)) ?_
          refine st (v := .bool (decide ((0 : Int) < ((s.V.N : Nat) : Int)))) (x_move (.tmp rfl rfl)) ?_
          rcases Bool.eq_false_or_eq_true (decide ((0 : Int) < ((s.V.N : Nat) : Int))) with hc42 | hc42
          · have hp42 : (0 : Int) < ((s.V.N : Nat) : Int) := of_decide_eq_true hc42
            refine g_no (yl (dj := 45) (b := true) rfl rfl (congrArg Value.bool hc42)) rfl ?_
            refine g_no (yl (dj := 45) (b := true) rfl rfl (congrArg Value.bool hc42)) rfl ?_
            refine g_no (yl (dj := 45) (b := true) rfl rfl (congrArg Value.bool hc42)) rfl ?_
            refine g_no (yl (dj := 45) (b := true) rfl rfl (congrArg Value.bool hc42)) rfl ?_
            refine g_no0 (yn (dj := 49) rfl rfl) ?_
            refine g_no0 (yn (dj := 49) rfl rfl) ?_
            refine g_no0 (yn (dj := 49) rfl rfl) ?_
            refine g_no0 (yn (dj := 49) rfl rfl) ?_
            refine g_no (yl (dj := 45) (b := true) rfl rfl (congrArg Value.bool hc42)) rfl ?_
            refine g_yes (yl (dj := 40) (b := true) rfl rfl (congrArg Value.bool hc41)) ?_
            refine st (v := .bool true) (x_pick_t (.tmp rfl (congrArg Value.bool hc42)) .const) ?_
            refine st (v := .bool true) (x_pick_t (.tmp rfl (congrArg Value.bool hc41)) (.tmp rfl rfl)) ?_
            refine st (v := .bool true) (x_assign (.tmp rfl rfl)) ?_
            refine c_nil ?_
            refine n_then ?_
            refine c_ret ?_
            refine leave_ret (res_one (v := .bool true) rfl (.mk rfl rfl)) ?_
            have hans43 : sForm s = true := (sForm_end ha (by omega)).trans (by rw [hc39, Bool.true_and]; first | exact decide_eq_true (by omega) | exact decide_eq_false (by omega) | exact decide_eq_decide.2 (by omega))
            rw [hans43]
            exact ⟨rfl, hs38.drop⟩
          · have hp42 : ¬ ((0 : Int) < ((s.V.N : Nat) : Int)) := of_decide_eq_false hc42
            refine g_yes (yl (dj := 45) (b := false) rfl rfl (congrArg Value.bool hc42)) ?_
            refine st (v := .pointer (some ⟨g10, 0 + 2, none⟩)) (fa38_1 (.tmp rfl hρ15)) ?_
            refine g_yes (yl (dj := 45) (b := false) rfl rfl (congrArg Value.bool hc42)) ?_
            refine st (v := .int .i64 s.Floor) (ld3 (.tmp rfl rfl) (hs38.cell 0 rfl (0 + 2) rfl)) ?_
            refine g_yes (yl (dj := 45) (b := false) rfl rfl (congrArg Value.bool hc42)) ?_
            refine st (v := .bool (decide ((s.Floor : Int) = 0))) (x_eql (k := .i64) (a := s.Floor) (b := 0) (.tmp rfl rfl) .const) ?_
            refine g_yes (yl (dj := 45) (b := false) rfl rfl (congrArg Value.bool hc42)) ?_
            refine st (v := .bool (decide ((s.Floor : Int) = 0))) (x_move (.tmp rfl rfl)) ?_
            rcases Bool.eq_false_or_eq_true (decide ((s.Floor : Int) = 0)) with hc44 | hc44
            · have hp44 : (s.Floor : Int) = 0 := of_decide_eq_true hc44
              refine g_yes (yl (dj := 49) (b := true) rfl rfl (congrArg Value.bool hc44)) ?_
              refine st (v := .pointer (some ⟨g10, 0 + 3, none⟩)) (fa38_2 (.tmp rfl hρ15)) ?_
              refine g_yes (yl (dj := 49) (b := true) rfl rfl (congrArg Value.bool hc44)) ?_
              refine st (v := .slice A6 n7 c8) (ld29 (.tmp rfl rfl) (hs38.cell 0 rfl (0 + 3) rfl)) ?_
              refine g_yes (yl (dj := 49) (b := true) rfl rfl (congrArg Value.bool hc44)) ?_
              refine st (v := .int .i64 ((n7 : Nat) : Int)) (x_len (n := n7) Try.underlying29 (.tmp rfl rfl)) ?_
              refine g_yes (yl (dj := 49) (b := true) rfl rfl (congrArg Value.bool hc44)) ?_
              refine st (v := .bool (decide ((((n7 : Nat) : Int) : Int) = 0))) (x_eql (k := .i64) (a := ((n7 : Nat) : Int)) (b := 0) (.tmp rfl rfl) .const) ?_
              refine g_yes (yl (dj := 45) (b := false) rfl rfl (congrArg Value.bool hc42)) ?_
              refine st (v := .bool (decide ((((n7 : Nat) : Int) : Int) = 0))) (x_pick_t (.tmp rfl (congrArg Value.bool hc44)) (.tmp rfl rfl)) ?_
              refine g_yes (yl (dj := 40) (b := true) rfl rfl (congrArg Value.bool hc41)) ?_
              refine st (v := .bool (decide ((((n7 : Nat) : Int) : Int) = 0))) (x_pick_f (.tmp rfl (congrArg Value.bool hc42)) (.tmp rfl rfl)) ?_
              refine st (v := .bool (decide ((((n7 : Nat) : Int) : Int) = 0))) (x_pick_t (.tmp rfl (congrArg Value.bool hc41)) (.tmp rfl rfl)) ?_
              refine st (v := .bool (decide ((((n7 : Nat) : Int) : Int) = 0))) (x_assign (.tmp rfl rfl)) ?_
              refine c_nil ?_
              refine n_then ?_
              refine c_ret ?_
              refine leave_ret (res_one (v := .bool (decide ((((n7 : Nat) : Int) : Int) = 0))) rfl (.mk rfl rfl)) ?_
              have hans45 : sForm s = (decide ((((n7 : Nat) : Int) : Int) = 0)) := (sForm_end ha (by omega)).trans (by rw [hc39, Bool.true_and]; first | exact decide_eq_true (by omega) | exact decide_eq_false (by omega) | exact decide_eq_decide.2 (by omega))
              rw [hans45]
              exact ⟨rfl, hs38.drop⟩
            · have hp44 : ¬ ((s.Floor : Int) = 0) := of_decide_eq_false hc44
              refine g_no (yl (dj := 49) (b := false) rfl rfl (congrArg Value.bool hc44)) rfl ?_
              refine g_no (yl (dj := 49) (b := false) rfl rfl (congrArg Value.bool hc44)) rfl ?_
              refine g_no (yl (dj := 49) (b := false) rfl rfl (congrArg Value.bool hc44)) rfl ?_
              refine g_no (yl (dj := 49) (b := false) rfl rfl (congrArg Value.bool hc44)) rfl ?_
              refine g_yes (yl (dj := 45) (b := false) rfl rfl (congrArg Value.bool hc42)) ?_
              refine st (v := .bool false) (x_pick_f (.tmp rfl (congrArg Value.bool hc44)) .const) ?_
              refine g_yes (yl (dj := 40) (b := true) rfl rfl (congrArg Value.bool hc41)) ?_
              refine st (v := .bool false) (x_pick_f (.tmp rfl (congrArg Value.bool hc42)) (.tmp rfl rfl)) ?_
              refine st (v := .bool false) (x_pick_t (.tmp rfl (congrArg Value.bool hc41)) (.tmp rfl rfl)) ?_
              refine st (v := .bool false) (x_assign (.tmp rfl rfl)) ?_
              refine c_nil ?_
              refine n_then ?_
              refine c_ret ?_
              refine leave_ret (res_one (v := .bool false) rfl (.mk rfl rfl)) ?_
              have hans46 : sForm s = false := (sForm_end ha (by omega)).trans (by rw [hc39, Bool.true_and]; first | exact decide_eq_true (by omega) | exact decide_eq_false (by omega) | exact decide_eq_decide.2 (by omega))
              rw [hans46]
              exact ⟨rfl, hs38.drop⟩
        · have hp41 : ¬ ((s.Floor : Int) ≤ 1073741824) := of_decide_eq_false hc41
          refine g_no (yl (dj := 40) (b := false) rfl rfl (congrArg Value.bool hc41)) rfl ?_
          refine g_no (yl (dj := 40) (b := false) rfl rfl (congrArg Value.bool hc41)) rfl ?_
          refine g_no (yl (dj := 40) (b := false) rfl rfl (congrArg Value.bool hc41)) rfl ?_
          refine g_no (yl (dj := 40) (b := false) rfl rfl (congrArg Value.bool hc41)) rfl ?_
          refine g_no (yl (dj := 40) (b := false) rfl rfl (congrArg Value.bool hc41)) rfl ?_
          refine g_no0 (yn (dj := 45) rfl rfl) ?_
          refine g_no0 (yn (dj := 45) rfl rfl) ?_
          refine g_no0 (yn (dj := 45) rfl rfl) ?_
          refine g_no0 (yn (dj := 45) rfl rfl) ?_
          refine g_no0 (yn (dj := 49) rfl rfl) ?_
          refine g_no0 (yn (dj := 49) rfl rfl) ?_
          refine g_no0 (yn (dj := 49) rfl rfl) ?_
          refine g_no0 (yn (dj := 49) rfl rfl) ?_
          refine g_no0 (yn (dj := 45) rfl rfl) ?_
          refine g_no (yl (dj := 40) (b := false) rfl rfl (congrArg Value.bool hc41)) rfl ?_
          refine st (v := .bool false) (x_pick_f (.tmp rfl (congrArg Value.bool hc41)) .const) ?_
          refine st (v := .bool false) (x_assign (.tmp rfl rfl)) ?_
          refine c_nil ?_
          refine n_then ?_
          refine c_ret ?_
          refine leave_ret (res_one (v := .bool false) rfl (.mk rfl rfl)) ?_
          have hans47 : sForm s = false := (sForm_end ha (by omega)).trans (by rw [hc39, Bool.true_and]; first | exact decide_eq_true (by omega) | exact decide_eq_false (by omega) | exact decide_eq_decide.2 (by omega))
          rw [hans47]
          exact ⟨rfl, hs38.drop⟩
      · have hp40 : ¬ ((0 : Int) ≤ s.Floor) := of_decide_eq_false hc40
        refine g_no (yl (dj := 35) (b := false) rfl rfl (congrArg Value.bool hc40)) rfl ?_
        refine g_no (yl (dj := 35) (b := false) rfl rfl (congrArg Value.bool hc40)) rfl ?_
        refine g_no (yl (dj := 35) (b := false) rfl rfl (congrArg Value.bool hc40)) rfl ?_
        refine st (v := .bool false) (x_pick_f (.tmp rfl (congrArg Value.bool hc40)) .const) ?_
        refine st (v := .bool false) (x_move (.tmp rfl rfl)) ?_
        refine g_no (yl (dj := 40) (b := false) rfl rfl rfl) rfl ?_
        refine g_no (yl (dj := 40) (b := false) rfl rfl rfl) rfl ?_
        refine g_no (yl (dj := 40) (b := false) rfl rfl rfl) rfl ?_
        refine g_no (yl (dj := 40) (b := false) rfl rfl rfl) rfl ?_
        refine g_no (yl (dj := 40) (b := false) rfl rfl rfl) rfl ?_
        refine g_no0 (yn (dj := 45) rfl rfl) ?_
        refine g_no0 (yn (dj := 45) rfl rfl) ?_
        refine g_no0 (yn (dj := 45) rfl rfl) ?_
        refine g_no0 (yn (dj := 45) rfl rfl) ?_
        refine g_no0 (yn (dj := 49) rfl rfl) ?_
        refine g_no0 (yn (dj := 49) rfl rfl) ?_
        refine g_no0 (yn (dj := 49) rfl rfl) ?_
        refine g_no0 (yn (dj := 49) rfl rfl) ?_
        refine g_no0 (yn (dj := 45) rfl rfl) ?_
        refine g_no (yl (dj := 40) (b := false) rfl rfl rfl) rfl ?_
        refine st (v := .bool false) (x_pick_f (.tmp rfl rfl) .const) ?_
        refine st (v := .bool false) (x_assign (.tmp rfl rfl)) ?_
        refine c_nil ?_
        refine n_then ?_
        refine c_ret ?_
        refine leave_ret (res_one (v := .bool false) rfl (.mk rfl rfl)) ?_
        have hans48 : sForm s = false := (sForm_end ha (by omega)).trans (by rw [hc39, Bool.true_and]; first | exact decide_eq_true (by omega) | exact decide_eq_false (by omega) | exact decide_eq_decide.2 (by omega))
        rw [hans48]
        exact ⟨rfl, hs38.drop⟩
    · refine g_no (yl (dj := 30) (b := false) rfl rfl (congrArg Value.bool hc39)) rfl ?_
      refine g_no (yl (dj := 30) (b := false) rfl rfl (congrArg Value.bool hc39)) rfl ?_
      refine g_no (yl (dj := 30) (b := false) rfl rfl (congrArg Value.bool hc39)) rfl ?_
      refine st (v := .bool false) (x_pick_f (.tmp rfl (congrArg Value.bool hc39)) .const) ?_
      refine st (v := .bool false) (x_move (.tmp rfl rfl)) ?_
      refine g_no (yl (dj := 35) (b := false) rfl rfl rfl) rfl ?_
      refine g_no (yl (dj := 35) (b := false) rfl rfl rfl) rfl ?_
      refine g_no (yl (dj := 35) (b := false) rfl rfl rfl) rfl ?_
      refine st (v := .bool false) (x_pick_f (.tmp rfl rfl) .const) ?_
      refine st (v := .bool false) (x_move (.tmp rfl rfl)) ?_
      refine g_no (yl (dj := 40) (b := false) rfl rfl rfl) rfl ?_
      refine g_no (yl (dj := 40) (b := false) rfl rfl rfl) rfl ?_
      refine g_no (yl (dj := 40) (b := false) rfl rfl rfl) rfl ?_
      refine g_no (yl (dj := 40) (b := false) rfl rfl rfl) rfl ?_
      refine g_no (yl (dj := 40) (b := false) rfl rfl rfl) rfl ?_
      refine g_no0 (yn (dj := 45) rfl rfl) ?_
      refine g_no0 (yn (dj := 45) rfl rfl) ?_
      refine g_no0 (yn (dj := 45) rfl rfl) ?_
      refine g_no0 (yn (dj := 45) rfl rfl) ?_
      refine g_no0 (yn (dj := 49) rfl rfl) ?_
      refine g_no0 (yn (dj := 49) rfl rfl) ?_
      refine g_no0 (yn (dj := 49) rfl rfl) ?_
      refine g_no0 (yn (dj := 49) rfl rfl) ?_
      refine g_no0 (yn (dj := 45) rfl rfl) ?_
      refine g_no (yl (dj := 40) (b := false) rfl rfl rfl) rfl ?_
      refine st (v := .bool false) (x_pick_f (.tmp rfl rfl) .const) ?_
      refine st (v := .bool false) (x_assign (.tmp rfl rfl)) ?_
      refine c_nil ?_
      refine n_then ?_
      refine c_ret ?_
      refine leave_ret (res_one (v := .bool false) rfl (.mk rfl rfl)) ?_
      have hans49 : sForm s = false := (sForm_end ha (by omega)).trans (by rw [hc39]; rfl)
      rw [hans49]
      exact ⟨rfl, hs38.drop⟩

end Go.Proofs.Ytkbllbphkdnmbaa
