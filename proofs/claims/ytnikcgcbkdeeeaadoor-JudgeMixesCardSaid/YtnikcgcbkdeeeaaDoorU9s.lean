/- Steps of the proofs over the functions of this seat, printed by a program (gen.py) and checked by Lean. -/
import Derived.Test.YtnikcgcbkdeeeaaDoorUty
import Derived.Test.YtnikcgcbkdeeeaaDoorFmM4b
import Derived.Test.YtnikcgcbkdeeeaaDoorFmP
import Derived.Test.YtnikcgcbkdeeeaaDoorFmK
import Derived.Test.YtnikcgcbkdeeeaaDoorFmT
import Derived.Test.YtnikcgcbkdeeeaaDoorFmJ1
import Derived.Test.YtnikcgcbkdeeeaaDoorU9id
set_option linter.unusedVariables false
set_option linter.unusedSimpArgs false
namespace Go.Proofs.YtnikcgcbkdeeeaaDoor
open Go Go.FM Go.Proofs
attribute [local irreducible] wpList wpQuiet wpS Code.wp Calls
set_option maxHeartbeats 8000000 in
theorem bequal_spec {H : Hp} {w : World} {L : List Res} (hs : St H w (L)) {A_a : Option Addr} {n_a c_a : Nat} (a : List Nat) (h_a : By H A_a n_a c_a a) {A_b : Option Addr} {n_b c_b : Nat} (b : List Nat) (h_b : By H A_b n_b c_b b) : Calls Tryd.prog 21 #[.slice A_a n_a c_a, .slice A_b n_b c_b] w (fun e w' => e = .returned (.bool (decide (a = b))) ∧ St H w' (L)) := by
  have := h_a.len; have := h_a.le; have := h_a.bnd
  have := h_b.len; have := h_b.le; have := h_b.bnd
  refine enter (args := [.slice A_a n_a c_a, .slice A_b n_b c_b]) (N := 10) Tryd.func21 rfl rfl rfl ?_
  refine c_seq ?_
  refine c_region ?_
  refine st (v := .bool false) (x_assign .const) ?_
  refine c_nil ?_
  refine n_then ?_
  refine c_seq ?_
  refine c_region ?_
  refine st (v := .slice A_a n_a c_a) (x_move (.tmp rfl rfl)) ?_
  refine st (v := .string (bstr a)) (h_a.toBs.str Tryd.underlying30 Tryd.underlying5 Tryd.underlying9 hs (.tmp rfl rfl)) ?_
  refine st (v := .slice A_b n_b c_b) (x_move (.tmp rfl rfl)) ?_
  refine st (v := .string (bstr b)) (h_b.toBs.str Tryd.underlying30 Tryd.underlying5 Tryd.underlying9 hs (.tmp rfl rfl)) ?_
  refine st (v := .bool (decide ((bstr a) = (bstr b)))) (x_eqlS (.tmp rfl rfl) (.tmp rfl rfl)) ?_
  refine st (v := .bool (decide ((bstr a) = (bstr b)))) (x_assign (.tmp rfl rfl)) ?_
  refine c_nil ?_
  refine n_then ?_
  refine c_ret ?_
  refine leave_ret (res_one (v := .bool (decide ((bstr a) = (bstr b)))) rfl (.mk rfl rfl)) ?_
  have hans1 : (decide (a = b)) = (decide ((bstr a) = (bstr b))) := (decide_eq_decide.2 (bstr_inj h_a.lt h_b.lt)).symm
  rw [hans1]
  exact ⟨rfl, hs⟩

set_option maxHeartbeats 8000000 in
theorem same_item {H : Hp} {w : World} {L : List Res} (hs : St H w (L)) (a : GItem) {k_a : List Value} (h_a : kItem.rep H a k_a) (b : GItem) {k_b : List Value} (h_b : kItem.rep H b k_b) : Calls Tryd.prog 20 #[.agg k_a.toArray, .agg k_b.toArray] w (fun e w' => e = .returned (.bool (decide (a = b))) ∧ St H w' (L)) := by
  obtain ⟨A3, n4, c5, rfl, ⟨b1, b2⟩, hy6⟩ := h_a
  have := hy6.len; have := hy6.bnd; have := hy6.le
  obtain ⟨A9, n10, c11, rfl, ⟨b7, b8⟩, hy12⟩ := h_b
  have := hy12.len; have := hy12.bnd; have := hy12.le
  refine enter (args := [.agg #[.int .i64 a.From, .slice A3 n4 c5], .agg #[.int .i64 b.From, .slice A9 n10 c11]]) (N := 17) Tryd.func20 rfl rfl rfl ?_
  refine c_seq ?_
  refine c_region ?_
  refine st_m (m_box (cs := [.int .i64 a.From, .slice A3 n4 c5]) hs (v := .agg #[.int .i64 a.From, .slice A3 n4 c5]) (.tmp rfl rfl) rfl) ?_
  rintro _ w14 ⟨g13, rfl, hs16⟩
  refine st_m (m_box (cs := [.int .i64 b.From, .slice A9 n10 c11]) hs16 (v := .agg #[.int .i64 b.From, .slice A9 n10 c11]) (.tmp rfl rfl) rfl) ?_
  rintro _ w18 ⟨g17, rfl, hs20⟩
  refine st (v := .bool false) (x_assign .const) ?_
  refine c_nil ?_
  refine n_then ?_
  refine c_seq ?_
  refine c_region ?_
  refine st (v := .pointer (some ⟨g13, 0 + 0, none⟩)) (fa34_0 (.tmp rfl rfl)) ?_
  refine st (v := .int .i64 a.From) (ld3 (.tmp rfl rfl) (hs20.cell 1 rfl (0 + 0) rfl)) ?_
  refine st (v := .pointer (some ⟨g17, 0 + 0, none⟩)) (fa34_0 (.tmp rfl rfl)) ?_
  refine st (v := .int .i64 b.From) (ld3 (.tmp rfl rfl) (hs20.cell 0 rfl (0 + 0) rfl)) ?_
  refine st (v := .bool (decide ((a.From : Int) = b.From))) (x_eql (k := .i64) (a := a.From) (b := b.From) (.tmp rfl rfl) (.tmp rfl rfl)) ?_
  refine st (v := .bool (decide ((a.From : Int) = b.From))) (x_move (.tmp rfl rfl)) ?_
  rcases Bool.eq_false_or_eq_true (decide ((a.From : Int) = b.From)) with hc21 | hc21
  · have hp21 : (a.From : Int) = b.From := of_decide_eq_true hc21
    refine g_yes (yl (dj := 10) (b := true) rfl rfl (congrArg Value.bool hc21)) ?_
    refine st (v := .pointer (some ⟨g13, 0 + 1, none⟩)) (fa34_1 (.tmp rfl rfl)) ?_
    refine g_yes (yl (dj := 10) (b := true) rfl rfl (congrArg Value.bool hc21)) ?_
    refine st (v := .slice A3 n4 c5) (ld30 (.tmp rfl rfl) (hs20.cell 1 rfl (0 + 1) rfl)) ?_
    refine g_yes (yl (dj := 10) (b := true) rfl rfl (congrArg Value.bool hc21)) ?_
    refine st (v := .pointer (some ⟨g17, 0 + 1, none⟩)) (fa34_1 (.tmp rfl rfl)) ?_
    refine g_yes (yl (dj := 10) (b := true) rfl rfl (congrArg Value.bool hc21)) ?_
    refine st (v := .slice A9 n10 c11) (ld30 (.tmp rfl rfl) (hs20.cell 0 rfl (0 + 1) rfl)) ?_
    refine g_yes (yl (dj := 10) (b := true) rfl rfl (congrArg Value.bool hc21)) ?_
    refine st_c cb21 .func (evs2 (.tmp rfl rfl) (.tmp rfl rfl)) (bequal_spec hs20 a.M hy6 b.M hy12 ) ?_
    rintro e w22 ⟨rfl, hs23⟩
    refine ⟨_, rfl, ?_⟩
    refine st (v := .bool (decide (a.M = b.M))) (x_pick_t (.tmp rfl (congrArg Value.bool hc21)) (.tmp rfl rfl)) ?_
    refine st (v := .bool (decide (a.M = b.M))) (x_assign (.tmp rfl rfl)) ?_
    refine c_nil ?_
    refine n_then ?_
    refine c_ret ?_
    refine leave_ret (res_one (v := .bool (decide (a.M = b.M))) rfl (.mk rfl rfl)) ?_
    have hans24 : (decide (a = b)) = (decide (a.M = b.M)) := decide_eq_decide.2 ⟨fun h => by rw [h], fun h => item_eq2 (by omega) h⟩
    rw [hans24]
    exact ⟨rfl, hs23.drop.drop⟩
  · have hp21 : ¬ ((a.From : Int) = b.From) := of_decide_eq_false hc21
    refine g_no (yl (dj := 10) (b := false) rfl rfl (congrArg Value.bool hc21)) rfl ?_
    refine g_no (yl (dj := 10) (b := false) rfl rfl (congrArg Value.bool hc21)) rfl ?_
    refine g_no (yl (dj := 10) (b := false) rfl rfl (congrArg Value.bool hc21)) rfl ?_
    refine g_no (yl (dj := 10) (b := false) rfl rfl (congrArg Value.bool hc21)) rfl ?_
    refine g_no (yl (dj := 10) (b := false) rfl rfl (congrArg Value.bool hc21)) rfl ?_
    refine st (v := .bool false) (x_pick_f (.tmp rfl (congrArg Value.bool hc21)) .const) ?_
    refine st (v := .bool false) (x_assign (.tmp rfl rfl)) ?_
    refine c_nil ?_
    refine n_then ?_
    refine c_ret ?_
    refine leave_ret (res_one (v := .bool false) rfl (.mk rfl rfl)) ?_
    have hans25 : (decide (a = b)) = false := decide_eq_false (item_ne_from (by omega))
    rw [hans25]
    exact ⟨rfl, hs20.drop.drop⟩

set_option maxHeartbeats 8000000 in
theorem equalfunc_item {H : Hp} {w : World} {L : List Res} (hs : St H w (L)) {A_a : Option Addr} {n_a c_a : Nat} (a : (List GItem)) (h_a : Sl kItem H A_a n_a c_a a) {A_b : Option Addr} {n_b c_b : Nat} (b : (List GItem)) (h_b : Sl kItem H A_b n_b c_b b) {f_f : Nat} {cap_f : Array Value} (f : GItem → GItem → Bool) (cb_f : Cb Tryd.prog f_f) (h_f : ∀ {w : World} {L : List Res} (hs : St H w L) (x0_ : GItem) {k_x0_ : List Value} (h_x0_ : kItem.rep H x0_ k_x0_) (x1_ : GItem) {k_x1_ : List Value} (h_x1_ : kItem.rep H x1_ k_x1_), Calls Tryd.prog f_f (#[.agg k_x0_.toArray, .agg k_x1_.toArray] ++ cap_f) w (fun e w' => e = .returned (.bool (f x0_ x1_)) ∧ St H w' L)) : Calls Tryd.prog 19 #[.slice A_a n_a c_a, .slice A_b n_b c_b, .func (.func f_f) #[] cap_f] w (fun e w' => e = .returned (.bool (eqF f a b)) ∧ St H w' (L)) := by
  have := h_a.len; have := h_a.le; have : n_a * 32 ≤ 140737488351232 := h_a.bnd
  have := h_b.len; have := h_b.le; have : n_b * 32 ≤ 140737488351232 := h_b.bnd
  refine enter (args := [.slice A_a n_a c_a, .slice A_b n_b c_b, .func (.func f_f) #[] cap_f]) (N := 32) Tryd.func19 rfl rfl rfl ?_
  refine c_seq ?_
  refine c_region ?_
  refine st (v := .bool false) (x_assign .const) ?_
  refine c_nil ?_
  refine n_then ?_
  refine c_seq ?_
  refine c_seq ?_
  refine c_region ?_
  refine st (v := .slice A_a n_a c_a) (x_move (.tmp rfl rfl)) ?_
  refine st (v := .int .i64 ((n_a : Nat) : Int)) (x_len (n := n_a) Tryd.underlying25 (.tmp rfl rfl)) ?_
  refine st (v := .slice A_b n_b c_b) (x_move (.tmp rfl rfl)) ?_
  refine st (v := .int .i64 ((n_b : Nat) : Int)) (x_len (n := n_b) Tryd.underlying25 (.tmp rfl rfl)) ?_
  refine st (v := .bool (decide ((((n_a : Nat) : Int) : Int) ≠ ((n_b : Nat) : Int)))) (x_neq (k := .i64) (a := ((n_a : Nat) : Int)) (b := ((n_b : Nat) : Int)) (.tmp rfl rfl) (.tmp rfl rfl)) ?_
  refine c_nil ?_
  refine n_then ?_
  rcases Bool.eq_false_or_eq_true (decide ((((n_a : Nat) : Int) : Int) ≠ ((n_b : Nat) : Int))) with hc1 | hc1
  · have hp1 : (((n_a : Nat) : Int) : Int) ≠ ((n_b : Nat) : Int) := of_decide_eq_true hc1
    refine c_cond_t (t := true) (.tmp rfl (congrArg Value.bool hc1)) rfl ?_
    refine c_seq ?_
    refine c_region ?_
    refine st (v := .bool false) (x_assign .const) ?_
    refine c_nil ?_
    refine n_then ?_
    refine c_ret ?_
    refine r_then ?_
    refine leave_ret (res_one (v := .bool false) rfl (.mk rfl rfl)) ?_
    have hans2 : (eqF f a b) = false := eqF_len (by omega)
    rw [hans2]
    exact ⟨rfl, hs⟩
  · have hp1 : ¬ ((((n_a : Nat) : Int) : Int) ≠ ((n_b : Nat) : Int)) := of_decide_eq_false hc1
    refine c_cond_f (t := false) (.tmp rfl (congrArg Value.bool hc1)) rfl ?_
    refine c_skip ?_
    refine n_then ?_
    refine c_seq ?_
    refine c_seq ?_
    refine c_region ?_
    refine st (v := .slice A_a n_a c_a) (x_move (.tmp rfl rfl)) ?_
    refine st (v := .int .i64 ((n_a : Nat) : Int)) (x_len (n := n_a) Tryd.underlying25 (.tmp rfl rfl)) ?_
    refine st (v := .int .i64 0) (x_move .const) ?_
    refine c_nil ?_
    refine n_then ?_
    refine c_block ?_
    refine c_loop (fun ρ w mm => ∃ (i : Nat), ρ 1 = .slice A_b n_b c_b ∧ ρ 2 = .func (.func f_f) #[] cap_f ∧ ρ 15 = .slice A_a n_a c_a ∧ ρ 16 = .int .i64 ((n_a : Nat) : Int) ∧ ρ 17 = .int .i64 ((i : Nat) : Int) ∧ (i ≤ n_a) ∧ (∀ (j : Nat) (x y : GItem), j < i → a[j]? = some x → b[j]? = some y → f x y = true) ∧ St H w (L) ∧ mm = n_a - i) _ ⟨0, rfl, rfl, rfl, rfl, rfl, (by omega), (fun j x y h _ _ => absurd h (Nat.not_lt_zero _)), hs, rfl⟩ ?_
    rintro ρ w mm ⟨i, hρ4, hρ5, hρ6, hρ7, hρ8, hi, ha, hs9, rfl⟩
    refine c_seq ?_
    refine c_region ?_
    refine st (v := .bool (decide ((((i : Nat) : Int) : Int) < ((n_a : Nat) : Int)))) (x_lss (k := .i64) (a := ((i : Nat) : Int)) (b := ((n_a : Nat) : Int)) (.tmp rfl hρ8) (.tmp rfl hρ7)) ?_
    refine c_nil ?_
    refine n_then ?_
    refine c_seq ?_
    rcases Bool.eq_false_or_eq_true (decide ((((i : Nat) : Int) : Int) < ((n_a : Nat) : Int))) with hc10 | hc10
    · have hp10 : (((i : Nat) : Int) : Int) < ((n_a : Nat) : Int) := of_decide_eq_true hc10
      refine c_cond_t (t := true) (.tmp rfl (congrArg Value.bool hc10)) rfl ?_
      refine c_skip ?_
      refine n_then ?_
      refine c_seq ?_
      refine c_block ?_
      refine c_seq ?_
      refine c_region ?_
      refine st (v := .int .i64 ((i : Nat) : Int)) (x_move (.tmp rfl hρ8)) ?_
      obtain ⟨e11, b12, o13, cs14, hx15, hA16, hr17, hat18⟩ := h_a.get (i := i) (by omega)
      obtain ⟨A21, n22, c23, rfl, ⟨b19, b20⟩, hy24⟩ := hr17
      have := hy24.len; have := hy24.bnd; have := hy24.le
      have hat18x : ∀ {w : World} {L : List Res}, St H w L → At w ⟨b12, o13 + i * 2, none⟩ [.int .i64 e11.From, .slice A21 n22 c23] := fun h => hat18 h
      refine st (v := .pointer (some ⟨b12, (o13 + i * 2), none⟩)) (ixo25 (.tmp rfl hρ6) hA16 (i := ((i : Nat) : Int)) (.tmp rfl hρ8) (by omega) (by omega) (by omega)) ?_
      refine st (v := .agg #[.int .i64 e11.From, .slice A21 n22 c23]) (ld34 (cs := [.int .i64 e11.From, .slice A21 n22 c23]) (.tmp rfl rfl) ((hat18x hs9).sub 0 rfl) rfl) ?_
      refine st_m (al34 (cs := [.int .i64 0, .slice none 0 0]) hs9 rfl) ?_
      rintro _ w26 ⟨g25, rfl, hs28⟩
      refine st (v := .int .i64 ((i : Nat) : Int)) (x_assign (.tmp rfl rfl)) ?_
      refine st_m0 (sto34 (cs' := [.int .i64 e11.From, .slice A21 n22 c23]) (i := 0) hs28 (v := .agg #[.int .i64 e11.From, .slice A21 n22 c23]) (.tmp rfl rfl) (.tmp rfl rfl) rfl (Nat.le_of_ble_eq_true rfl) (oneA rfl) rfl) ?_
      rintro w29 hs31
      refine c_nil ?_
      refine n_then ?_
      refine c_seq ?_
      refine c_region ?_
      refine st (v := .slice A_b n_b c_b) (x_move (.tmp rfl hρ4)) ?_
      refine st (v := .int .i64 ((i : Nat) : Int)) (x_move (.tmp rfl rfl)) ?_
      obtain ⟨e32, b33, o34, cs35, hx36, hA37, hr38, hat39⟩ := h_b.get (i := i) (by omega)
      obtain ⟨A42, n43, c44, rfl, ⟨b40, b41⟩, hy45⟩ := hr38
      have := hy45.len; have := hy45.bnd; have := hy45.le
      have hat39x : ∀ {w : World} {L : List Res}, St H w L → At w ⟨b33, o34 + i * 2, none⟩ [.int .i64 e32.From, .slice A42 n43 c44] := fun h => hat39 h
      refine st (v := .pointer (some ⟨b33, (o34 + i * 2), none⟩)) (ixo25 (.tmp rfl rfl) hA37 (i := ((i : Nat) : Int)) (.tmp rfl rfl) (by omega) (by omega) (by omega)) ?_
      refine st (v := .agg #[.int .i64 e32.From, .slice A42 n43 c44]) (ld34 (cs := [.int .i64 e32.From, .slice A42 n43 c44]) (.tmp rfl rfl) ((hat39x hs31).sub 0 rfl) rfl) ?_
      refine st_m (al34 (cs := [.int .i64 0, .slice none 0 0]) hs31 rfl) ?_
      rintro _ w47 ⟨g46, rfl, hs49⟩
      refine st_m0 (sto34 (cs' := [.int .i64 e32.From, .slice A42 n43 c44]) (i := 0) hs49 (v := .agg #[.int .i64 e32.From, .slice A42 n43 c44]) (.tmp rfl rfl) (.tmp rfl rfl) rfl (Nat.le_of_ble_eq_true rfl) (oneA rfl) rfl) ?_
      rintro w50 hs52
      refine c_nil ?_
      refine n_then ?_
      refine c_seq ?_
      refine c_region ?_
      refine st (v := .func (.func f_f) #[] cap_f) (x_move (.tmp rfl hρ5)) ?_
      refine st (v := .agg #[.int .i64 e11.From, .slice A21 n22 c23]) (ld34 (cs := [.int .i64 e11.From, .slice A21 n22 c23]) (.tmp rfl rfl) (hs52.at_ 1 rfl (0) rfl) rfl) ?_
      refine st (v := .agg #[.int .i64 e32.From, .slice A42 n43 c44]) (ld34 (cs := [.int .i64 e32.From, .slice A42 n43 c44]) (.tmp rfl rfl) (hs52.at_ 0 rfl (0) rfl) rfl) ?_
      have hr53 : kItem.rep H e11 [.int .i64 e11.From, .slice A21 n22 c23] := ⟨A21, n22, c23, rfl, ⟨b19, b20⟩, hy24⟩
      have hr54 : kItem.rep H e32 [.int .i64 e32.From, .slice A42 n43 c44] := ⟨A42, n43, c44, rfl, ⟨b40, b41⟩, hy45⟩
      refine st_cc cb_f (.tmp rfl rfl) (evs2 (.tmp rfl rfl) (.tmp rfl rfl)) rfl (h_f hs52 e11 hr53 e32 hr54) ?_
      rintro e w55 ⟨rfl, hs56⟩
      refine ⟨_, rfl, ?_⟩
      refine st (v := .bool (!(f e11 e32))) (x_not (.tmp rfl rfl)) ?_
      refine c_nil ?_
      refine n_then ?_
      rcases Bool.eq_false_or_eq_true (f e11 e32) with hc57 | hc57
      · refine c_cond_f (t := false) (.tmp rfl (congrArg Value.bool (by rw [hc57]; rfl))) rfl ?_
        refine c_skip ?_
        refine n_block ?_
        refine n_then ?_
        refine c_region ?_
        refine st (v := .int .i64 (((i + 1) : Nat) : Int)) (x_add (k := .i64) (a := ((i : Nat) : Int)) (b := 1) (.tmp rfl hρ8) .const ((w64 (by omega) (by omega)).trans (by omega))) ?_
        refine st (v := .int .i64 (((i + 1) : Nat) : Int)) (x_move (.tmp rfl rfl)) ?_
        refine c_nil ?_
        refine n_then ⟨_, _, rfl, ?_, (i + 1), hρ4, hρ5, hρ6, hρ7, rfl, (by omega), (eqF_next ha hx15 hx36 hc57), hs56.drop.drop, rfl⟩
        omega
      · refine c_cond_t (t := true) (.tmp rfl (congrArg Value.bool (by rw [hc57]; rfl))) rfl ?_
        refine c_seq ?_
        refine c_region ?_
        refine st (v := .bool false) (x_assign .const) ?_
        refine c_nil ?_
        refine n_then ?_
        refine c_ret ?_
        refine r_block ?_
        refine r_then ?_
        refine r_then ?_
        refine r_block ?_
        refine r_then ?_
        refine leave_ret (res_one (v := .bool false) rfl (.mk rfl rfl)) ?_
        have hans58 : (eqF f a b) = false := eqF_no hx15 hx36 hc57
        rw [hans58]
        exact ⟨rfl, hs56.drop.drop⟩
    · have hp10 : ¬ ((((i : Nat) : Int) : Int) < ((n_a : Nat) : Int)) := of_decide_eq_false hc10
      refine c_cond_f (t := false) (.tmp rfl (congrArg Value.bool hc10)) rfl ?_
      refine c_exit ?_
      refine x_then ?_
      refine x_then ?_
      refine x_here ?_
      refine n_then ?_
      refine c_seq ?_
      refine c_region ?_
      refine st (v := .bool true) (x_assign .const) ?_
      refine c_nil ?_
      refine n_then ?_
      refine c_ret ?_
      refine leave_ret (res_one (v := .bool true) rfl (.mk rfl rfl)) ?_
      have hans59 : (eqF f a b) = true := eqF_yes (by omega) ha (by omega)
      rw [hans59]
      exact ⟨rfl, hs9⟩

set_option maxHeartbeats 8000000 in
theorem clone_item {H : Hp} {w : World} {L : List Res} (hs : St H w (L)) {A_l : Option Addr} {n_l c_l : Nat} (l : (List GItem)) (h_l : Sl kItem H A_l n_l c_l l) : Calls Tryd.prog 22 #[.slice A_l n_l c_l] w (fun e w' => ∃ (v0 : Value) (cs0 : List Value), e = .returned (v0) ∧ RowOk kItem.sz v0 (l).length cs0 ∧ kItem.toKn.rows H (l) cs0 ∧ St H w' (row 34 kItem.sz v0 (l).length cs0 :: L)) := by
  have := h_l.len; have := h_l.le; have : n_l * 32 ≤ 140737488351232 := h_l.bnd
  refine enter (args := [.slice A_l n_l c_l]) (N := 8) Tryd.func22 rfl rfl rfl ?_
  refine c_seq ?_
  refine c_region ?_
  refine st (v := .slice none 0 0) (x_assign .const) ?_
  refine c_nil ?_
  refine n_then ?_
  refine c_seq ?_
  refine c_seq ?_
  refine c_region ?_
  refine st (v := .slice A_l n_l c_l) (x_move (.tmp rfl rfl)) ?_
  refine st (v := .bool (A_l.isNone)) (x_eqlSN Tryd.underlying25 (.tmp rfl rfl) .const) ?_
  refine c_nil ?_
  refine n_then ?_
  rcases Bool.eq_false_or_eq_true (A_l.isNone) with hc1 | hc1
  · refine c_cond_t (t := true) (.tmp rfl (congrArg Value.bool hc1)) rfl ?_
    refine c_seq ?_
    refine c_region ?_
    refine st (v := .slice none 0 0) (x_assign .const) ?_
    refine c_nil ?_
    refine n_then ?_
    refine c_ret ?_
    refine r_then ?_
    refine leave_ret (res_one (v := .slice none 0 0) rfl (.mk rfl rfl)) ?_
    obtain rfl : l = [] := h_l.isNone hc1
    have hs2 : St H _ (row 34 2 (.slice none 0 0) (([] : List GItem).length) [] :: L) := hs.krowNil 34 kItem
    exact ⟨(.slice none 0 0), [], rfl, (RowOk.knil kItem), (Kn.rows_nil _ _), hs2⟩
  · refine c_cond_f (t := false) (.tmp rfl (congrArg Value.bool hc1)) rfl ?_
    refine c_skip ?_
    refine n_then ?_
    refine c_seq ?_
    refine c_region ?_
    refine st_m (m_lit0 Tryd.underlying25 inf34 hs) ?_
    rintro _ w5 ⟨g4, rfl, hs6⟩
    obtain ⟨hs7, ok8⟩ := hs6.krow0 (d := kItem)
    have : ([] : List GItem).length = 0 := rfl
    refine st (v := .slice A_l n_l c_l) (x_move (.tmp rfl rfl)) ?_
    refine st_m (m_appSl (d := kItem) (ys := l) Tryd.underlying25 inf34 rfl hs7 ok8 (Kn.rows_nil _ _) (.tmp rfl rfl) (.tmp rfl rfl) h_l (by omega) (by decide)) ?_
    rintro v10 w11 ⟨cs12, ok13, hk14, hs15⟩
    have hn16 : (([] : List GItem) ++ l).length = ([] : List GItem).length + n_l := by rw [List.length_append, h_l.len]
    have hn16 : l.length = n_l := h_l.len
    have ok13 : RowOk kItem.sz v10 l.length cs12 := ok13
    have hk14 : kItem.toKn.rows H l cs12 := hk14
    have hs15 : St H _ (row 34 2 v10 l.length cs12 :: L) := hs15
    refine st (v := v10) (x_assign (.tmp rfl rfl)) ?_
    refine c_nil ?_
    refine n_then ?_
    refine c_ret ?_
    refine leave_ret (res_one (v := v10) rfl (.mk rfl rfl)) ?_
    rw [List.nil_append] at *
    exact ⟨v10, cs12, rfl, ok13, hk14, hs15⟩

set_option maxHeartbeats 8000000 in
theorem items_spec {H : Hp} {w : World} {L : List Res} (hs : St H w (L)) {A_a : Option Addr} {n_a c_a : Nat} (a : (List GItem)) (h_a : Sl kItem H A_a n_a c_a a) {A_b : Option Addr} {n_b c_b : Nat} (b : (List GItem)) (h_b : Sl kItem H A_b n_b c_b b) : Calls Tryd.prog 13 #[.slice A_a n_a c_a, .slice A_b n_b c_b] w (fun e w' => e = .returned (.bool (decide (a = b))) ∧ St H w' (L)) := by
  have := h_a.len; have := h_a.le; have : n_a * 32 ≤ 140737488351232 := h_a.bnd
  have := h_b.len; have := h_b.le; have : n_b * 32 ≤ 140737488351232 := h_b.bnd
  refine enter (args := [.slice A_a n_a c_a, .slice A_b n_b c_b]) (N := 43) Tryd.func13 rfl rfl rfl ?_
  refine c_seq ?_
  refine c_region ?_
  refine st (v := .bool false) (x_assign .const) ?_
  refine c_nil ?_
  refine n_then ?_
  refine c_seq ?_
  refine c_seq ?_
  refine c_region ?_
  refine st (v := .slice A_a n_a c_a) (x_move (.tmp rfl rfl)) ?_
  refine st (v := .int .i64 ((n_a : Nat) : Int)) (x_len (n := n_a) Tryd.underlying25 (.tmp rfl rfl)) ?_
  refine st (v := .slice A_b n_b c_b) (x_move (.tmp rfl rfl)) ?_
  refine st (v := .int .i64 ((n_b : Nat) : Int)) (x_len (n := n_b) Tryd.underlying25 (.tmp rfl rfl)) ?_
  refine st (v := .bool (decide ((((n_a : Nat) : Int) : Int) ≠ ((n_b : Nat) : Int)))) (x_neq (k := .i64) (a := ((n_a : Nat) : Int)) (b := ((n_b : Nat) : Int)) (.tmp rfl rfl) (.tmp rfl rfl)) ?_
  refine c_nil ?_
  refine n_then ?_
  rcases Bool.eq_false_or_eq_true (decide ((((n_a : Nat) : Int) : Int) ≠ ((n_b : Nat) : Int))) with hc1 | hc1
  · have hp1 : (((n_a : Nat) : Int) : Int) ≠ ((n_b : Nat) : Int) := of_decide_eq_true hc1
    refine c_cond_t (t := true) (.tmp rfl (congrArg Value.bool hc1)) rfl ?_
    refine c_seq ?_
    refine c_region ?_
    refine st (v := .bool false) (x_assign .const) ?_
    refine c_nil ?_
    refine n_then ?_
    refine c_ret ?_
    refine r_then ?_
    refine leave_ret (res_one (v := .bool false) rfl (.mk rfl rfl)) ?_
    have hans2 : decide (a = b) = false := lists_ne_len (by omega)
    rw [hans2]
    exact ⟨rfl, hs⟩
  · have hp1 : ¬ ((((n_a : Nat) : Int) : Int) ≠ ((n_b : Nat) : Int)) := of_decide_eq_false hc1
    refine c_cond_f (t := false) (.tmp rfl (congrArg Value.bool hc1)) rfl ?_
    refine c_skip ?_
    refine n_then ?_
    refine c_seq ?_
    refine c_seq ?_
    refine c_region ?_
    refine st (v := .int .i64 0) (x_assign .const) ?_
    refine c_nil ?_
    refine n_then ?_
    refine c_block ?_
    refine c_loop (fun ρ w mm => ∃ (i : Nat), ρ 0 = .slice A_a n_a c_a ∧ ρ 1 = .slice A_b n_b c_b ∧ ρ 5 = .int .i64 ((i : Nat) : Int) ∧ (i ≤ n_a) ∧ (a.take i = b.take i) ∧ St H w (L) ∧ mm = n_a - i) _ ⟨0, rfl, rfl, rfl, (by omega), rfl, hs, rfl⟩ ?_
    rintro ρ w mm ⟨i, hρ4, hρ5, hρ6, hi, ht, hs7, rfl⟩
    refine c_seq ?_
    refine c_seq ?_
    refine c_region ?_
    refine st (v := .int .i64 ((i : Nat) : Int)) (x_move (.tmp rfl hρ6)) ?_
    refine st (v := .slice A_a n_a c_a) (x_move (.tmp rfl hρ4)) ?_
    refine st (v := .int .i64 ((n_a : Nat) : Int)) (x_len (n := n_a) Tryd.underlying25 (.tmp rfl rfl)) ?_
    refine st (v := .bool (decide ((((i : Nat) : Int) : Int) < ((n_a : Nat) : Int)))) (x_lss (k := .i64) (a := ((i : Nat) : Int)) (b := ((n_a : Nat) : Int)) (.tmp rfl rfl) (.tmp rfl rfl)) ?_
    refine c_nil ?_
    refine n_then ?_
    rcases Bool.eq_false_or_eq_true (decide ((((i : Nat) : Int) : Int) < ((n_a : Nat) : Int))) with hc8 | hc8
    · have hp8 : (((i : Nat) : Int) : Int) < ((n_a : Nat) : Int) := of_decide_eq_true hc8
      refine c_cond_t (t := true) (.tmp rfl (congrArg Value.bool hc8)) rfl ?_
      refine c_skip ?_
      refine n_then ?_
      refine c_seq ?_
      refine c_block ?_
      refine c_seq ?_
      refine q_region mixed hs7 (by kernel_rfl) ?_
      refine q_st (v := .slice A_a n_a c_a) (fun w hs => (x_move (.tmp rfl hρ4))) ?_
      refine q_st (v := .int .i64 ((i : Nat) : Int)) (fun w hs => (x_move (.tmp rfl hρ6))) ?_
      obtain ⟨e9, b10, o11, cs12, hx13, hA14, hr15, hat16⟩ := h_a.get (i := i) (by omega)
      obtain ⟨A19, n20, c21, rfl, ⟨b17, b18⟩, hy22⟩ := hr15
      have := hy22.len; have := hy22.bnd; have := hy22.le
      have hat16x : ∀ {w : World} {L : List Res}, St H w L → At w ⟨b10, o11 + i * 2, none⟩ [.int .i64 e9.From, .slice A19 n20 c21] := fun h => hat16 h
      refine q_st (v := .pointer (some ⟨b10, (o11 + i * 2), none⟩)) (fun w hs => (ixo25 (.tmp rfl rfl) hA14 (i := ((i : Nat) : Int)) (.tmp rfl rfl) (by omega) (by omega) (by omega))) ?_
      refine q_st (v := .pointer (some ⟨b10, (o11 + i * 2) + 0, none⟩)) (fun w hs => (fa34_0 (.tmp rfl rfl))) ?_
      refine q_st (v := .int .i64 e9.From) (fun w hs => (ld3 (.tmp rfl rfl) ((hat16x hs).cell 0 rfl))) ?_
      refine q_st (v := .slice A_b n_b c_b) (fun w hs => (x_move (.tmp rfl hρ5))) ?_
      refine q_st (v := .int .i64 ((i : Nat) : Int)) (fun w hs => (x_move (.tmp rfl hρ6))) ?_
      obtain ⟨e23, b24, o25, cs26, hx27, hA28, hr29, hat30⟩ := h_b.get (i := i) (by omega)
      obtain ⟨A33, n34, c35, rfl, ⟨b31, b32⟩, hy36⟩ := hr29
      have := hy36.len; have := hy36.bnd; have := hy36.le
      have hat30x : ∀ {w : World} {L : List Res}, St H w L → At w ⟨b24, o25 + i * 2, none⟩ [.int .i64 e23.From, .slice A33 n34 c35] := fun h => hat30 h
      refine q_st (v := .pointer (some ⟨b24, (o25 + i * 2), none⟩)) (fun w hs => (ixo25 (.tmp rfl rfl) hA28 (i := ((i : Nat) : Int)) (.tmp rfl rfl) (by omega) (by omega) (by omega))) ?_
      refine q_st (v := .pointer (some ⟨b24, (o25 + i * 2) + 0, none⟩)) (fun w hs => (fa34_0 (.tmp rfl rfl))) ?_
      refine q_st (v := .int .i64 e23.From) (fun w hs => (ld3 (.tmp rfl rfl) ((hat30x hs).cell 0 rfl))) ?_
      refine q_st (v := .bool (decide ((e9.From : Int) ≠ e23.From))) (fun w hs => (x_neq (k := .i64) (a := e9.From) (b := e23.From) (.tmp rfl rfl) (.tmp rfl rfl))) ?_
      refine q_st (v := .bool (decide ((e9.From : Int) ≠ e23.From))) (fun w hs => (x_move (.tmp rfl rfl))) ?_
      rcases Bool.eq_false_or_eq_true (decide ((e9.From : Int) ≠ e23.From)) with hc37 | hc37
      · have hp37 : (e9.From : Int) ≠ e23.From := of_decide_eq_true hc37
        refine q_no (yl (dj := 28) (b := true) rfl rfl (congrArg Value.bool hc37)) rfl ?_
        refine q_no (yl (dj := 28) (b := true) rfl rfl (congrArg Value.bool hc37)) rfl ?_
        refine q_no (yl (dj := 28) (b := true) rfl rfl (congrArg Value.bool hc37)) rfl ?_
        refine q_no (yl (dj := 28) (b := true) rfl rfl (congrArg Value.bool hc37)) rfl ?_
        refine q_no (yl (dj := 28) (b := true) rfl rfl (congrArg Value.bool hc37)) rfl ?_
        refine q_no (yl (dj := 28) (b := true) rfl rfl (congrArg Value.bool hc37)) rfl ?_
        refine q_no (yl (dj := 28) (b := true) rfl rfl (congrArg Value.bool hc37)) rfl ?_
        refine q_no (yl (dj := 28) (b := true) rfl rfl (congrArg Value.bool hc37)) rfl ?_
        refine q_no (yl (dj := 28) (b := true) rfl rfl (congrArg Value.bool hc37)) rfl ?_
        refine q_no (yl (dj := 28) (b := true) rfl rfl (congrArg Value.bool hc37)) rfl ?_
        refine q_no (yl (dj := 28) (b := true) rfl rfl (congrArg Value.bool hc37)) rfl ?_
        refine q_no (yl (dj := 28) (b := true) rfl rfl (congrArg Value.bool hc37)) rfl ?_
        refine q_no (yl (dj := 28) (b := true) rfl rfl (congrArg Value.bool hc37)) rfl ?_
        refine q_st (v := .bool true) (fun w hs => (x_pick_t (.tmp rfl (congrArg Value.bool hc37)) .const)) ?_
        refine q_nil ?_
        intro w hs38
        refine n_then ?_
        refine c_cond_t (t := true) (.tmp rfl rfl) rfl ?_
        refine c_seq ?_
        refine c_region ?_
        refine st (v := .bool false) (x_assign .const) ?_
        refine c_nil ?_
        refine n_then ?_
        refine c_ret ?_
        refine r_block ?_
        refine r_then ?_
        refine r_then ?_
        refine r_block ?_
        refine r_then ?_
        refine leave_ret (res_one (v := .bool false) rfl (.mk rfl rfl)) ?_
        have hans39 : decide (a = b) = false := lists_ne_at hx13 hx27 (item_ne_from (by omega))
        rw [hans39]
        exact ⟨rfl, hs38⟩
      · have hp37 : ¬ ((e9.From : Int) ≠ e23.From) := of_decide_eq_false hc37
        refine q_yes (yl (dj := 28) (b := false) rfl rfl (congrArg Value.bool hc37)) ?_
        refine q_st (v := .slice A_a n_a c_a) (fun w hs => (x_move (.tmp rfl hρ4))) ?_
        refine q_yes (yl (dj := 28) (b := false) rfl rfl (congrArg Value.bool hc37)) ?_
        refine q_st (v := .int .i64 ((i : Nat) : Int)) (fun w hs => (x_move (.tmp rfl hρ6))) ?_
        refine q_yes (yl (dj := 28) (b := false) rfl rfl (congrArg Value.bool hc37)) ?_
        refine q_st (v := .pointer (some ⟨b10, (o11 + i * 2), none⟩)) (fun w hs => (ixo25 (.tmp rfl rfl) hA14 (i := ((i : Nat) : Int)) (.tmp rfl rfl) (by omega) (by omega) (by omega))) ?_
        refine q_yes (yl (dj := 28) (b := false) rfl rfl (congrArg Value.bool hc37)) ?_
        refine q_st (v := .pointer (some ⟨b10, (o11 + i * 2) + 1, none⟩)) (fun w hs => (fa34_1 (.tmp rfl rfl))) ?_
        refine q_yes (yl (dj := 28) (b := false) rfl rfl (congrArg Value.bool hc37)) ?_
        refine q_st (v := .slice A19 n20 c21) (fun w hs => (ld30 (.tmp rfl rfl) ((hat16x hs).cell 1 rfl))) ?_
        refine q_yes (yl (dj := 28) (b := false) rfl rfl (congrArg Value.bool hc37)) ?_
        refine q_st (v := .string (bstr e9.M)) (fun w hs => (hy22.toBs.str Tryd.underlying30 Tryd.underlying5 Tryd.underlying9 hs (.tmp rfl rfl))) ?_
        refine q_yes (yl (dj := 28) (b := false) rfl rfl (congrArg Value.bool hc37)) ?_
        refine q_st (v := .slice A_b n_b c_b) (fun w hs => (x_move (.tmp rfl hρ5))) ?_
        refine q_yes (yl (dj := 28) (b := false) rfl rfl (congrArg Value.bool hc37)) ?_
        refine q_st (v := .int .i64 ((i : Nat) : Int)) (fun w hs => (x_move (.tmp rfl hρ6))) ?_
        refine q_yes (yl (dj := 28) (b := false) rfl rfl (congrArg Value.bool hc37)) ?_
        refine q_st (v := .pointer (some ⟨b24, (o25 + i * 2), none⟩)) (fun w hs => (ixo25 (.tmp rfl rfl) hA28 (i := ((i : Nat) : Int)) (.tmp rfl rfl) (by omega) (by omega) (by omega))) ?_
        refine q_yes (yl (dj := 28) (b := false) rfl rfl (congrArg Value.bool hc37)) ?_
        refine q_st (v := .pointer (some ⟨b24, (o25 + i * 2) + 1, none⟩)) (fun w hs => (fa34_1 (.tmp rfl rfl))) ?_
        refine q_yes (yl (dj := 28) (b := false) rfl rfl (congrArg Value.bool hc37)) ?_
        refine q_st (v := .slice A33 n34 c35) (fun w hs => (ld30 (.tmp rfl rfl) ((hat30x hs).cell 1 rfl))) ?_
        refine q_yes (yl (dj := 28) (b := false) rfl rfl (congrArg Value.bool hc37)) ?_
        refine q_st (v := .string (bstr e23.M)) (fun w hs => (hy36.toBs.str Tryd.underlying30 Tryd.underlying5 Tryd.underlying9 hs (.tmp rfl rfl))) ?_
        refine q_yes (yl (dj := 28) (b := false) rfl rfl (congrArg Value.bool hc37)) ?_
        refine q_st (v := .bool (!decide ((bstr e9.M) = (bstr e23.M)))) (fun w hs => (x_neqS (.tmp rfl rfl) (.tmp rfl rfl))) ?_
        refine q_st (v := .bool (!decide ((bstr e9.M) = (bstr e23.M)))) (fun w hs => (x_pick_f (.tmp rfl (congrArg Value.bool hc37)) (.tmp rfl rfl))) ?_
        refine q_nil ?_
        intro w hs40
        refine n_then ?_
        rcases Bool.eq_false_or_eq_true (decide ((bstr e9.M) = (bstr e23.M))) with hc41 | hc41
        · have hp41 : (bstr e9.M) = (bstr e23.M) := of_decide_eq_true hc41
          refine c_cond_f (t := false) (.tmp rfl (congrArg Value.bool (by rw [hc41]; rfl))) rfl ?_
          refine c_skip ?_
          refine n_block ?_
          refine n_then ?_
          refine c_region ?_
          refine st (v := .int .i64 ((i : Nat) : Int)) (x_move (.tmp rfl hρ6)) ?_
          refine st (v := .int .i64 (((i + 1) : Nat) : Int)) (x_add (k := .i64) (a := ((i : Nat) : Int)) (b := 1) (.tmp rfl rfl) .const ((w64 (by omega) (by omega)).trans (by omega))) ?_
          refine st (v := .int .i64 (((i + 1) : Nat) : Int)) (x_assign (.tmp rfl rfl)) ?_
          refine c_nil ?_
          refine n_then ⟨_, _, rfl, ?_, (i + 1), hρ4, hρ5, rfl, (by omega), (take_eq_next ht hx13 hx27 (item_eq (by omega) hp41 hy22.lt hy36.lt)), hs40, rfl⟩
          omega
        · have hp41 : ¬ ((bstr e9.M) = (bstr e23.M)) := of_decide_eq_false hc41
          refine c_cond_t (t := true) (.tmp rfl (congrArg Value.bool (by rw [hc41]; rfl))) rfl ?_
          refine c_seq ?_
          refine c_region ?_
          refine st (v := .bool false) (x_assign .const) ?_
          refine c_nil ?_
          refine n_then ?_
          refine c_ret ?_
          refine r_block ?_
          refine r_then ?_
          refine r_then ?_
          refine r_block ?_
          refine r_then ?_
          refine leave_ret (res_one (v := .bool false) rfl (.mk rfl rfl)) ?_
          have hans42 : decide (a = b) = false := lists_ne_at hx13 hx27 (item_ne_m hp41)
          rw [hans42]
          exact ⟨rfl, hs40⟩
    · have hp8 : ¬ ((((i : Nat) : Int) : Int) < ((n_a : Nat) : Int)) := of_decide_eq_false hc8
      refine c_cond_f (t := false) (.tmp rfl (congrArg Value.bool hc8)) rfl ?_
      refine c_exit ?_
      refine x_then ?_
      refine x_then ?_
      refine x_here ?_
      refine n_then ?_
      refine c_seq ?_
      refine c_region ?_
      refine st (v := .bool true) (x_assign .const) ?_
      refine c_nil ?_
      refine n_then ?_
      refine c_ret ?_
      refine leave_ret (res_one (v := .bool true) rfl (.mk rfl rfl)) ?_
      have hans43 : decide (a = b) = true := lists_eq ht (by omega) (by omega)
      rw [hans43]
      exact ⟨rfl, hs7⟩

end Go.Proofs.YtnikcgcbkdeeeaaDoor
