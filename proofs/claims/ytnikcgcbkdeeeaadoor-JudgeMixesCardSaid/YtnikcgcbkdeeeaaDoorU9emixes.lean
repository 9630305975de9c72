/- Steps of the proofs over the functions of this seat, printed by a program (gen.py) and checked by Lean. -/
import Derived.Test.YtnikcgcbkdeeeaaDoorUty
import Derived.Test.YtnikcgcbkdeeeaaDoorFmM4b
import Derived.Test.YtnikcgcbkdeeeaaDoorFmP
import Derived.Test.YtnikcgcbkdeeeaaDoorFmK
import Derived.Test.YtnikcgcbkdeeeaaDoorFmT
import Derived.Test.YtnikcgcbkdeeeaaDoorFmJ2
import Derived.Test.YtnikcgcbkdeeeaaDoorU9a
set_option linter.unusedVariables false
set_option linter.unusedSimpArgs false
namespace Go.Proofs.YtnikcgcbkdeeeaaDoor
open Go Go.FM Go.Proofs
attribute [local irreducible] wpList wpQuiet wpS Code.wp Calls
set_option maxHeartbeats 8000000 in
theorem mixes_spec {H : Hp} {w : World} {L : List Res} (hs : St H w (L)) {A_acc : Option Addr} {n_acc c_acc : Nat} (acc : (List (List (List Nat)))) (h_acc : Sl (kSl kBs) H A_acc n_acc c_acc acc) {A_picks : Option Addr} {n_picks c_picks : Nat} (picks : List Nat) (h_picks : By H A_picks n_picks c_picks picks) {A_ends : Option Addr} {n_ends c_ends : Nat} (ends : List Nat) (h_ends : By H A_ends n_ends c_ends ends) (turn : Nat) (b_turn : turn < 256) (htab : Tab H) : Calls Tryd.prog 4 #[.slice A_acc n_acc c_acc, .slice A_picks n_picks c_picks, .slice A_ends n_ends c_ends, .int .u8 ((turn : Nat) : Int)] w (fun e w' => e = .returned (.bool true) ∧ St H w' (L)) := by
  have := h_acc.len; have := h_acc.le; have : n_acc * 24 ≤ 140737488351232 := h_acc.bnd
  have := h_picks.len; have := h_picks.le; have := h_picks.bnd
  have := h_ends.len; have := h_ends.le; have := h_ends.bnd
  refine enter (args := [.slice A_acc n_acc c_acc, .slice A_picks n_picks c_picks, .slice A_ends n_ends c_ends, .int .u8 ((turn : Nat) : Int)]) (N := 192) Tryd.func4 rfl rfl rfl ?_
  refine c_seq ?_
  refine c_region ?_
  refine st (v := .bool false) (x_assign .const) ?_
  refine c_nil ?_
  refine n_then ?_
  refine c_seq ?_
  refine c_seq ?_
  refine c_region ?_
  refine st_c cb10 .func (evs0 ) (awake_spec hs  ) ?_
  rintro e w1 ⟨rfl, hs2⟩
  refine ⟨_, rfl, ?_⟩
  refine st (v := .bool false) (x_not (b := true) (.tmp rfl rfl)) ?_
  refine st (v := .bool false) (x_move (.tmp rfl rfl)) ?_
  refine g_yes (yl (dj := 23) (b := false) rfl rfl rfl) ?_
  refine st (v := .slice A_acc n_acc c_acc) (x_move (.tmp rfl rfl)) ?_
  refine g_yes (yl (dj := 23) (b := false) rfl rfl rfl) ?_
  refine st (v := .int .i64 ((n_acc : Nat) : Int)) (x_len (n := n_acc) Tryd.underlying22 (.tmp rfl rfl)) ?_
  refine g_yes (yl (dj := 23) (b := false) rfl rfl rfl) ?_
  refine st (v := .bool (decide ((((n_acc : Nat) : Int) : Int) = 0))) (x_eql (k := .i64) (a := ((n_acc : Nat) : Int)) (b := 0) (.tmp rfl rfl) .const) ?_
  refine st (v := .bool (decide ((((n_acc : Nat) : Int) : Int) = 0))) (x_pick_f (.tmp rfl rfl) (.tmp rfl rfl)) ?_
  refine st (v := .bool (decide ((((n_acc : Nat) : Int) : Int) = 0))) (x_move (.tmp rfl rfl)) ?_
  rcases Bool.eq_false_or_eq_true (decide ((((n_acc : Nat) : Int) : Int) = 0)) with hc3 | hc3
  · have hp3 : (((n_acc : Nat) : Int) : Int) = 0 := of_decide_eq_true hc3
    refine g_no (yl (dj := 28) (b := true) rfl rfl (congrArg Value.bool hc3)) rfl ?_
    refine g_no (yl (dj := 28) (b := true) rfl rfl (congrArg Value.bool hc3)) rfl ?_
    refine g_no (yl (dj := 28) (b := true) rfl rfl (congrArg Value.bool hc3)) rfl ?_
    refine st (v := .bool true) (x_pick_t (.tmp rfl (congrArg Value.bool hc3)) .const) ?_
    refine st (v := .bool true) (x_move (.tmp rfl rfl)) ?_
    refine g_no (yl (dj := 33) (b := true) rfl rfl rfl) rfl ?_
    refine g_no (yl (dj := 33) (b := true) rfl rfl rfl) rfl ?_
    refine g_no (yl (dj := 33) (b := true) rfl rfl rfl) rfl ?_
    refine st (v := .bool true) (x_pick_t (.tmp rfl rfl) .const) ?_
    refine c_nil ?_
    refine n_then ?_
    refine c_cond_t (t := true) (.tmp rfl rfl) rfl ?_
    refine c_seq ?_
    refine c_region ?_
    refine st_c cb10 .func (evs0 ) (awake_spec hs2  ) ?_
    rintro e w4 ⟨rfl, hs5⟩
    refine ⟨_, rfl, ?_⟩
    refine st (v := .bool true) (x_assign (.tmp rfl rfl)) ?_
    refine c_nil ?_
    refine n_then ?_
    refine c_ret ?_
    refine r_then ?_
    refine leave_ret (res_one (v := .bool true) rfl (.mk rfl rfl)) ?_
    exact ⟨rfl, hs5⟩
  · have hp3 : ¬ ((((n_acc : Nat) : Int) : Int) = 0) := of_decide_eq_false hc3
    refine g_yes (yl (dj := 28) (b := false) rfl rfl (congrArg Value.bool hc3)) ?_
    refine st (v := .slice A_acc n_acc c_acc) (x_move (.tmp rfl rfl)) ?_
    refine g_yes (yl (dj := 28) (b := false) rfl rfl (congrArg Value.bool hc3)) ?_
    refine st (v := .int .i64 ((n_acc : Nat) : Int)) (x_len (n := n_acc) Tryd.underlying22 (.tmp rfl rfl)) ?_
    refine g_yes (yl (dj := 28) (b := false) rfl rfl (congrArg Value.bool hc3)) ?_
    refine st (v := .bool (decide ((8 : Int) < ((n_acc : Nat) : Int)))) (x_gtr (k := .i64) (a := ((n_acc : Nat) : Int)) (b := 8) (.tmp rfl rfl) .const) ?_
    refine st (v := .bool (decide ((8 : Int) < ((n_acc : Nat) : Int)))) (x_pick_f (.tmp rfl (congrArg Value.bool hc3)) (.tmp rfl rfl)) ?_
    refine st (v := .bool (decide ((8 : Int) < ((n_acc : Nat) : Int)))) (x_move (.tmp rfl rfl)) ?_
    rcases Bool.eq_false_or_eq_true (decide ((8 : Int) < ((n_acc : Nat) : Int))) with hc6 | hc6
    · have hp6 : (8 : Int) < ((n_acc : Nat) : Int) := of_decide_eq_true hc6
      refine g_no (yl (dj := 33) (b := true) rfl rfl (congrArg Value.bool hc6)) rfl ?_
      refine g_no (yl (dj := 33) (b := true) rfl rfl (congrArg Value.bool hc6)) rfl ?_
      refine g_no (yl (dj := 33) (b := true) rfl rfl (congrArg Value.bool hc6)) rfl ?_
      refine st (v := .bool true) (x_pick_t (.tmp rfl (congrArg Value.bool hc6)) .const) ?_
      refine c_nil ?_
      refine n_then ?_
      refine c_cond_t (t := true) (.tmp rfl rfl) rfl ?_
      refine c_seq ?_
      refine c_region ?_
      refine st_c cb10 .func (evs0 ) (awake_spec hs2  ) ?_
      rintro e w7 ⟨rfl, hs8⟩
      refine ⟨_, rfl, ?_⟩
      refine st (v := .bool true) (x_assign (.tmp rfl rfl)) ?_
      refine c_nil ?_
      refine n_then ?_
      refine c_ret ?_
      refine r_then ?_
      refine leave_ret (res_one (v := .bool true) rfl (.mk rfl rfl)) ?_
      exact ⟨rfl, hs8⟩
    · have hp6 : ¬ ((8 : Int) < ((n_acc : Nat) : Int)) := of_decide_eq_false hc6
      refine g_yes (yl (dj := 33) (b := false) rfl rfl (congrArg Value.bool hc6)) ?_
      refine st (v := .slice A_ends n_ends c_ends) (x_move (.tmp rfl rfl)) ?_
      refine g_yes (yl (dj := 33) (b := false) rfl rfl (congrArg Value.bool hc6)) ?_
      refine st (v := .int .i64 ((n_ends : Nat) : Int)) (x_len (n := n_ends) Tryd.underlying30 (.tmp rfl rfl)) ?_
      refine g_yes (yl (dj := 33) (b := false) rfl rfl (congrArg Value.bool hc6)) ?_
      refine st (v := .bool (decide ((8 : Int) < ((n_ends : Nat) : Int)))) (x_gtr (k := .i64) (a := ((n_ends : Nat) : Int)) (b := 8) (.tmp rfl rfl) .const) ?_
      refine st (v := .bool (decide ((8 : Int) < ((n_ends : Nat) : Int)))) (x_pick_f (.tmp rfl (congrArg Value.bool hc6)) (.tmp rfl rfl)) ?_
      refine c_nil ?_
      refine n_then ?_
      rcases Bool.eq_false_or_eq_true (decide ((8 : Int) < ((n_ends : Nat) : Int))) with hc9 | hc9
      · have hp9 : (8 : Int) < ((n_ends : Nat) : Int) := of_decide_eq_true hc9
        refine c_cond_t (t := true) (.tmp rfl (congrArg Value.bool hc9)) rfl ?_
        refine c_seq ?_
        refine c_region ?_
        refine st_c cb10 .func (evs0 ) (awake_spec hs2  ) ?_
        rintro e w10 ⟨rfl, hs11⟩
        refine ⟨_, rfl, ?_⟩
        refine st (v := .bool true) (x_assign (.tmp rfl rfl)) ?_
        refine c_nil ?_
        refine n_then ?_
        refine c_ret ?_
        refine r_then ?_
        refine leave_ret (res_one (v := .bool true) rfl (.mk rfl rfl)) ?_
        exact ⟨rfl, hs11⟩
      · have hp9 : ¬ ((8 : Int) < ((n_ends : Nat) : Int)) := of_decide_eq_false hc9
        refine c_cond_f (t := false) (.tmp rfl (congrArg Value.bool hc9)) rfl ?_
        refine c_skip ?_
        refine n_then ?_
        refine c_seq ?_
        refine c_region ?_
        refine st (v := .slice A_acc n_acc c_acc) (x_move (.tmp rfl rfl)) ?_
        refine st (v := .int .i64 ((n_acc : Nat) : Int)) (x_len (n := n_acc) Tryd.underlying22 (.tmp rfl rfl)) ?_
        have hr18 : kI.rep H 0 [.int .i64 0] := ⟨rfl, (show IB 0 from ⟨by omega, by omega⟩)⟩
        refine st_m (m_makeK (d := kI) (y0 := 0) (i := ((n_acc : Nat) : Int)) Tryd.underlying31 inf3 hr18 hs2 (.tmp rfl rfl) (.tmp rfl rfl) (by omega) (by omega) (by decide)) ?_
        rintro v12 w13 ⟨cs14, ok15, hk16, hs17⟩
        have hn20 : (List.replicate n_acc (0 : Int)).length = n_acc := by simp
        refine st (v := v12) (x_assign (.tmp rfl rfl)) ?_
        refine c_nil ?_
        refine n_then ?_
        refine c_seq ?_
        refine c_region ?_
        refine st (v := .slice none 0 0) (x_assign .const) ?_
        refine c_nil ?_
        refine n_then ?_
        refine c_seq ?_
        refine c_seq ?_
        refine c_region ?_
        refine st (v := .int .i64 0) (x_assign .const) ?_
        refine c_nil ?_
        refine n_then ?_
        refine c_block ?_
        have hs23 : St H _ (row 34 2 (.slice none 0 0) (([] : List GItem).length) [] :: row 3 1 v12 ((List.replicate n_acc (0 : Int)).length) cs14 :: L) := hs17.krowNil 34 kItem
        have : ([] : List GItem).length = 0 := rfl
        refine c_loop (fun ρ w mm => ∃ (i : Nat) (at_ : List Int) (v_at_ : Value) (c_at_ : List Value) (s : List GItem) (v_s : Value) (c_s : List Value), ρ 0 = .slice A_acc n_acc c_acc ∧ ρ 1 = .slice A_picks n_picks c_picks ∧ ρ 2 = .slice A_ends n_ends c_ends ∧ ρ 3 = .int .u8 ((turn : Nat) : Int) ∧ ρ 9 = v_at_ ∧ ρ 10 = v_s ∧ ρ 11 = .int .i64 ((i : Nat) : Int) ∧ (RowOk kI.sz v_at_ at_.length c_at_) ∧ (kI.toKn.rows H at_ c_at_) ∧ (RowOk kItem.sz v_s s.length c_s) ∧ (kItem.toKn.rows H s c_s) ∧ (i ≤ 60) ∧ (at_ = cntL n_acc s) ∧ (s.length ≤ i) ∧ (∀ j, j < s.length → okAt acc s j = true) ∧ St H w (row 3 1 v_at_ at_.length c_at_ :: row 34 2 v_s s.length c_s :: L) ∧ mm = 60 - i) _ ⟨0, (List.replicate n_acc (0 : Int)), v12, cs14, ([] : List GItem), (.slice none 0 0), [], rfl, rfl, rfl, rfl, rfl, rfl, rfl, ok15, hk16, (RowOk.knil kItem), (Kn.rows_nil _ _), (by omega), (cntL_nil _).symm, (Nat.zero_le _), (fun j h => absurd h (Nat.not_lt_zero _)), (hs23.pick 1 rfl rfl), rfl⟩ ?_
        rintro ρ w mm ⟨i, at_, v_at_, c_at_, s, v_s, c_s, hρ25, hρ26, hρ27, hρ28, hρ29, hρ30, hρ31, ok_at_, hk_at_, ok_s, hk_s, hi, hat, hsl, hok, hs32, rfl⟩
        refine c_seq ?_
        refine c_seq ?_
        refine c_region ?_
        refine st (v := .int .i64 ((i : Nat) : Int)) (x_move (.tmp rfl hρ31)) ?_
        refine st (v := .slice A_picks n_picks c_picks) (x_move (.tmp rfl hρ26)) ?_
        refine st (v := .int .i64 ((n_picks : Nat) : Int)) (x_len (n := n_picks) Tryd.underlying30 (.tmp rfl rfl)) ?_
        refine st (v := .bool (decide ((((i : Nat) : Int) : Int) < ((n_picks : Nat) : Int)))) (x_lss (k := .i64) (a := ((i : Nat) : Int)) (b := ((n_picks : Nat) : Int)) (.tmp rfl rfl) (.tmp rfl rfl)) ?_
        refine st (v := .bool (decide ((((i : Nat) : Int) : Int) < ((n_picks : Nat) : Int)))) (x_move (.tmp rfl rfl)) ?_
        rcases Bool.eq_false_or_eq_true (decide ((((i : Nat) : Int) : Int) < ((n_picks : Nat) : Int))) with hc33 | hc33
        · have hp33 : (((i : Nat) : Int) : Int) < ((n_picks : Nat) : Int) := of_decide_eq_true hc33
          refine g_yes (yl (dj := 46) (b := true) rfl rfl (congrArg Value.bool hc33)) ?_
          refine st (v := .int .i64 ((i : Nat) : Int)) (x_move (.tmp rfl hρ31)) ?_
          refine g_yes (yl (dj := 46) (b := true) rfl rfl (congrArg Value.bool hc33)) ?_
          refine st (v := .bool (decide ((((i : Nat) : Int) : Int) < 60))) (x_lss (k := .i64) (a := ((i : Nat) : Int)) (b := 60) (.tmp rfl rfl) .const) ?_
          refine st (v := .bool (decide ((((i : Nat) : Int) : Int) < 60))) (x_pick_t (.tmp rfl (congrArg Value.bool hc33)) (.tmp rfl rfl)) ?_
          refine c_nil ?_
          refine n_then ?_
          rcases Bool.eq_false_or_eq_true (decide ((((i : Nat) : Int) : Int) < 60)) with hc34 | hc34
          · have hp34 : (((i : Nat) : Int) : Int) < 60 := of_decide_eq_true hc34
            refine c_cond_t (t := true) (.tmp rfl (congrArg Value.bool hc34)) rfl ?_
            refine c_skip ?_
            refine n_then ?_
            refine c_seq ?_
            refine c_block ?_
            refine c_seq ?_
            refine c_region ?_
            have hal : at_.length = n_acc := by rw [hat]; exact cntL_len _ _
            refine st (v := .slice A_picks n_picks c_picks) (x_move (.tmp rfl hρ26)) ?_
            refine st (v := .int .i64 ((i : Nat) : Int)) (x_move (.tmp rfl hρ31)) ?_
            obtain ⟨b35, o36, hA37, hc38⟩ := h_picks.toBs.get (i := i) (by omega)
            refine st (v := .pointer (some ⟨b35, (o36 + i * 1), none⟩)) (ixo30 (.tmp rfl rfl) hA37 (i := ((i : Nat) : Int)) (.tmp rfl rfl) (by omega) (by omega) rfl) ?_
            refine st (v := .int .u8 ((picks.getD i 0 : Nat) : Int)) (ld5 (.tmp rfl rfl) (hc38 hs32)) ?_
            have : (picks.getD i 0) < 256 := (h_picks.toBs.lt.getD _)
            refine st (v := .int .i64 ((picks.getD i 0 : Nat) : Int)) (x_conv (k := .u8) (a := ((picks.getD i 0 : Nat) : Int)) Tryd.underlying5 Tryd.underlying3 (.tmp rfl rfl) (w64 (by omega) (by omega))) ?_
            refine st (v := .slice A_acc n_acc c_acc) (x_move (.tmp rfl hρ25)) ?_
            refine st (v := .int .i64 ((n_acc : Nat) : Int)) (x_len (n := n_acc) Tryd.underlying22 (.tmp rfl rfl)) ?_
            have : (picks.getD i 0) % n_acc < n_acc := Nat.mod_lt _ (by omega)
            refine st (v := .int .i64 ((((picks.getD i 0) % n_acc) : Nat) : Int)) (x_remN (k := .i64) (m := (picks.getD i 0)) (n := n_acc) (.tmp rfl rfl) (.tmp rfl rfl) (by omega)) ?_
            have hkl := Nat.mod_lt (picks.getD i 0) (show 0 < n_acc by omega)
            refine st (v := .int .i64 ((((picks.getD i 0) % n_acc) : Nat) : Int)) (x_assign (.tmp rfl rfl)) ?_
            refine c_nil ?_
            refine n_then ?_
            refine c_seq ?_
            refine q_region mixed hs32 (by kernel_rfl) ?_
            refine q_st (v := v_at_) (fun w hs => (x_move (.tmp rfl hρ29))) ?_
            refine q_st (v := .int .i64 ((((picks.getD i 0) % n_acc) : Nat) : Int)) (fun w hs => (x_move (.tmp rfl rfl))) ?_
            obtain ⟨g39, c40, hv41⟩ := ok_at_.pos (by omega)
            obtain ⟨e42, cs43, hx44, hr45, hsub46⟩ := Kn.rows_get (i := ((picks.getD i 0) % n_acc)) hk_at_ (by omega)
            obtain ⟨rfl, ⟨b47, b48⟩⟩ := hr45
            have hz0 : 0 ≤ e42 := by have h9 := hx44; rw [hat] at h9; have := (cntL_at h9).2; omega
            refine q_st (v := .pointer (some ⟨g39, (((picks.getD i 0) % n_acc) * 1), none⟩)) (fun w hs => (ixo31 (.tmp rfl hv41) rfl (i := ((((picks.getD i 0) % n_acc) : Nat) : Int)) (.tmp rfl rfl) (by omega) (by omega) (by omega))) ?_
            refine q_st (v := .int .i64 e42) (fun w hs => (ld3 (.tmp rfl rfl) ((hs.rowAt 0 rfl hv41 (((picks.getD i 0) % n_acc) * 1) hsub46).cell 0 rfl))) ?_
            refine q_st (v := .slice A_acc n_acc c_acc) (fun w hs => (x_move (.tmp rfl hρ25))) ?_
            refine q_st (v := .int .i64 ((((picks.getD i 0) % n_acc) : Nat) : Int)) (fun w hs => (x_move (.tmp rfl rfl))) ?_
            obtain ⟨e49, b50, o51, cs52, hx53, hA54, hr55, hat56⟩ := h_acc.get (i := ((picks.getD i 0) % n_acc)) (by omega)
            obtain ⟨A57, n58, c59, rfl, hl60⟩ := hr55
            have := hl60.len; have : n58 * 24 ≤ 140737488351232 := hl60.bnd; have := hl60.le
            have hat56x : ∀ {w : World} {L : List Res}, St H w L → At w ⟨b50, o51 + ((picks.getD i 0) % n_acc) * 1, none⟩ [.slice A57 n58 c59] := fun h => hat56 h
            refine q_st (v := .pointer (some ⟨b50, (o51 + ((picks.getD i 0) % n_acc) * 1), none⟩)) (fun w hs => (ixo22 (.tmp rfl rfl) hA54 (i := ((((picks.getD i 0) % n_acc) : Nat) : Int)) (.tmp rfl rfl) (by omega) (by omega) (by omega))) ?_
            refine q_st (v := .slice A57 n58 c59) (fun w hs => (ld32 (.tmp rfl rfl) ((hat56x hs).cell 0 rfl))) ?_
            refine q_st (v := .int .i64 ((n58 : Nat) : Int)) (fun w hs => (x_len (n := n58) Tryd.underlying32 (.tmp rfl rfl))) ?_
            refine q_st (v := .bool (decide ((e42 : Int) < ((n58 : Nat) : Int)))) (fun w hs => (x_lss (k := .i64) (a := e42) (b := ((n58 : Nat) : Int)) (.tmp rfl rfl) (.tmp rfl rfl))) ?_
            refine q_nil ?_
            intro w hs61
            refine n_then ?_
            rcases Bool.eq_false_or_eq_true (decide ((e42 : Int) < ((n58 : Nat) : Int))) with hc62 | hc62
            · have hp62 : (e42 : Int) < ((n58 : Nat) : Int) := of_decide_eq_true hc62
              refine c_cond_t (t := true) (.tmp rfl (congrArg Value.bool hc62)) rfl ?_
              refine c_seq ?_
              refine t_region (L := row 3 1 v_at_ at_.length c_at_ :: row 34 2 v_s s.length c_s :: L) (L' := row 3 1 v_at_ at_.length c_at_ :: L) (Z := []) (F := []) (pl := (.q 0 (.q 1 (.q 2 (.q 3 (.q 4 (.q 5 (.q 6 (.q 7 (.q 8 (.q 9 (.q 10 (.q 11 (.q 12 (.e 13 (.e 14 (.q 15 .done))))))))))))))))) mixed hs61 (fun u hu => (hu.pick 1 rfl rfl).drop) (by kernel_rfl) ?_
              intro w63 hs64
              refine t_st (k := 0) (v := v_s) rfl rfl (fun w hs => (x_move (.tmp rfl hρ30))) ?_
              refine t_st (k := 1) (v := .int .i64 ((((picks.getD i 0) % n_acc) : Nat) : Int)) rfl rfl (fun w hs => (x_move (.tmp rfl rfl))) ?_
              refine t_st (k := 2) (v := .slice A_acc n_acc c_acc) rfl rfl (fun w hs => (x_move (.tmp rfl hρ25))) ?_
              refine t_st (k := 3) (v := .int .i64 ((((picks.getD i 0) % n_acc) : Nat) : Int)) rfl rfl (fun w hs => (x_move (.tmp rfl rfl))) ?_
              refine t_st (k := 4) (v := .pointer (some ⟨b50, (o51 + ((picks.getD i 0) % n_acc) * 1), none⟩)) rfl rfl (fun w hs => (ixo22 (.tmp rfl rfl) hA54 (i := ((((picks.getD i 0) % n_acc) : Nat) : Int)) (.tmp rfl rfl) (by omega) (by omega) (by omega))) ?_
              refine t_st (k := 5) (v := .slice A57 n58 c59) rfl rfl (fun w hs => (ld32 (.tmp rfl rfl) ((hat56x hs).cell 0 rfl))) ?_
              refine t_st (k := 6) (v := v_at_) rfl rfl (fun w hs => (x_move (.tmp rfl hρ29))) ?_
              refine t_st (k := 7) (v := .int .i64 ((((picks.getD i 0) % n_acc) : Nat) : Int)) rfl rfl (fun w hs => (x_move (.tmp rfl rfl))) ?_
              obtain ⟨g65, c66, hv67⟩ := ok_at_.pos (by omega)
              refine t_st (k := 8) (v := .pointer (some ⟨g65, (((picks.getD i 0) % n_acc) * 1), none⟩)) rfl rfl (fun w hs => (ixo31 (.tmp rfl hv67) rfl (i := ((((picks.getD i 0) % n_acc) : Nat) : Int)) (.tmp rfl rfl) (by omega) (by omega) (by omega))) ?_
              refine t_st (k := 9) (v := .int .i64 e42) rfl rfl (fun w hs => (ld3 (.tmp rfl rfl) ((hs.rowAt 0 rfl hv67 (((picks.getD i 0) % n_acc) * 1) hsub46).cell 0 rfl))) ?_
              obtain ⟨e68, b69, o70, cs71, hx72, hA73, hr74, hat75⟩ := hl60.get (i := e42.toNat) (by omega)
              obtain ⟨A76, n77, c78, rfl, hy79⟩ := hr74
              have := hy79.len; have := hy79.bnd; have := hy79.le
              have hat75x : ∀ {w : World} {L : List Res}, St H w L → At w ⟨b69, o70 + e42.toNat * 1, none⟩ [.slice A76 n77 c78] := fun h => hat75 h
              refine t_st (k := 10) (v := .pointer (some ⟨b69, (o70 + e42.toNat * 1), none⟩)) rfl rfl (fun w hs => (ixo32 (.tmp rfl rfl) hA73 (i := e42) (.tmp rfl rfl) (by omega) (by omega) (by omega))) ?_
              refine t_st (k := 11) (v := .slice A76 n77 c78) rfl rfl (fun w hs => (ld30 (.tmp rfl rfl) ((hat75x hs).cell 0 rfl))) ?_
              refine t_st (k := 12) (v := .agg #[.int .i64 ((((picks.getD i 0) % n_acc) : Nat) : Int), .slice A76 n77 c78]) rfl rfl (fun w hs => (bl34 (ps := [(0, .int .i64 ((((picks.getD i 0) % n_acc) : Nat) : Int)), (1, .slice A76 n77 c78)]) (.cons (.tmp rfl rfl) (.cons (.tmp rfl rfl) Evp.nil)) rfl)) ?_
              refine t_eff (k := 13) rfl ?_
              refine st_m (m_lit (n := 1) (ps := [(0, .agg #[.int .i64 ((((picks.getD i 0) % n_acc) : Nat) : Int), .slice A76 n77 c78])]) (cs := [.int .i64 ((((picks.getD i 0) % n_acc) : Nat) : Int), .slice A76 n77 c78]) Tryd.underlying25 inf34 (.cons (.tmp rfl rfl) Evp.nil) (by decide) (by decide) rfl rfl hs64) ?_
              rintro _ w81 ⟨g80, rfl, hs83⟩
              refine t_on (S' := fun u => St H u (obj g80 34 [.int .i64 ((((picks.getD i 0) % n_acc) : Nat) : Int), .slice A76 n77 c78] :: row 3 1 v_at_ at_.length c_at_ :: L)) (fun u hu => hu.drop) (hs83.pick 2 rfl rfl).drop ?_
              refine t_eff (k := 14) rfl ?_
              have hs84 : St H _ (row 34 2 v_s s.length c_s :: obj g80 34 [.int .i64 ((((picks.getD i 0) % n_acc) : Nat) : Int), .slice A76 n77 c78] :: row 3 1 v_at_ at_.length c_at_ :: L) := hs83.pick 2 rfl rfl
              have hr92 : kItem.rep H (GItem.mk ((((picks.getD i 0) % n_acc) : Nat) : Int) e68) [.int .i64 ((((picks.getD i 0) % n_acc) : Nat) : Int), .slice A76 n77 c78] := ⟨A76, n77, c78, rfl, (show IB ((((picks.getD i 0) % n_acc) : Nat) : Int) from ⟨by omega, by omega⟩), hy79⟩
              refine st_m (m_appK (d := kItem) (ys := [(GItem.mk ((((picks.getD i 0) % n_acc) : Nat) : Int) e68)]) (news := [.int .i64 ((((picks.getD i 0) % n_acc) : Nat) : Int), .slice A76 n77 c78]) Tryd.underlying25 inf34 rfl hs84 ok_s hk_s (.tmp rfl rfl) (.tmp rfl rfl) (Kn.rows_one hr92) rfl (hs84.at_ 1 rfl 0 rfl) (by have : ([(GItem.mk ((((picks.getD i 0) % n_acc) : Nat) : Int) e68)] : List GItem).length = 1 := rfl; omega) (by decide)) ?_
              rintro v85 w86 ⟨cs87, ok88, hk89, hs90⟩
              have hn91 : (s ++ [(GItem.mk ((((picks.getD i 0) % n_acc) : Nat) : Int) e68)]).length = s.length + 1 := by simp
              refine t_on (S' := fun u => St H u (obj g80 34 [.int .i64 ((((picks.getD i 0) % n_acc) : Nat) : Int), .slice A76 n77 c78] :: row 3 1 v_at_ at_.length c_at_ :: L)) (fun u hu => hu) hs90.drop ?_
              refine t_st (k := 15) (v := v85) rfl rfl (fun w hs => (x_assign (.tmp rfl rfl))) ?_
              refine t_nil ?_
              refine n_then ?_
              refine c_region ?_
              refine st (v := v_at_) (x_move (.tmp rfl hρ29)) ?_
              refine st (v := .int .i64 ((((picks.getD i 0) % n_acc) : Nat) : Int)) (x_move (.tmp rfl rfl)) ?_
              obtain ⟨g93, c94, hv95⟩ := ok_at_.pos (by omega)
              refine st (v := .pointer (some ⟨g93, (((picks.getD i 0) % n_acc) * 1), none⟩)) (ixo31 (.tmp rfl hv95) rfl (i := ((((picks.getD i 0) % n_acc) : Nat) : Int)) (.tmp rfl rfl) (by omega) (by omega) (by omega)) ?_
              refine st (v := .int .i64 e42) (ld3 (.tmp rfl rfl) ((hs90.rowAt 2 rfl hv95 (((picks.getD i 0) % n_acc) * 1) hsub46).cell 0 rfl)) ?_
              refine st (v := .int .i64 (e42 + 1)) (x_add (k := .i64) (a := e42) (b := 1) (.tmp rfl rfl) .const (w64 (by omega) (by omega))) ?_
              obtain ⟨g96, c97, hv98⟩ := ok_at_.pos (by omega)
              refine st (v := .pointer (some ⟨g96, (((picks.getD i 0) % n_acc) * 1), none⟩)) (ixo31 (.tmp rfl hv98) rfl (i := ((((picks.getD i 0) % n_acc) : Nat) : Int)) (.tmp rfl rfl) (by omega) (by omega) (by omega)) ?_
              have hs99 : St H _ (row 3 1 v_at_ at_.length c_at_ :: row 34 2 v85 ((s ++ [(GItem.mk ((((picks.getD i 0) % n_acc) : Nat) : Int) e68)]).length) cs87 :: obj g80 34 [.int .i64 ((((picks.getD i 0) % n_acc) : Nat) : Int), .slice A76 n77 c78] :: L) := hs90.pick 2 rfl rfl
              have hl105 : ((picks.getD i 0) % n_acc) * 1 + 1 ≤ c_at_.length := by have h1 := (hk_at_).1; have h2 : kI.sz = 1 := rfl; rw [h2] at h1; omega
              have hr104 : kI.rep H (e42 + 1) [.int .i64 (e42 + 1)] := ⟨rfl, (show IB (e42 + 1) from ⟨by omega, by omega⟩)⟩
              refine st_m0 (stor3 hs99 hv98 (i := (((picks.getD i 0) % n_acc) * 1)) (xs' := splice c_at_ (((picks.getD i 0) % n_acc) * 1) [.int .i64 (e42 + 1)]) (.tmp rfl rfl) (u := .int .i64 (e42 + 1)) (.tmp rfl rfl) rfl (by omega) one1 rfl) ?_
              rintro w100 hs101
              have hk103 := Kn.rows_set (d := kI.toKn) hk_at_ (i := ((picks.getD i 0) % n_acc)) (by omega) hr104
              have ok102 := ok_at_.splice (i := ((picks.getD i 0) % n_acc) * 1) (vs := [.int .i64 (e42 + 1)]) (by simpa using hl105)
              have hn106 : (at_.set ((picks.getD i 0) % n_acc) (e42 + 1)).length = at_.length := List.length_set
              have ok107 : RowOk kI.sz v_at_ (at_.set ((picks.getD i 0) % n_acc) (e42 + 1)).length (splice c_at_ (((picks.getD i 0) % n_acc) * 1) [.int .i64 (e42 + 1)]) := by rw [hn106]; exact ok102
              have hs108 : St H w100 (row 3 1 v_at_ ((at_.set ((picks.getD i 0) % n_acc) (e42 + 1)).length) (splice c_at_ (((picks.getD i 0) % n_acc) * 1) [.int .i64 (e42 + 1)]) :: row 34 2 v85 ((s ++ [(GItem.mk ((((picks.getD i 0) % n_acc) : Nat) : Int) e68)]).length) cs87 :: obj g80 34 [.int .i64 ((((picks.getD i 0) % n_acc) : Nat) : Int), .slice A76 n77 c78] :: L) := by rw [hn106]; exact hs101
              refine c_nil ?_
              refine n_block ?_
              refine n_then ?_
              refine c_region ?_
              refine st (v := .int .i64 ((i : Nat) : Int)) (x_move (.tmp rfl hρ31)) ?_
              refine st (v := .int .i64 (((i + 1) : Nat) : Int)) (x_add (k := .i64) (a := ((i : Nat) : Int)) (b := 1) (.tmp rfl rfl) .const ((w64 (by omega) (by omega)).trans (by omega))) ?_
              refine st (v := .int .i64 (((i + 1) : Nat) : Int)) (x_assign (.tmp rfl rfl)) ?_
              refine c_nil ?_
              have hcz : e42 = ((cntI s ((((picks.getD i 0) % n_acc) : Nat) : Int) : Nat) : Int) := (cntL_at (n := n_acc) (by have h9 := hx44; rw [hat] at h9; exact h9)).2
              refine n_then ⟨_, _, rfl, ?_, (i + 1), (at_.set ((picks.getD i 0) % n_acc) (e42 + 1)), v_at_, (splice c_at_ (((picks.getD i 0) % n_acc) * 1) [.int .i64 (e42 + 1)]), (s ++ [(GItem.mk ((((picks.getD i 0) % n_acc) : Nat) : Int) e68)]), v85, cs87, hρ25, hρ26, hρ27, hρ28, hρ29, rfl, rfl, ok107, hk103, ok88, hk89, (by omega), (by rw [cntL_next (m := ((picks.getD i 0) % n_acc)) rfl (by omega), ← hat, ← hcz]), (by rw [List.length_append, List.length_singleton]; omega), (ok_snoc hok (ok_push hx53 (by omega) hx72)), (((hs108.pick 2 rfl rfl).drop.pick 1 rfl rfl).pick 1 rfl rfl), rfl⟩
              omega
            · have hp62 : ¬ ((e42 : Int) < ((n58 : Nat) : Int)) := of_decide_eq_false hc62
              refine c_cond_f (t := false) (.tmp rfl (congrArg Value.bool hc62)) rfl ?_
              refine c_skip ?_
              refine n_block ?_
              refine n_then ?_
              refine c_region ?_
              refine st (v := .int .i64 ((i : Nat) : Int)) (x_move (.tmp rfl hρ31)) ?_
              refine st (v := .int .i64 (((i + 1) : Nat) : Int)) (x_add (k := .i64) (a := ((i : Nat) : Int)) (b := 1) (.tmp rfl rfl) .const ((w64 (by omega) (by omega)).trans (by omega))) ?_
              refine st (v := .int .i64 (((i + 1) : Nat) : Int)) (x_assign (.tmp rfl rfl)) ?_
              refine c_nil ?_
              refine n_then ⟨_, _, rfl, ?_, (i + 1), at_, v_at_, c_at_, s, v_s, c_s, hρ25, hρ26, hρ27, hρ28, hρ29, hρ30, rfl, ok_at_, hk_at_, ok_s, hk_s, (by omega), (by omega), (by omega), (by omega), ((hs61.pick 1 rfl rfl).pick 1 rfl rfl), rfl⟩
              omega
          · have hp34 : ¬ ((((i : Nat) : Int) : Int) < 60) := of_decide_eq_false hc34
            refine c_cond_f (t := false) (.tmp rfl (congrArg Value.bool hc34)) rfl ?_
            refine c_exit ?_
            refine x_then ?_
            refine x_then ?_
            refine x_here ?_
            refine n_then ?_
            refine c_seq ?_
            refine c_region ?_
            refine st (v := v_s) (x_move (.tmp rfl hρ30)) ?_
            have hs109 : St H _ (row 34 2 v_s s.length c_s :: row 3 1 v_at_ at_.length c_at_ :: L) := hs32.pick 1 rfl rfl
            have : s.length * 32 ≤ 140737488351232 := by omega
            obtain ⟨H110, A111, c112, hle113, hs114, rfl, sp115⟩ := hs109.freezeSl (d := kItem) ok_s hk_s this
            have := sp115.len; have := sp115.le
            refine st_m (m_lit (n := 1) (ps := [(0, .slice A111 s.length c112)]) (cs := [.slice A111 s.length c112]) Tryd.underlying23 inf25 (.cons (.tmp rfl rfl) Evp.nil) (by decide) (by decide) rfl rfl hs114) ?_
            rintro _ w117 ⟨g116, rfl, hs119⟩
            have hr124 : (kSl kItem).rep H110 s [.slice A111 s.length c112] := ⟨A111, s.length, c112, rfl, sp115⟩
            obtain ⟨hs121, ok122⟩ := hs119.rowOfObj (n := 1) (size := (kSl kItem).sz) rfl (by decide)
            have hk123 : (kSl kItem).toKn.rows H110 [s] [.slice A111 s.length c112] := Kn.rows_one hr124
            have : ([s] : List (List GItem)).length = 1 := rfl
            have hs125 : St H110 _ (row 25 1 (.slice (some ⟨g116, 0, none⟩) 1 1) (([s] : List (List GItem)).length) [.slice A111 s.length c112] :: row 3 1 v_at_ at_.length c_at_ :: L) := hs121
            skip
            refine st (v := .slice (some ⟨g116, 0, none⟩) 1 1) (x_assign (.tmp rfl rfl)) ?_
            refine c_nil ?_
            refine n_then ?_
            refine c_seq ?_
            refine c_seq ?_
            refine c_region ?_
            refine st (v := .int .i64 0) (x_assign .const) ?_
            refine c_nil ?_
            refine n_then ?_
            refine c_block ?_
            refine c_loop (fun ρ w mm => ∃ (q : Nat) (d : List (List GItem)) (v_d : Value) (c_d : List Value), ρ 0 = .slice A_acc n_acc c_acc ∧ ρ 2 = .slice A_ends n_ends c_ends ∧ ρ 3 = .int .u8 ((turn : Nat) : Int) ∧ ρ 10 = .slice A111 s.length c112 ∧ ρ 13 = v_d ∧ ρ 14 = .int .i64 ((q : Nat) : Int) ∧ (RowOk (kSl kItem).sz v_d d.length c_d) ∧ ((kSl kItem).toKn.rows H110 d c_d) ∧ (q ≤ n_ends) ∧ (s ∈ d) ∧ (∀ l ∈ d, ∃ m, l = s.take m) ∧ (d.length ≤ q + 1) ∧ St H110 w (row 25 1 v_d d.length c_d :: L) ∧ mm = n_ends - q) _ ⟨0, ([s] : List (List GItem)), (.slice (some ⟨g116, 0, none⟩) 1 1), [.slice A111 s.length c112], hρ25, hρ27, hρ28, hρ30, rfl, rfl, ok122, hk123, (by omega), (List.mem_singleton.2 rfl), (fun l hl => ⟨s.length, by rw [List.mem_singleton.1 hl, List.take_length]⟩), (Nat.le_refl _), (hs125.pick 1 rfl rfl).drop, rfl⟩ ?_
            rintro ρ w mm ⟨q, d, v_d, c_d, hρ127, hρ128, hρ129, hρ130, hρ131, hρ132, ok_d, hk_d, hq, hd0, hd, hdl, hs133, rfl⟩
            refine c_seq ?_
            refine c_seq ?_
            refine c_region ?_
            refine st (v := .int .i64 ((q : Nat) : Int)) (x_move (.tmp rfl hρ132)) ?_
            refine st (v := .slice A_ends n_ends c_ends) (x_move (.tmp rfl hρ128)) ?_
            refine st (v := .int .i64 ((n_ends : Nat) : Int)) (x_len (n := n_ends) Tryd.underlying30 (.tmp rfl rfl)) ?_
            refine st (v := .bool (decide ((((q : Nat) : Int) : Int) < ((n_ends : Nat) : Int)))) (x_lss (k := .i64) (a := ((q : Nat) : Int)) (b := ((n_ends : Nat) : Int)) (.tmp rfl rfl) (.tmp rfl rfl)) ?_
            refine c_nil ?_
            refine n_then ?_
            rcases Bool.eq_false_or_eq_true (decide ((((q : Nat) : Int) : Int) < ((n_ends : Nat) : Int))) with hc134 | hc134
            · have hp134 : (((q : Nat) : Int) : Int) < ((n_ends : Nat) : Int) := of_decide_eq_true hc134
              refine c_cond_t (t := true) (.tmp rfl (congrArg Value.bool hc134)) rfl ?_
              refine c_skip ?_
              refine n_then ?_
              refine c_seq ?_
              refine c_block ?_
              refine c_region ?_
              have hml := Nat.mod_lt (ends.getD q 0) (show 0 < s.length + 1 by omega)
              refine st (v := v_d) (x_move (.tmp rfl hρ131)) ?_
              refine st (v := .slice A111 s.length c112) (x_move (.tmp rfl hρ130)) ?_
              refine st (v := .slice A_ends n_ends c_ends) (x_move (.tmp rfl hρ128)) ?_
              refine st (v := .int .i64 ((q : Nat) : Int)) (x_move (.tmp rfl hρ132)) ?_
              obtain ⟨b135, o136, hA137, hc138⟩ := (h_ends.toBs.mono hle113).get (i := q) (by omega)
              refine st (v := .pointer (some ⟨b135, (o136 + q * 1), none⟩)) (ixo30 (.tmp rfl rfl) hA137 (i := ((q : Nat) : Int)) (.tmp rfl rfl) (by omega) (by omega) rfl) ?_
              refine st (v := .int .u8 ((ends.getD q 0 : Nat) : Int)) (ld5 (.tmp rfl rfl) (hc138 hs133)) ?_
              have : (ends.getD q 0) < 256 := ((h_ends.toBs.mono hle113).lt.getD _)
              refine st (v := .int .i64 ((ends.getD q 0 : Nat) : Int)) (x_conv (k := .u8) (a := ((ends.getD q 0 : Nat) : Int)) Tryd.underlying5 Tryd.underlying3 (.tmp rfl rfl) (w64 (by omega) (by omega))) ?_
              refine st (v := .slice A111 s.length c112) (x_move (.tmp rfl hρ130)) ?_
              refine st (v := .int .i64 ((s.length : Nat) : Int)) (x_len (n := s.length) Tryd.underlying25 (.tmp rfl rfl)) ?_
              refine st (v := .int .i64 (((s.length + 1) : Nat) : Int)) (x_add (k := .i64) (a := ((s.length : Nat) : Int)) (b := 1) (.tmp rfl rfl) .const ((w64 (by omega) (by omega)).trans (by omega))) ?_
              have : (ends.getD q 0) % (s.length + 1) < (s.length + 1) := Nat.mod_lt _ (by omega)
              refine st (v := .int .i64 ((((ends.getD q 0) % (s.length + 1)) : Nat) : Int)) (x_remN (k := .i64) (m := (ends.getD q 0)) (n := (s.length + 1)) (.tmp rfl rfl) (.tmp rfl rfl) (by omega)) ?_
              refine st (v := .slice A111 ((ends.getD q 0) % (s.length + 1)) c112) (sl_h (d := kItem) Tryd.underlying25 inf34 (a := ((((ends.getD q 0) % (s.length + 1)) : Nat) : Int)) (.tmp rfl rfl) (.tmp rfl rfl) (by omega) (by omega)) ?_
              refine st_m (m_lit (n := 1) (ps := [(0, .slice A111 ((ends.getD q 0) % (s.length + 1)) c112)]) (cs := [.slice A111 ((ends.getD q 0) % (s.length + 1)) c112]) Tryd.underlying23 inf25 (.cons (.tmp rfl rfl) Evp.nil) (by decide) (by decide) rfl rfl hs133) ?_
              rintro _ w140 ⟨g139, rfl, hs142⟩
              have hs143 : St H110 _ (row 25 1 v_d d.length c_d :: obj g139 25 [.slice A111 ((ends.getD q 0) % (s.length + 1)) c112] :: L) := hs142.pick 1 rfl rfl
              have hr151 : (kSl kItem).rep H110 (s.take ((ends.getD q 0) % (s.length + 1))) [.slice A111 ((ends.getD q 0) % (s.length + 1)) c112] := ⟨A111, ((ends.getD q 0) % (s.length + 1)), c112, rfl, (sp115.take (k := ((ends.getD q 0) % (s.length + 1))) (by omega))⟩
              refine st_m (m_appK (d := (kSl kItem)) (ys := [(s.take ((ends.getD q 0) % (s.length + 1)))]) (news := [.slice A111 ((ends.getD q 0) % (s.length + 1)) c112]) Tryd.underlying23 inf25 rfl hs143 ok_d hk_d (.tmp rfl rfl) (.tmp rfl rfl) (Kn.rows_one hr151) rfl (hs143.at_ 1 rfl 0 rfl) (by have : ([(s.take ((ends.getD q 0) % (s.length + 1)))] : List (List GItem)).length = 1 := rfl; omega) (by decide)) ?_
              rintro v144 w145 ⟨cs146, ok147, hk148, hs149⟩
              have hn150 : (d ++ [(s.take ((ends.getD q 0) % (s.length + 1)))]).length = d.length + 1 := by simp
              refine st (v := v144) (x_assign (.tmp rfl rfl)) ?_
              refine c_nil ?_
              refine n_block ?_
              refine n_then ?_
              refine c_region ?_
              refine st (v := .int .i64 ((q : Nat) : Int)) (x_move (.tmp rfl hρ132)) ?_
              refine st (v := .int .i64 (((q + 1) : Nat) : Int)) (x_add (k := .i64) (a := ((q : Nat) : Int)) (b := 1) (.tmp rfl rfl) .const ((w64 (by omega) (by omega)).trans (by omega))) ?_
              refine st (v := .int .i64 (((q + 1) : Nat) : Int)) (x_assign (.tmp rfl rfl)) ?_
              refine c_nil ?_
              refine n_then ⟨_, _, rfl, ?_, (q + 1), (d ++ [(s.take ((ends.getD q 0) % (s.length + 1)))]), v144, cs146, hρ127, hρ128, hρ129, hρ130, rfl, rfl, ok147, hk148, (by omega), (List.mem_append_left _ hd0), (fun l hl => by rcases List.mem_append.1 hl with h | h; exact hd l h; exact ⟨_, List.mem_singleton.1 h⟩), (by rw [List.length_append, List.length_singleton]; omega), (hs149.pick 1 rfl rfl).drop, rfl⟩
              omega
            · have hp134 : ¬ ((((q : Nat) : Int) : Int) < ((n_ends : Nat) : Int)) := of_decide_eq_false hc134
              refine c_cond_f (t := false) (.tmp rfl (congrArg Value.bool hc134)) rfl ?_
              refine c_exit ?_
              refine x_then ?_
              refine x_then ?_
              refine x_here ?_
              refine n_then ?_
              refine c_seq ?_
              refine c_region ?_
              refine st (v := .slice A_acc n_acc c_acc) (x_move (.tmp rfl hρ127)) ?_
              refine st (v := v_d) (x_move (.tmp rfl hρ131)) ?_
              have : d.length * 24 ≤ 140737488351232 := by omega
              obtain ⟨H152, A153, c154, hle155, hs156, rfl, sp157⟩ := hs133.freezeSl (d := (kSl kItem)) ok_d hk_d this
              have := sp157.len; have := sp157.le
              refine st_c cb11 .func (evs2 (.tmp rfl rfl) (.tmp rfl rfl)) (total_spec hs156 acc ((h_acc.mono hle113).mono hle155) d sp157 ) ?_
              rintro e w158 ⟨v160, cs163, rfl, ok161, hk164, hs159⟩
              have := ((h_acc.mono hle113).mono hle155).len
              have := sp157.len
              refine ⟨_, rfl, ?_⟩
              refine st (v := .tuple #[v160, .bool ((totS acc d).2)]) (x_move (.tmp rfl rfl)) ?_
              refine st (v := v160) (x_extract (.tmp rfl rfl) (i := 0) rfl) ?_
              refine st (v := .bool ((totS acc d).2)) (x_extract (.tmp rfl rfl) (i := 1) rfl) ?_
              refine st (v := v160) (x_assign (.tmp rfl rfl)) ?_
              refine st (v := .bool ((totS acc d).2)) (x_assign (.tmp rfl rfl)) ?_
              refine c_nil ?_
              refine n_then ?_
              refine c_seq ?_
              refine c_seq ?_
              refine c_region ?_
              have htl : (totS acc d).1.length = s.length := by rw [mix_total hd0 hd hok]
              refine st (v := .bool ((totS acc d).2)) (x_move (.tmp rfl rfl)) ?_
              refine st (v := .bool (!((totS acc d).2))) (x_not (.tmp rfl rfl)) ?_
              refine st (v := .bool (!((totS acc d).2))) (x_move (.tmp rfl rfl)) ?_
              have hc165 : ((totS acc d).2) = true := (by rw [mix_total hd0 hd hok])
              refine g_yes (yl (dj := 121) (b := false) rfl rfl (congrArg Value.bool (by rw [hc165]; rfl))) ?_
              refine st (v := v160) (x_move (.tmp rfl rfl)) ?_
              refine g_yes (yl (dj := 121) (b := false) rfl rfl (congrArg Value.bool (by rw [hc165]; rfl))) ?_
              refine st (v := .slice A111 s.length c112) (x_move (.tmp rfl hρ130)) ?_
              refine g_yes (yl (dj := 121) (b := false) rfl rfl (congrArg Value.bool (by rw [hc165]; rfl))) ?_
              have : ((totS acc d).1).length * 32 ≤ 140737488351232 := by omega
              obtain ⟨H166, A167, c168, hle169, hs170, rfl, sp171⟩ := hs159.freezeSl (d := kItem) ok161 hk164 this
              have := sp171.len; have := sp171.le
              refine st_c cb13 .func (evs2 (.tmp rfl rfl) (.tmp rfl rfl)) (items_spec hs170 ((totS acc d).1) sp171 s ((sp115.mono hle155).mono hle169) ) ?_
              rintro e w172 ⟨rfl, hs173⟩
              refine ⟨_, rfl, ?_⟩
              refine g_yes (yl (dj := 121) (b := false) rfl rfl (congrArg Value.bool (by rw [hc165]; rfl))) ?_
              refine st (v := .bool (!(decide (((totS acc d).1) = s)))) (x_not (.tmp rfl rfl)) ?_
              refine st (v := .bool (!(decide (((totS acc d).1) = s)))) (x_pick_f (.tmp rfl (congrArg Value.bool (by rw [hc165]; rfl))) (.tmp rfl rfl)) ?_
              refine c_nil ?_
              refine n_then ?_
              have hc174 : (decide (((totS acc d).1) = s)) = true := (decide_eq_true (by rw [mix_total hd0 hd hok]))
              refine c_cond_f (t := false) (.tmp rfl (congrArg Value.bool (by rw [hc174]; rfl))) rfl ?_
              refine c_skip ?_
              refine n_then ?_
              refine c_seq ?_
              refine c_seq ?_
              refine c_region ?_
              refine st (v := .slice A111 s.length c112) (x_move (.tmp rfl hρ130)) ?_
              refine st (v := .int .i64 ((s.length : Nat) : Int)) (x_len (n := s.length) Tryd.underlying25 (.tmp rfl rfl)) ?_
              refine st (v := .bool (decide ((((s.length : Nat) : Int) : Int) < 2))) (x_lss (k := .i64) (a := ((s.length : Nat) : Int)) (b := 2) (.tmp rfl rfl) .const) ?_
              refine c_nil ?_
              refine n_then ?_
              rcases Bool.eq_false_or_eq_true (decide ((((s.length : Nat) : Int) : Int) < 2)) with hc175 | hc175
              · have hp175 : (((s.length : Nat) : Int) : Int) < 2 := of_decide_eq_true hc175
                refine c_cond_t (t := true) (.tmp rfl (congrArg Value.bool hc175)) rfl ?_
                refine c_seq ?_
                refine c_region ?_
                refine st (v := .bool true) (x_assign .const) ?_
                refine c_nil ?_
                refine n_then ?_
                refine c_ret ?_
                refine r_then ?_
                refine leave_ret (res_one (v := .bool true) rfl (.mk rfl rfl)) ?_
                exact ⟨rfl, (hs173.weaken ((hle113.trans hle155).trans hle169))⟩
              · have hp175 : ¬ ((((s.length : Nat) : Int) : Int) < 2) := of_decide_eq_false hc175
                refine c_cond_f (t := false) (.tmp rfl (congrArg Value.bool hc175)) rfl ?_
                refine c_skip ?_
                refine n_then ?_
                refine c_seq ?_
                refine c_region ?_
                have hkt := Nat.mod_lt turn (show 0 < s.length - 1 by omega)
                refine st (v := .int .u8 ((turn : Nat) : Int)) (x_move (.tmp rfl hρ129)) ?_
                refine st (v := .int .i64 ((turn : Nat) : Int)) (x_conv (k := .u8) (a := ((turn : Nat) : Int)) Tryd.underlying5 Tryd.underlying3 (.tmp rfl rfl) (w64 (by omega) (by omega))) ?_
                refine st (v := .slice A111 s.length c112) (x_move (.tmp rfl hρ130)) ?_
                refine st (v := .int .i64 ((s.length : Nat) : Int)) (x_len (n := s.length) Tryd.underlying25 (.tmp rfl rfl)) ?_
                refine st (v := .int .i64 (((s.length - 1) : Nat) : Int)) (x_sub (k := .i64) (a := ((s.length : Nat) : Int)) (b := 1) (.tmp rfl rfl) .const ((w64 (by omega) (by omega)).trans (by omega))) ?_
                have : turn % (s.length - 1) < (s.length - 1) := Nat.mod_lt _ (by omega)
                refine st (v := .int .i64 (((turn % (s.length - 1)) : Nat) : Int)) (x_remN (k := .i64) (m := turn) (n := (s.length - 1)) (.tmp rfl rfl) (.tmp rfl rfl) (by omega)) ?_
                refine st (v := .int .i64 (((turn % (s.length - 1)) : Nat) : Int)) (x_assign (.tmp rfl rfl)) ?_
                refine c_nil ?_
                refine n_then ?_
                refine c_seq ?_
                refine c_seq ?_
                refine q_region mixed hs173 (by kernel_rfl) ?_
                refine q_st (v := .slice A111 s.length c112) (fun w hs => (x_move (.tmp rfl hρ130))) ?_
                refine q_st (v := .int .i64 (((turn % (s.length - 1)) : Nat) : Int)) (fun w hs => (x_move (.tmp rfl rfl))) ?_
                obtain ⟨e176, b177, o178, cs179, hx180, hA181, hr182, hat183⟩ := ((sp115.mono hle155).mono hle169).get (i := (turn % (s.length - 1))) (by omega)
                obtain ⟨A186, n187, c188, rfl, ⟨b184, b185⟩, hy189⟩ := hr182
                have := hy189.len; have := hy189.bnd; have := hy189.le
                have hat183x : ∀ {w : World} {L : List Res}, St H166 w L → At w ⟨b177, o178 + (turn % (s.length - 1)) * 2, none⟩ [.int .i64 e176.From, .slice A186 n187 c188] := fun h => hat183 h
                refine q_st (v := .pointer (some ⟨b177, (o178 + (turn % (s.length - 1)) * 2), none⟩)) (fun w hs => (ixo25 (.tmp rfl rfl) hA181 (i := (((turn % (s.length - 1)) : Nat) : Int)) (.tmp rfl rfl) (by omega) (by omega) (by omega))) ?_
                refine q_st (v := .pointer (some ⟨b177, (o178 + (turn % (s.length - 1)) * 2) + 0, none⟩)) (fun w hs => (fa34_0 (.tmp rfl rfl))) ?_
                refine q_st (v := .int .i64 e176.From) (fun w hs => (ld3 (.tmp rfl rfl) ((hat183x hs).cell 0 rfl))) ?_
                refine q_st (v := .slice A111 s.length c112) (fun w hs => (x_move (.tmp rfl hρ130))) ?_
                refine q_st (v := .int .i64 (((turn % (s.length - 1)) : Nat) : Int)) (fun w hs => (x_move (.tmp rfl rfl))) ?_
                refine q_st (v := .int .i64 ((((turn % (s.length - 1)) + 1) : Nat) : Int)) (fun w hs => (x_add (k := .i64) (a := (((turn % (s.length - 1)) : Nat) : Int)) (b := 1) (.tmp rfl rfl) .const ((w64 (by omega) (by omega)).trans (by omega)))) ?_
                obtain ⟨e190, b191, o192, cs193, hx194, hA195, hr196, hat197⟩ := ((sp115.mono hle155).mono hle169).get (i := ((turn % (s.length - 1)) + 1)) (by omega)
                obtain ⟨A200, n201, c202, rfl, ⟨b198, b199⟩, hy203⟩ := hr196
                have := hy203.len; have := hy203.bnd; have := hy203.le
                have hat197x : ∀ {w : World} {L : List Res}, St H166 w L → At w ⟨b191, o192 + ((turn % (s.length - 1)) + 1) * 2, none⟩ [.int .i64 e190.From, .slice A200 n201 c202] := fun h => hat197 h
                refine q_st (v := .pointer (some ⟨b191, (o192 + ((turn % (s.length - 1)) + 1) * 2), none⟩)) (fun w hs => (ixo25 (.tmp rfl rfl) hA195 (i := ((((turn % (s.length - 1)) + 1) : Nat) : Int)) (.tmp rfl rfl) (by omega) (by omega) (by omega))) ?_
                refine q_st (v := .pointer (some ⟨b191, (o192 + ((turn % (s.length - 1)) + 1) * 2) + 0, none⟩)) (fun w hs => (fa34_0 (.tmp rfl rfl))) ?_
                refine q_st (v := .int .i64 e190.From) (fun w hs => (ld3 (.tmp rfl rfl) ((hat197x hs).cell 0 rfl))) ?_
                refine q_st (v := .bool (decide ((e176.From : Int) ≠ e190.From))) (fun w hs => (x_neq (k := .i64) (a := e176.From) (b := e190.From) (.tmp rfl rfl) (.tmp rfl rfl))) ?_
                refine q_st (v := .bool (decide ((e176.From : Int) ≠ e190.From))) (fun w hs => (x_move (.tmp rfl rfl))) ?_
                rcases Bool.eq_false_or_eq_true (decide ((e176.From : Int) ≠ e190.From)) with hc204 | hc204
                · have hp204 : (e176.From : Int) ≠ e190.From := of_decide_eq_true hc204
                  refine q_no (yl (dj := 148) (b := true) rfl rfl (congrArg Value.bool hc204)) rfl ?_
                  refine q_no (yl (dj := 148) (b := true) rfl rfl (congrArg Value.bool hc204)) rfl ?_
                  refine q_no (yl (dj := 148) (b := true) rfl rfl (congrArg Value.bool hc204)) rfl ?_
                  refine q_no (yl (dj := 148) (b := true) rfl rfl (congrArg Value.bool hc204)) rfl ?_
                  refine q_no (yl (dj := 148) (b := true) rfl rfl (congrArg Value.bool hc204)) rfl ?_
                  refine q_no (yl (dj := 148) (b := true) rfl rfl (congrArg Value.bool hc204)) rfl ?_
                  refine q_no (yl (dj := 148) (b := true) rfl rfl (congrArg Value.bool hc204)) rfl ?_
                  refine q_no (yl (dj := 148) (b := true) rfl rfl (congrArg Value.bool hc204)) rfl ?_
                  refine q_no (yl (dj := 148) (b := true) rfl rfl (congrArg Value.bool hc204)) rfl ?_
                  refine q_no (yl (dj := 148) (b := true) rfl rfl (congrArg Value.bool hc204)) rfl ?_
                  refine q_no (yl (dj := 148) (b := true) rfl rfl (congrArg Value.bool hc204)) rfl ?_
                  refine q_no (yl (dj := 148) (b := true) rfl rfl (congrArg Value.bool hc204)) rfl ?_
                  refine q_no (yl (dj := 148) (b := true) rfl rfl (congrArg Value.bool hc204)) rfl ?_
                  refine q_no (yl (dj := 148) (b := true) rfl rfl (congrArg Value.bool hc204)) rfl ?_
                  refine q_st (v := .bool true) (fun w hs => (x_pick_t (.tmp rfl (congrArg Value.bool hc204)) .const)) ?_
                  refine q_nil ?_
                  intro w hs205
                  refine n_then ?_
                  refine c_cond_t (t := true) (.tmp rfl rfl) rfl ?_
                  refine c_seq ?_
                  refine c_region ?_
                  refine st (v := .bool true) (x_assign .const) ?_
                  refine c_nil ?_
                  refine n_then ?_
                  refine c_ret ?_
                  refine r_then ?_
                  refine leave_ret (res_one (v := .bool true) rfl (.mk rfl rfl)) ?_
                  exact ⟨rfl, (hs205.weaken ((hle113.trans hle155).trans hle169))⟩
                · have hp204 : ¬ ((e176.From : Int) ≠ e190.From) := of_decide_eq_false hc204
                  refine q_yes (yl (dj := 148) (b := false) rfl rfl (congrArg Value.bool hc204)) ?_
                  refine q_st (v := .slice A111 s.length c112) (fun w hs => (x_move (.tmp rfl hρ130))) ?_
                  refine q_yes (yl (dj := 148) (b := false) rfl rfl (congrArg Value.bool hc204)) ?_
                  refine q_st (v := .int .i64 (((turn % (s.length - 1)) : Nat) : Int)) (fun w hs => (x_move (.tmp rfl rfl))) ?_
                  refine q_yes (yl (dj := 148) (b := false) rfl rfl (congrArg Value.bool hc204)) ?_
                  refine q_st (v := .pointer (some ⟨b177, (o178 + (turn % (s.length - 1)) * 2), none⟩)) (fun w hs => (ixo25 (.tmp rfl rfl) hA181 (i := (((turn % (s.length - 1)) : Nat) : Int)) (.tmp rfl rfl) (by omega) (by omega) (by omega))) ?_
                  refine q_yes (yl (dj := 148) (b := false) rfl rfl (congrArg Value.bool hc204)) ?_
                  refine q_st (v := .pointer (some ⟨b177, (o178 + (turn % (s.length - 1)) * 2) + 1, none⟩)) (fun w hs => (fa34_1 (.tmp rfl rfl))) ?_
                  refine q_yes (yl (dj := 148) (b := false) rfl rfl (congrArg Value.bool hc204)) ?_
                  refine q_st (v := .slice A186 n187 c188) (fun w hs => (ld30 (.tmp rfl rfl) ((hat183x hs).cell 1 rfl))) ?_
                  refine q_yes (yl (dj := 148) (b := false) rfl rfl (congrArg Value.bool hc204)) ?_
                  refine q_st (v := .string (bstr e176.M)) (fun w hs => (hy189.toBs.str Tryd.underlying30 Tryd.underlying5 Tryd.underlying9 hs (.tmp rfl rfl))) ?_
                  refine q_yes (yl (dj := 148) (b := false) rfl rfl (congrArg Value.bool hc204)) ?_
                  refine q_st (v := .slice A111 s.length c112) (fun w hs => (x_move (.tmp rfl hρ130))) ?_
                  refine q_yes (yl (dj := 148) (b := false) rfl rfl (congrArg Value.bool hc204)) ?_
                  refine q_st (v := .int .i64 (((turn % (s.length - 1)) : Nat) : Int)) (fun w hs => (x_move (.tmp rfl rfl))) ?_
                  refine q_yes (yl (dj := 148) (b := false) rfl rfl (congrArg Value.bool hc204)) ?_
                  refine q_st (v := .int .i64 ((((turn % (s.length - 1)) + 1) : Nat) : Int)) (fun w hs => (x_add (k := .i64) (a := (((turn % (s.length - 1)) : Nat) : Int)) (b := 1) (.tmp rfl rfl) .const ((w64 (by omega) (by omega)).trans (by omega)))) ?_
                  refine q_yes (yl (dj := 148) (b := false) rfl rfl (congrArg Value.bool hc204)) ?_
                  refine q_st (v := .pointer (some ⟨b191, (o192 + ((turn % (s.length - 1)) + 1) * 2), none⟩)) (fun w hs => (ixo25 (.tmp rfl rfl) hA195 (i := ((((turn % (s.length - 1)) + 1) : Nat) : Int)) (.tmp rfl rfl) (by omega) (by omega) (by omega))) ?_
                  refine q_yes (yl (dj := 148) (b := false) rfl rfl (congrArg Value.bool hc204)) ?_
                  refine q_st (v := .pointer (some ⟨b191, (o192 + ((turn % (s.length - 1)) + 1) * 2) + 1, none⟩)) (fun w hs => (fa34_1 (.tmp rfl rfl))) ?_
                  refine q_yes (yl (dj := 148) (b := false) rfl rfl (congrArg Value.bool hc204)) ?_
                  refine q_st (v := .slice A200 n201 c202) (fun w hs => (ld30 (.tmp rfl rfl) ((hat197x hs).cell 1 rfl))) ?_
                  refine q_yes (yl (dj := 148) (b := false) rfl rfl (congrArg Value.bool hc204)) ?_
                  refine q_st (v := .string (bstr e190.M)) (fun w hs => (hy203.toBs.str Tryd.underlying30 Tryd.underlying5 Tryd.underlying9 hs (.tmp rfl rfl))) ?_
                  refine q_yes (yl (dj := 148) (b := false) rfl rfl (congrArg Value.bool hc204)) ?_
                  refine q_st (v := .bool (decide ((bstr e176.M) = (bstr e190.M)))) (fun w hs => (x_eqlS (.tmp rfl rfl) (.tmp rfl rfl))) ?_
                  refine q_st (v := .bool (decide ((bstr e176.M) = (bstr e190.M)))) (fun w hs => (x_pick_f (.tmp rfl (congrArg Value.bool hc204)) (.tmp rfl rfl))) ?_
                  refine q_nil ?_
                  intro w hs206
                  refine n_then ?_
                  rcases Bool.eq_false_or_eq_true (decide ((bstr e176.M) = (bstr e190.M))) with hc207 | hc207
                  · have hp207 : (bstr e176.M) = (bstr e190.M) := of_decide_eq_true hc207
                    refine c_cond_t (t := true) (.tmp rfl (congrArg Value.bool hc207)) rfl ?_
                    refine c_seq ?_
                    refine c_region ?_
                    refine st (v := .bool true) (x_assign .const) ?_
                    refine c_nil ?_
                    refine n_then ?_
                    refine c_ret ?_
                    refine r_then ?_
                    refine leave_ret (res_one (v := .bool true) rfl (.mk rfl rfl)) ?_
                    exact ⟨rfl, (hs206.weaken ((hle113.trans hle155).trans hle169))⟩
                  · have hp207 : ¬ ((bstr e176.M) = (bstr e190.M)) := of_decide_eq_false hc207
                    refine c_cond_f (t := false) (.tmp rfl (congrArg Value.bool hc207)) rfl ?_
                    refine c_skip ?_
                    refine n_then ?_
                    refine c_seq ?_
                    refine c_region ?_
                    refine st (v := .slice none 0 0) (x_assign .const) ?_
                    refine c_nil ?_
                    refine n_then ?_
                    refine c_seq ?_
                    refine c_region ?_
                    refine st (v := .slice none 0 0) (x_move (.tmp rfl rfl)) ?_
                    refine st (v := .slice A111 s.length c112) (x_move (.tmp rfl hρ130)) ?_
                    have hs208 : St H166 _ (row 34 2 (.slice none 0 0) (([] : List GItem).length) [] :: L) := hs206.krowNil 34 kItem
                    have : ([] : List GItem).length = 0 := rfl
                    refine st_m (m_appSl (d := kItem) (ys := s) Tryd.underlying25 inf34 rfl hs208 (RowOk.knil kItem) (Kn.rows_nil _ _) (.tmp rfl rfl) (.tmp rfl rfl) ((sp115.mono hle155).mono hle169) (by omega) (by decide)) ?_
                    rintro v210 w211 ⟨cs212, ok213, hk214, hs215⟩
                    have hn216 : (([] : List GItem) ++ s).length = ([] : List GItem).length + s.length := by rw [List.length_append, ((sp115.mono hle155).mono hle169).len]
                    have hn216 : s.length = s.length := ((sp115.mono hle155).mono hle169).len
                    have ok213 : RowOk kItem.sz v210 s.length cs212 := ok213
                    have hk214 : kItem.toKn.rows H166 s cs212 := hk214
                    have hs215 : St H166 _ (row 34 2 v210 s.length cs212 :: L) := hs215
                    refine st (v := v210) (x_assign (.tmp rfl rfl)) ?_
                    refine c_nil ?_
                    refine n_then ?_
                    refine c_seq ?_
                    refine t_region (L := row 34 2 v210 s.length cs212 :: L) (L' := row 34 2 v210 s.length cs212 :: L) (Z := [15, 17]) (F := [2, 3, 4]) (pl := (.q 0 (.q 1 (.q 2 (.q 3 (.q 4 (.q 5 (.q 6 (.q 7 (.q 8 (.q 9 (.q 10 (.q 11 (.q 12 (.q 13 (.q 14 (.e 15 (.q 16 (.e 17 .done))))))))))))))))))) mixed hs215 (fun u hu => hu) (by kernel_rfl) ?_
                    intro w217 hs218
                    refine t_st (k := 0) (v := v210) rfl rfl (fun w hs => (x_move (.tmp rfl rfl))) ?_
                    refine t_st (k := 1) (v := .int .i64 (((turn % (s.length - 1)) : Nat) : Int)) rfl rfl (fun w hs => (x_move (.tmp rfl rfl))) ?_
                    refine t_fr (k := 2) (v := v210) rfl (fun w _ => (x_move (.tmp rfl rfl))) ?_
                    refine t_fr (k := 3) (v := .int .i64 (((turn % (s.length - 1)) : Nat) : Int)) rfl (fun w _ => (x_move (.tmp rfl rfl))) ?_
                    refine t_fr (k := 4) (v := .int .i64 ((((turn % (s.length - 1)) + 1) : Nat) : Int)) rfl (fun w _ => (x_add (k := .i64) (a := (((turn % (s.length - 1)) : Nat) : Int)) (b := 1) (.tmp rfl rfl) .const ((w64 (by omega) (by omega)).trans (by omega)))) ?_
                    refine t_st (k := 5) (v := v210) rfl rfl (fun w hs => (x_move (.tmp rfl rfl))) ?_
                    refine t_st (k := 6) (v := .int .i64 (((turn % (s.length - 1)) : Nat) : Int)) rfl rfl (fun w hs => (x_move (.tmp rfl rfl))) ?_
                    refine t_st (k := 7) (v := .int .i64 ((((turn % (s.length - 1)) + 1) : Nat) : Int)) rfl rfl (fun w hs => (x_add (k := .i64) (a := (((turn % (s.length - 1)) : Nat) : Int)) (b := 1) (.tmp rfl rfl) .const ((w64 (by omega) (by omega)).trans (by omega)))) ?_
                    obtain ⟨g219, c220, hv221⟩ := ok213.pos (by omega)
                    obtain ⟨e222, cs223, hx224, hr225, hsub226⟩ := Kn.rows_get (i := ((turn % (s.length - 1)) + 1)) hk214 (by omega)
                    obtain ⟨A229, n230, c231, rfl, ⟨b227, b228⟩, hy232⟩ := hr225
                    have := hy232.len; have := hy232.bnd; have := hy232.le
                    refine t_st (k := 8) (v := .pointer (some ⟨g219, (((turn % (s.length - 1)) + 1) * 2), none⟩)) rfl rfl (fun w hs => (ixo25 (.tmp rfl hv221) rfl (i := ((((turn % (s.length - 1)) + 1) : Nat) : Int)) (.tmp rfl rfl) (by omega) (by omega) (by omega))) ?_
                    refine t_st (k := 9) (v := .agg #[.int .i64 e222.From, .slice A229 n230 c231]) rfl rfl (fun w hs => (ld34 (cs := [.int .i64 e222.From, .slice A229 n230 c231]) (.tmp rfl rfl) ((hs.rowAt 0 rfl hv221 (((turn % (s.length - 1)) + 1) * 2) hsub226).sub 0 rfl) rfl)) ?_
                    refine t_st (k := 10) (v := v210) rfl rfl (fun w hs => (x_move (.tmp rfl rfl))) ?_
                    refine t_st (k := 11) (v := .int .i64 (((turn % (s.length - 1)) : Nat) : Int)) rfl rfl (fun w hs => (x_move (.tmp rfl rfl))) ?_
                    obtain ⟨g233, c234, hv235⟩ := ok213.pos (by omega)
                    obtain ⟨e236, cs237, hx238, hr239, hsub240⟩ := Kn.rows_get (i := (turn % (s.length - 1))) hk214 (by omega)
                    obtain ⟨A243, n244, c245, rfl, ⟨b241, b242⟩, hy246⟩ := hr239
                    have := hy246.len; have := hy246.bnd; have := hy246.le
                    refine t_st (k := 12) (v := .pointer (some ⟨g233, ((turn % (s.length - 1)) * 2), none⟩)) rfl rfl (fun w hs => (ixo25 (.tmp rfl hv235) rfl (i := (((turn % (s.length - 1)) : Nat) : Int)) (.tmp rfl rfl) (by omega) (by omega) (by omega))) ?_
                    refine t_st (k := 13) (v := .agg #[.int .i64 e236.From, .slice A243 n244 c245]) rfl rfl (fun w hs => (ld34 (cs := [.int .i64 e236.From, .slice A243 n244 c245]) (.tmp rfl rfl) ((hs.rowAt 0 rfl hv235 ((turn % (s.length - 1)) * 2) hsub240).sub 0 rfl) rfl)) ?_
                    obtain ⟨g247, c248, hv249⟩ := ok213.pos (by omega)
                    refine t_st (k := 14) (v := .pointer (some ⟨g247, ((turn % (s.length - 1)) * 2), none⟩)) rfl rfl (fun w hs => (ixo25 (.tmp rfl hv249) rfl (i := (((turn % (s.length - 1)) : Nat) : Int)) (.tmp rfl rfl) (by omega) (by omega) (by omega))) ?_
                    skip
                    refine t_eff (k := 15) rfl ?_
                    have hl255 : (turn % (s.length - 1)) * 2 + 2 ≤ cs212.length := by have h1 := (hk214).1; have h2 : kItem.sz = 2 := rfl; rw [h2] at h1; omega
                    have hr254 : kItem.rep H166 e222 [.int .i64 e222.From, .slice A229 n230 c231] := ⟨A229, n230, c231, rfl, ⟨b227, b228⟩, hy232⟩
                    refine st_m0 (stor34 hs218 hv249 (i := ((turn % (s.length - 1)) * 2)) (xs' := splice cs212 ((turn % (s.length - 1)) * 2) [.int .i64 e222.From, .slice A229 n230 c231]) (.tmp rfl rfl) (u := .agg #[.int .i64 e222.From, .slice A229 n230 c231]) (.tmp rfl rfl) rfl (by omega) (oneA rfl) rfl) ?_
                    rintro w250 hs251
                    have hk253 := Kn.rows_set (d := kItem.toKn) hk214 (i := (turn % (s.length - 1))) (by omega) hr254
                    have ok252 := ok213.splice (i := (turn % (s.length - 1)) * 2) (vs := [.int .i64 e222.From, .slice A229 n230 c231]) (by simpa using hl255)
                    have hn256 : (s.set (turn % (s.length - 1)) e222).length = s.length := List.length_set
                    have ok257 : RowOk kItem.sz v210 (s.set (turn % (s.length - 1)) e222).length (splice cs212 ((turn % (s.length - 1)) * 2) [.int .i64 e222.From, .slice A229 n230 c231]) := by rw [hn256]; exact ok252
                    have hs258 : St H166 w250 (row 34 2 v210 ((s.set (turn % (s.length - 1)) e222).length) (splice cs212 ((turn % (s.length - 1)) * 2) [.int .i64 e222.From, .slice A229 n230 c231]) :: L) := by rw [hn256]; exact hs251
                    refine t_new (S' := fun u => St H166 u (row 34 2 v210 ((s.set (turn % (s.length - 1)) e222).length) (splice cs212 ((turn % (s.length - 1)) * 2) [.int .i64 e222.From, .slice A229 n230 c231]) :: L)) rfl hs258 ?_
                    obtain ⟨g259, c260, hv261⟩ := ok257.pos (by omega)
                    obtain ⟨e262, cs263, hx264, hr265, hsub266⟩ := Kn.rows_get (i := ((turn % (s.length - 1)) + 1)) hk253 (by omega)
                    obtain ⟨A269, n270, c271, rfl, ⟨b267, b268⟩, hy272⟩ := hr265
                    have := hy272.len; have := hy272.bnd; have := hy272.le
                    refine t_st (k := 16) (v := .pointer (some ⟨g259, (((turn % (s.length - 1)) + 1) * 2), none⟩)) rfl rfl (fun w hs => (ixo25 (.tmp rfl hv261) rfl (i := ((((turn % (s.length - 1)) + 1) : Nat) : Int)) (.tmp rfl rfl) (by omega) (by omega) (by omega))) ?_
                    refine t_eff (k := 17) rfl ?_
                    have hl278 : ((turn % (s.length - 1)) + 1) * 2 + 2 ≤ (splice cs212 ((turn % (s.length - 1)) * 2) [.int .i64 e222.From, .slice A229 n230 c231]).length := by have h1 := (hk253).1; have h2 : kItem.sz = 2 := rfl; rw [h2] at h1; omega
                    have hr277 : kItem.rep H166 e236 [.int .i64 e236.From, .slice A243 n244 c245] := ⟨A243, n244, c245, rfl, ⟨b241, b242⟩, hy246⟩
                    refine st_m0 (stor34 hs258 hv261 (i := (((turn % (s.length - 1)) + 1) * 2)) (xs' := splice (splice cs212 ((turn % (s.length - 1)) * 2) [.int .i64 e222.From, .slice A229 n230 c231]) (((turn % (s.length - 1)) + 1) * 2) [.int .i64 e236.From, .slice A243 n244 c245]) (.tmp rfl rfl) (u := .agg #[.int .i64 e236.From, .slice A243 n244 c245]) (.tmp rfl rfl) rfl (by omega) (oneA rfl) rfl) ?_
                    rintro w273 hs274
                    have hk276 := Kn.rows_set (d := kItem.toKn) hk253 (i := ((turn % (s.length - 1)) + 1)) (by omega) hr277
                    have ok275 := ok257.splice (i := ((turn % (s.length - 1)) + 1) * 2) (vs := [.int .i64 e236.From, .slice A243 n244 c245]) (by simpa using hl278)
                    have hn279 : ((s.set (turn % (s.length - 1)) e222).set ((turn % (s.length - 1)) + 1) e236).length = (s.set (turn % (s.length - 1)) e222).length := List.length_set
                    have ok280 : RowOk kItem.sz v210 ((s.set (turn % (s.length - 1)) e222).set ((turn % (s.length - 1)) + 1) e236).length (splice (splice cs212 ((turn % (s.length - 1)) * 2) [.int .i64 e222.From, .slice A229 n230 c231]) (((turn % (s.length - 1)) + 1) * 2) [.int .i64 e236.From, .slice A243 n244 c245]) := by rw [hn279]; exact ok275
                    have hs281 : St H166 w273 (row 34 2 v210 (((s.set (turn % (s.length - 1)) e222).set ((turn % (s.length - 1)) + 1) e236).length) (splice (splice cs212 ((turn % (s.length - 1)) * 2) [.int .i64 e222.From, .slice A229 n230 c231]) (((turn % (s.length - 1)) + 1) * 2) [.int .i64 e236.From, .slice A243 n244 c245]) :: L) := by rw [hn279]; exact hs274
                    refine t_new (S' := fun u => St H166 u (row 34 2 v210 (((s.set (turn % (s.length - 1)) e222).set ((turn % (s.length - 1)) + 1) e236).length) (splice (splice cs212 ((turn % (s.length - 1)) * 2) [.int .i64 e222.From, .slice A229 n230 c231]) (((turn % (s.length - 1)) + 1) * 2) [.int .i64 e236.From, .slice A243 n244 c245]) :: L)) rfl hs281 ?_
                    refine t_nil ?_
                    refine n_then ?_
                    refine c_seq ?_
                    refine c_region ?_
                    refine st (v := .slice A_acc n_acc c_acc) (x_move (.tmp rfl hρ127)) ?_
                    refine st (v := v210) (x_move (.tmp rfl rfl)) ?_
                    have : ((s.set (turn % (s.length - 1)) e222).set ((turn % (s.length - 1)) + 1) e236).length * 32 ≤ 140737488351232 := by omega
                    obtain ⟨H282, A283, c284, hle285, hs286, rfl, sp287⟩ := hs281.freezeSl (d := kItem) ok280 hk276 this
                    have := sp287.len; have := sp287.le
                    refine st_m (m_lit (n := 1) (ps := [(0, .slice A283 (((s.set (turn % (s.length - 1)) e222).set ((turn % (s.length - 1)) + 1) e236).length) c284)]) (cs := [.slice A283 (((s.set (turn % (s.length - 1)) e222).set ((turn % (s.length - 1)) + 1) e236).length) c284]) Tryd.underlying23 inf25 (.cons (.tmp rfl rfl) Evp.nil) (by decide) (by decide) rfl rfl hs286) ?_
                    rintro _ w289 ⟨g288, rfl, hs291⟩
                    have hr297 : (kSl kItem).rep H282 ((s.set (turn % (s.length - 1)) e222).set ((turn % (s.length - 1)) + 1) e236) [.slice A283 (((s.set (turn % (s.length - 1)) e222).set ((turn % (s.length - 1)) + 1) e236).length) c284] := ⟨A283, (((s.set (turn % (s.length - 1)) e222).set ((turn % (s.length - 1)) + 1) e236).length), c284, rfl, sp287⟩
                    have hk298 : (kSl kItem).toKn.rows H282 [((s.set (turn % (s.length - 1)) e222).set ((turn % (s.length - 1)) + 1) e236)] [.slice A283 (((s.set (turn % (s.length - 1)) e222).set ((turn % (s.length - 1)) + 1) e236).length) c284] := Kn.rows_one hr297
                    obtain ⟨H292, hle293, hs294, rd295, hb296⟩ := hs291.freezeObj
                    have sp299 : Sl (kSl kItem) H292 ((some ⟨g288, 0, none⟩)) 1 1 [((s.set (turn % (s.length - 1)) e222).set ((turn % (s.length - 1)) + 1) e236)] := ⟨⟨_, rd295, Kn.rows_mono hk298 hle293⟩, rfl, Nat.le_refl _, by decide, by decide⟩
                    refine st_c cb11 .func (evs2 (.tmp rfl rfl) (.tmp rfl rfl)) (total_spec hs294 acc (((((h_acc.mono hle113).mono hle155).mono hle169).mono hle285).mono hle293) [((s.set (turn % (s.length - 1)) e222).set ((turn % (s.length - 1)) + 1) e236)] sp299 ) ?_
                    rintro e w300 ⟨v302, cs305, rfl, ok303, hk306, hs301⟩
                    have := (((((h_acc.mono hle113).mono hle155).mono hle169).mono hle285).mono hle293).len
                    have := sp299.len
                    refine ⟨_, rfl, ?_⟩
                    refine st (v := .tuple #[v302, .bool ((totS acc [((s.set (turn % (s.length - 1)) e222).set ((turn % (s.length - 1)) + 1) e236)]).2)]) (x_move (.tmp rfl rfl)) ?_
                    refine st (v := v302) (x_extract (.tmp rfl rfl) (i := 0) rfl) ?_
                    refine st (v := .bool ((totS acc [((s.set (turn % (s.length - 1)) e222).set ((turn % (s.length - 1)) + 1) e236)]).2)) (x_extract (.tmp rfl rfl) (i := 1) rfl) ?_
                    refine st (v := v302) (x_assign (.tmp rfl rfl)) ?_
                    refine st (v := .bool ((totS acc [((s.set (turn % (s.length - 1)) e222).set ((turn % (s.length - 1)) + 1) e236)]).2)) (x_assign (.tmp rfl rfl)) ?_
                    refine c_nil ?_
                    refine n_then ?_
                    refine c_seq ?_
                    refine c_region ?_
                    refine st (v := .bool ((totS acc [((s.set (turn % (s.length - 1)) e222).set ((turn % (s.length - 1)) + 1) e236)]).2)) (x_move (.tmp rfl rfl)) ?_
                    refine st (v := .bool (!((totS acc [((s.set (turn % (s.length - 1)) e222).set ((turn % (s.length - 1)) + 1) e236)]).2))) (x_not (.tmp rfl rfl)) ?_
                    refine st (v := .bool (!((totS acc [((s.set (turn % (s.length - 1)) e222).set ((turn % (s.length - 1)) + 1) e236)]).2))) (x_assign (.tmp rfl rfl)) ?_
                    refine c_nil ?_
                    refine n_then ?_
                    refine c_ret ?_
                    refine leave_ret (res_one (v := .bool (!((totS acc [((s.set (turn % (s.length - 1)) e222).set ((turn % (s.length - 1)) + 1) e236)]).2))) rfl (.mk rfl rfl)) ?_
                    have hyes : (!((totS acc [((s.set (turn % (s.length - 1)) e222).set ((turn % (s.length - 1)) + 1) e236)]).2)) = true := (by rw [mix_swap hok hx238 hx224 (by rw [← (Option.some.inj (hx180.symm.trans hx238)), ← (Option.some.inj (hx194.symm.trans hx224))]; omega) (fun e9 => hp207 (by rw [(Option.some.inj (hx180.symm.trans hx238)), (Option.some.inj (hx194.symm.trans hx224)), e9]))]; rfl)
                    rw [hyes]
                    exact ⟨rfl, (hs301.drop.weaken ((((hle113.trans hle155).trans hle169).trans hle285).trans hle293))⟩
        · have hp33 : ¬ ((((i : Nat) : Int) : Int) < ((n_picks : Nat) : Int)) := of_decide_eq_false hc33
          refine g_no (yl (dj := 46) (b := false) rfl rfl (congrArg Value.bool hc33)) rfl ?_
          refine g_no (yl (dj := 46) (b := false) rfl rfl (congrArg Value.bool hc33)) rfl ?_
          refine st (v := .bool false) (x_pick_f (.tmp rfl (congrArg Value.bool hc33)) .const) ?_
          refine c_nil ?_
          refine n_then ?_
          refine c_cond_f (t := false) (.tmp rfl rfl) rfl ?_
          refine c_exit ?_
          refine x_then ?_
          refine x_then ?_
          refine x_here ?_
          refine n_then ?_
          refine c_seq ?_
          refine c_region ?_
          refine st (v := v_s) (x_move (.tmp rfl hρ30)) ?_
          have hs307 : St H _ (row 34 2 v_s s.length c_s :: row 3 1 v_at_ at_.length c_at_ :: L) := hs32.pick 1 rfl rfl
          have : s.length * 32 ≤ 140737488351232 := by omega
          obtain ⟨H308, A309, c310, hle311, hs312, rfl, sp313⟩ := hs307.freezeSl (d := kItem) ok_s hk_s this
          have := sp313.len; have := sp313.le
          refine st_m (m_lit (n := 1) (ps := [(0, .slice A309 s.length c310)]) (cs := [.slice A309 s.length c310]) Tryd.underlying23 inf25 (.cons (.tmp rfl rfl) Evp.nil) (by decide) (by decide) rfl rfl hs312) ?_
          rintro _ w315 ⟨g314, rfl, hs317⟩
          have hr322 : (kSl kItem).rep H308 s [.slice A309 s.length c310] := ⟨A309, s.length, c310, rfl, sp313⟩
          obtain ⟨hs319, ok320⟩ := hs317.rowOfObj (n := 1) (size := (kSl kItem).sz) rfl (by decide)
          have hk321 : (kSl kItem).toKn.rows H308 [s] [.slice A309 s.length c310] := Kn.rows_one hr322
          have : ([s] : List (List GItem)).length = 1 := rfl
          have hs323 : St H308 _ (row 25 1 (.slice (some ⟨g314, 0, none⟩) 1 1) (([s] : List (List GItem)).length) [.slice A309 s.length c310] :: row 3 1 v_at_ at_.length c_at_ :: L) := hs319
          skip
          refine st (v := .slice (some ⟨g314, 0, none⟩) 1 1) (x_assign (.tmp rfl rfl)) ?_
          refine c_nil ?_
          refine n_then ?_
          refine c_seq ?_
          refine c_seq ?_
          refine c_region ?_
          refine st (v := .int .i64 0) (x_assign .const) ?_
          refine c_nil ?_
          refine n_then ?_
          refine c_block ?_
          refine c_loop (fun ρ w mm => ∃ (q : Nat) (d : List (List GItem)) (v_d : Value) (c_d : List Value), ρ 0 = .slice A_acc n_acc c_acc ∧ ρ 2 = .slice A_ends n_ends c_ends ∧ ρ 3 = .int .u8 ((turn : Nat) : Int) ∧ ρ 10 = .slice A309 s.length c310 ∧ ρ 13 = v_d ∧ ρ 14 = .int .i64 ((q : Nat) : Int) ∧ (RowOk (kSl kItem).sz v_d d.length c_d) ∧ ((kSl kItem).toKn.rows H308 d c_d) ∧ (q ≤ n_ends) ∧ (s ∈ d) ∧ (∀ l ∈ d, ∃ m, l = s.take m) ∧ (d.length ≤ q + 1) ∧ St H308 w (row 25 1 v_d d.length c_d :: L) ∧ mm = n_ends - q) _ ⟨0, ([s] : List (List GItem)), (.slice (some ⟨g314, 0, none⟩) 1 1), [.slice A309 s.length c310], hρ25, hρ27, hρ28, hρ30, rfl, rfl, ok320, hk321, (by omega), (List.mem_singleton.2 rfl), (fun l hl => ⟨s.length, by rw [List.mem_singleton.1 hl, List.take_length]⟩), (Nat.le_refl _), (hs323.pick 1 rfl rfl).drop, rfl⟩ ?_
          rintro ρ w mm ⟨q, d, v_d, c_d, hρ325, hρ326, hρ327, hρ328, hρ329, hρ330, ok_d, hk_d, hq, hd0, hd, hdl, hs331, rfl⟩
          refine c_seq ?_
          refine c_seq ?_
          refine c_region ?_
          refine st (v := .int .i64 ((q : Nat) : Int)) (x_move (.tmp rfl hρ330)) ?_
          refine st (v := .slice A_ends n_ends c_ends) (x_move (.tmp rfl hρ326)) ?_
          refine st (v := .int .i64 ((n_ends : Nat) : Int)) (x_len (n := n_ends) Tryd.underlying30 (.tmp rfl rfl)) ?_
          refine st (v := .bool (decide ((((q : Nat) : Int) : Int) < ((n_ends : Nat) : Int)))) (x_lss (k := .i64) (a := ((q : Nat) : Int)) (b := ((n_ends : Nat) : Int)) (.tmp rfl rfl) (.tmp rfl rfl)) ?_
          refine c_nil ?_
          refine n_then ?_
          rcases Bool.eq_false_or_eq_true (decide ((((q : Nat) : Int) : Int) < ((n_ends : Nat) : Int))) with hc332 | hc332
          · have hp332 : (((q : Nat) : Int) : Int) < ((n_ends : Nat) : Int) := of_decide_eq_true hc332
            refine c_cond_t (t := true) (.tmp rfl (congrArg Value.bool hc332)) rfl ?_
            refine c_skip ?_
            refine n_then ?_
            refine c_seq ?_
            refine c_block ?_
            refine c_region ?_
            have hml := Nat.mod_lt (ends.getD q 0) (show 0 < s.length + 1 by omega)
            refine st (v := v_d) (x_move (.tmp rfl hρ329)) ?_
            refine st (v := .slice A309 s.length c310) (x_move (.tmp rfl hρ328)) ?_
            refine st (v := .slice A_ends n_ends c_ends) (x_move (.tmp rfl hρ326)) ?_
            refine st (v := .int .i64 ((q : Nat) : Int)) (x_move (.tmp rfl hρ330)) ?_
            obtain ⟨b333, o334, hA335, hc336⟩ := (h_ends.toBs.mono hle311).get (i := q) (by omega)
            refine st (v := .pointer (some ⟨b333, (o334 + q * 1), none⟩)) (ixo30 (.tmp rfl rfl) hA335 (i := ((q : Nat) : Int)) (.tmp rfl rfl) (by omega) (by omega) rfl) ?_
            refine st (v := .int .u8 ((ends.getD q 0 : Nat) : Int)) (ld5 (.tmp rfl rfl) (hc336 hs331)) ?_
            have : (ends.getD q 0) < 256 := ((h_ends.toBs.mono hle311).lt.getD _)
            refine st (v := .int .i64 ((ends.getD q 0 : Nat) : Int)) (x_conv (k := .u8) (a := ((ends.getD q 0 : Nat) : Int)) Tryd.underlying5 Tryd.underlying3 (.tmp rfl rfl) (w64 (by omega) (by omega))) ?_
            refine st (v := .slice A309 s.length c310) (x_move (.tmp rfl hρ328)) ?_
            refine st (v := .int .i64 ((s.length : Nat) : Int)) (x_len (n := s.length) Tryd.underlying25 (.tmp rfl rfl)) ?_
            refine st (v := .int .i64 (((s.length + 1) : Nat) : Int)) (x_add (k := .i64) (a := ((s.length : Nat) : Int)) (b := 1) (.tmp rfl rfl) .const ((w64 (by omega) (by omega)).trans (by omega))) ?_
            have : (ends.getD q 0) % (s.length + 1) < (s.length + 1) := Nat.mod_lt _ (by omega)
            refine st (v := .int .i64 ((((ends.getD q 0) % (s.length + 1)) : Nat) : Int)) (x_remN (k := .i64) (m := (ends.getD q 0)) (n := (s.length + 1)) (.tmp rfl rfl) (.tmp rfl rfl) (by omega)) ?_
            refine st (v := .slice A309 ((ends.getD q 0) % (s.length + 1)) c310) (sl_h (d := kItem) Tryd.underlying25 inf34 (a := ((((ends.getD q 0) % (s.length + 1)) : Nat) : Int)) (.tmp rfl rfl) (.tmp rfl rfl) (by omega) (by omega)) ?_
            refine st_m (m_lit (n := 1) (ps := [(0, .slice A309 ((ends.getD q 0) % (s.length + 1)) c310)]) (cs := [.slice A309 ((ends.getD q 0) % (s.length + 1)) c310]) Tryd.underlying23 inf25 (.cons (.tmp rfl rfl) Evp.nil) (by decide) (by decide) rfl rfl hs331) ?_
            rintro _ w338 ⟨g337, rfl, hs340⟩
            have hs341 : St H308 _ (row 25 1 v_d d.length c_d :: obj g337 25 [.slice A309 ((ends.getD q 0) % (s.length + 1)) c310] :: L) := hs340.pick 1 rfl rfl
            have hr349 : (kSl kItem).rep H308 (s.take ((ends.getD q 0) % (s.length + 1))) [.slice A309 ((ends.getD q 0) % (s.length + 1)) c310] := ⟨A309, ((ends.getD q 0) % (s.length + 1)), c310, rfl, (sp313.take (k := ((ends.getD q 0) % (s.length + 1))) (by omega))⟩
            refine st_m (m_appK (d := (kSl kItem)) (ys := [(s.take ((ends.getD q 0) % (s.length + 1)))]) (news := [.slice A309 ((ends.getD q 0) % (s.length + 1)) c310]) Tryd.underlying23 inf25 rfl hs341 ok_d hk_d (.tmp rfl rfl) (.tmp rfl rfl) (Kn.rows_one hr349) rfl (hs341.at_ 1 rfl 0 rfl) (by have : ([(s.take ((ends.getD q 0) % (s.length + 1)))] : List (List GItem)).length = 1 := rfl; omega) (by decide)) ?_
            rintro v342 w343 ⟨cs344, ok345, hk346, hs347⟩
            have hn348 : (d ++ [(s.take ((ends.getD q 0) % (s.length + 1)))]).length = d.length + 1 := by simp
            refine st (v := v342) (x_assign (.tmp rfl rfl)) ?_
            refine c_nil ?_
            refine n_block ?_
            refine n_then ?_
            refine c_region ?_
            refine st (v := .int .i64 ((q : Nat) : Int)) (x_move (.tmp rfl hρ330)) ?_
            refine st (v := .int .i64 (((q + 1) : Nat) : Int)) (x_add (k := .i64) (a := ((q : Nat) : Int)) (b := 1) (.tmp rfl rfl) .const ((w64 (by omega) (by omega)).trans (by omega))) ?_
            refine st (v := .int .i64 (((q + 1) : Nat) : Int)) (x_assign (.tmp rfl rfl)) ?_
            refine c_nil ?_
            refine n_then ⟨_, _, rfl, ?_, (q + 1), (d ++ [(s.take ((ends.getD q 0) % (s.length + 1)))]), v342, cs344, hρ325, hρ326, hρ327, hρ328, rfl, rfl, ok345, hk346, (by omega), (List.mem_append_left _ hd0), (fun l hl => by rcases List.mem_append.1 hl with h | h; exact hd l h; exact ⟨_, List.mem_singleton.1 h⟩), (by rw [List.length_append, List.length_singleton]; omega), (hs347.pick 1 rfl rfl).drop, rfl⟩
            omega
          · have hp332 : ¬ ((((q : Nat) : Int) : Int) < ((n_ends : Nat) : Int)) := of_decide_eq_false hc332
            refine c_cond_f (t := false) (.tmp rfl (congrArg Value.bool hc332)) rfl ?_
            refine c_exit ?_
            refine x_then ?_
            refine x_then ?_
            refine x_here ?_
            refine n_then ?_
            refine c_seq ?_
            refine c_region ?_
            refine st (v := .slice A_acc n_acc c_acc) (x_move (.tmp rfl hρ325)) ?_
            refine st (v := v_d) (x_move (.tmp rfl hρ329)) ?_
            have : d.length * 24 ≤ 140737488351232 := by omega
            obtain ⟨H350, A351, c352, hle353, hs354, rfl, sp355⟩ := hs331.freezeSl (d := (kSl kItem)) ok_d hk_d this
            have := sp355.len; have := sp355.le
            refine st_c cb11 .func (evs2 (.tmp rfl rfl) (.tmp rfl rfl)) (total_spec hs354 acc ((h_acc.mono hle311).mono hle353) d sp355 ) ?_
            rintro e w356 ⟨v358, cs361, rfl, ok359, hk362, hs357⟩
            have := ((h_acc.mono hle311).mono hle353).len
            have := sp355.len
            refine ⟨_, rfl, ?_⟩
            refine st (v := .tuple #[v358, .bool ((totS acc d).2)]) (x_move (.tmp rfl rfl)) ?_
            refine st (v := v358) (x_extract (.tmp rfl rfl) (i := 0) rfl) ?_
            refine st (v := .bool ((totS acc d).2)) (x_extract (.tmp rfl rfl) (i := 1) rfl) ?_
            refine st (v := v358) (x_assign (.tmp rfl rfl)) ?_
            refine st (v := .bool ((totS acc d).2)) (x_assign (.tmp rfl rfl)) ?_
            refine c_nil ?_
            refine n_then ?_
            refine c_seq ?_
            refine c_seq ?_
            refine c_region ?_
            have htl : (totS acc d).1.length = s.length := by rw [mix_total hd0 hd hok]
            refine st (v := .bool ((totS acc d).2)) (x_move (.tmp rfl rfl)) ?_
            refine st (v := .bool (!((totS acc d).2))) (x_not (.tmp rfl rfl)) ?_
            refine st (v := .bool (!((totS acc d).2))) (x_move (.tmp rfl rfl)) ?_
            have hc363 : ((totS acc d).2) = true := (by rw [mix_total hd0 hd hok])
            refine g_yes (yl (dj := 121) (b := false) rfl rfl (congrArg Value.bool (by rw [hc363]; rfl))) ?_
            refine st (v := v358) (x_move (.tmp rfl rfl)) ?_
            refine g_yes (yl (dj := 121) (b := false) rfl rfl (congrArg Value.bool (by rw [hc363]; rfl))) ?_
            refine st (v := .slice A309 s.length c310) (x_move (.tmp rfl hρ328)) ?_
            refine g_yes (yl (dj := 121) (b := false) rfl rfl (congrArg Value.bool (by rw [hc363]; rfl))) ?_
            have : ((totS acc d).1).length * 32 ≤ 140737488351232 := by omega
            obtain ⟨H364, A365, c366, hle367, hs368, rfl, sp369⟩ := hs357.freezeSl (d := kItem) ok359 hk362 this
            have := sp369.len; have := sp369.le
            refine st_c cb13 .func (evs2 (.tmp rfl rfl) (.tmp rfl rfl)) (items_spec hs368 ((totS acc d).1) sp369 s ((sp313.mono hle353).mono hle367) ) ?_
            rintro e w370 ⟨rfl, hs371⟩
            refine ⟨_, rfl, ?_⟩
            refine g_yes (yl (dj := 121) (b := false) rfl rfl (congrArg Value.bool (by rw [hc363]; rfl))) ?_
            refine st (v := .bool (!(decide (((totS acc d).1) = s)))) (x_not (.tmp rfl rfl)) ?_
            refine st (v := .bool (!(decide (((totS acc d).1) = s)))) (x_pick_f (.tmp rfl (congrArg Value.bool (by rw [hc363]; rfl))) (.tmp rfl rfl)) ?_
            refine c_nil ?_
            refine n_then ?_
            have hc372 : (decide (((totS acc d).1) = s)) = true := (decide_eq_true (by rw [mix_total hd0 hd hok]))
            refine c_cond_f (t := false) (.tmp rfl (congrArg Value.bool (by rw [hc372]; rfl))) rfl ?_
            refine c_skip ?_
            refine n_then ?_
            refine c_seq ?_
            refine c_seq ?_
            refine c_region ?_
            refine st (v := .slice A309 s.length c310) (x_move (.tmp rfl hρ328)) ?_
            refine st (v := .int .i64 ((s.length : Nat) : Int)) (x_len (n := s.length) Tryd.underlying25 (.tmp rfl rfl)) ?_
            refine st (v := .bool (decide ((((s.length : Nat) : Int) : Int) < 2))) (x_lss (k := .i64) (a := ((s.length : Nat) : Int)) (b := 2) (.tmp rfl rfl) .const) ?_
            refine c_nil ?_
            refine n_then ?_
            rcases Bool.eq_false_or_eq_true (decide ((((s.length : Nat) : Int) : Int) < 2)) with hc373 | hc373
            · have hp373 : (((s.length : Nat) : Int) : Int) < 2 := of_decide_eq_true hc373
              refine c_cond_t (t := true) (.tmp rfl (congrArg Value.bool hc373)) rfl ?_
              refine c_seq ?_
              refine c_region ?_
              refine st (v := .bool true) (x_assign .const) ?_
              refine c_nil ?_
              refine n_then ?_
              refine c_ret ?_
              refine r_then ?_
              refine leave_ret (res_one (v := .bool true) rfl (.mk rfl rfl)) ?_
              exact ⟨rfl, (hs371.weaken ((hle311.trans hle353).trans hle367))⟩
            · have hp373 : ¬ ((((s.length : Nat) : Int) : Int) < 2) := of_decide_eq_false hc373
              refine c_cond_f (t := false) (.tmp rfl (congrArg Value.bool hc373)) rfl ?_
              refine c_skip ?_
              refine n_then ?_
              refine c_seq ?_
              refine c_region ?_
              have hkt := Nat.mod_lt turn (show 0 < s.length - 1 by omega)
              refine st (v := .int .u8 ((turn : Nat) : Int)) (x_move (.tmp rfl hρ327)) ?_
              refine st (v := .int .i64 ((turn : Nat) : Int)) (x_conv (k := .u8) (a := ((turn : Nat) : Int)) Tryd.underlying5 Tryd.underlying3 (.tmp rfl rfl) (w64 (by omega) (by omega))) ?_
              refine st (v := .slice A309 s.length c310) (x_move (.tmp rfl hρ328)) ?_
              refine st (v := .int .i64 ((s.length : Nat) : Int)) (x_len (n := s.length) Tryd.underlying25 (.tmp rfl rfl)) ?_
              refine st (v := .int .i64 (((s.length - 1) : Nat) : Int)) (x_sub (k := .i64) (a := ((s.length : Nat) : Int)) (b := 1) (.tmp rfl rfl) .const ((w64 (by omega) (by omega)).trans (by omega))) ?_
              have : turn % (s.length - 1) < (s.length - 1) := Nat.mod_lt _ (by omega)
              refine st (v := .int .i64 (((turn % (s.length - 1)) : Nat) : Int)) (x_remN (k := .i64) (m := turn) (n := (s.length - 1)) (.tmp rfl rfl) (.tmp rfl rfl) (by omega)) ?_
              refine st (v := .int .i64 (((turn % (s.length - 1)) : Nat) : Int)) (x_assign (.tmp rfl rfl)) ?_
              refine c_nil ?_
              refine n_then ?_
              refine c_seq ?_
              refine c_seq ?_
              refine q_region mixed hs371 (by kernel_rfl) ?_
              refine q_st (v := .slice A309 s.length c310) (fun w hs => (x_move (.tmp rfl hρ328))) ?_
              refine q_st (v := .int .i64 (((turn % (s.length - 1)) : Nat) : Int)) (fun w hs => (x_move (.tmp rfl rfl))) ?_
              obtain ⟨e374, b375, o376, cs377, hx378, hA379, hr380, hat381⟩ := ((sp313.mono hle353).mono hle367).get (i := (turn % (s.length - 1))) (by omega)
              obtain ⟨A384, n385, c386, rfl, ⟨b382, b383⟩, hy387⟩ := hr380
              have := hy387.len; have := hy387.bnd; have := hy387.le
              have hat381x : ∀ {w : World} {L : List Res}, St H364 w L → At w ⟨b375, o376 + (turn % (s.length - 1)) * 2, none⟩ [.int .i64 e374.From, .slice A384 n385 c386] := fun h => hat381 h
              refine q_st (v := .pointer (some ⟨b375, (o376 + (turn % (s.length - 1)) * 2), none⟩)) (fun w hs => (ixo25 (.tmp rfl rfl) hA379 (i := (((turn % (s.length - 1)) : Nat) : Int)) (.tmp rfl rfl) (by omega) (by omega) (by omega))) ?_
              refine q_st (v := .pointer (some ⟨b375, (o376 + (turn % (s.length - 1)) * 2) + 0, none⟩)) (fun w hs => (fa34_0 (.tmp rfl rfl))) ?_
              refine q_st (v := .int .i64 e374.From) (fun w hs => (ld3 (.tmp rfl rfl) ((hat381x hs).cell 0 rfl))) ?_
              refine q_st (v := .slice A309 s.length c310) (fun w hs => (x_move (.tmp rfl hρ328))) ?_
              refine q_st (v := .int .i64 (((turn % (s.length - 1)) : Nat) : Int)) (fun w hs => (x_move (.tmp rfl rfl))) ?_
              refine q_st (v := .int .i64 ((((turn % (s.length - 1)) + 1) : Nat) : Int)) (fun w hs => (x_add (k := .i64) (a := (((turn % (s.length - 1)) : Nat) : Int)) (b := 1) (.tmp rfl rfl) .const ((w64 (by omega) (by omega)).trans (by omega)))) ?_
              obtain ⟨e388, b389, o390, cs391, hx392, hA393, hr394, hat395⟩ := ((sp313.mono hle353).mono hle367).get (i := ((turn % (s.length - 1)) + 1)) (by omega)
              obtain ⟨A398, n399, c400, rfl, ⟨b396, b397⟩, hy401⟩ := hr394
              have := hy401.len; have := hy401.bnd; have := hy401.le
              have hat395x : ∀ {w : World} {L : List Res}, St H364 w L → At w ⟨b389, o390 + ((turn % (s.length - 1)) + 1) * 2, none⟩ [.int .i64 e388.From, .slice A398 n399 c400] := fun h => hat395 h
              refine q_st (v := .pointer (some ⟨b389, (o390 + ((turn % (s.length - 1)) + 1) * 2), none⟩)) (fun w hs => (ixo25 (.tmp rfl rfl) hA393 (i := ((((turn % (s.length - 1)) + 1) : Nat) : Int)) (.tmp rfl rfl) (by omega) (by omega) (by omega))) ?_
              refine q_st (v := .pointer (some ⟨b389, (o390 + ((turn % (s.length - 1)) + 1) * 2) + 0, none⟩)) (fun w hs => (fa34_0 (.tmp rfl rfl))) ?_
              refine q_st (v := .int .i64 e388.From) (fun w hs => (ld3 (.tmp rfl rfl) ((hat395x hs).cell 0 rfl))) ?_
              refine q_st (v := .bool (decide ((e374.From : Int) ≠ e388.From))) (fun w hs => (x_neq (k := .i64) (a := e374.From) (b := e388.From) (.tmp rfl rfl) (.tmp rfl rfl))) ?_
              refine q_st (v := .bool (decide ((e374.From : Int) ≠ e388.From))) (fun w hs => (x_move (.tmp rfl rfl))) ?_
              rcases Bool.eq_false_or_eq_true (decide ((e374.From : Int) ≠ e388.From)) with hc402 | hc402
              · have hp402 : (e374.From : Int) ≠ e388.From := of_decide_eq_true hc402
                refine q_no (yl (dj := 148) (b := true) rfl rfl (congrArg Value.bool hc402)) rfl ?_
                refine q_no (yl (dj := 148) (b := true) rfl rfl (congrArg Value.bool hc402)) rfl ?_
                refine q_no (yl (dj := 148) (b := true) rfl rfl (congrArg Value.bool hc402)) rfl ?_
                refine q_no (yl (dj := 148) (b := true) rfl rfl (congrArg Value.bool hc402)) rfl ?_
                refine q_no (yl (dj := 148) (b := true) rfl rfl (congrArg Value.bool hc402)) rfl ?_
                refine q_no (yl (dj := 148) (b := true) rfl rfl (congrArg Value.bool hc402)) rfl ?_
                refine q_no (yl (dj := 148) (b := true) rfl rfl (congrArg Value.bool hc402)) rfl ?_
                refine q_no (yl (dj := 148) (b := true) rfl rfl (congrArg Value.bool hc402)) rfl ?_
                refine q_no (yl (dj := 148) (b := true) rfl rfl (congrArg Value.bool hc402)) rfl ?_
                refine q_no (yl (dj := 148) (b := true) rfl rfl (congrArg Value.bool hc402)) rfl ?_
                refine q_no (yl (dj := 148) (b := true) rfl rfl (congrArg Value.bool hc402)) rfl ?_
                refine q_no (yl (dj := 148) (b := true) rfl rfl (congrArg Value.bool hc402)) rfl ?_
                refine q_no (yl (dj := 148) (b := true) rfl rfl (congrArg Value.bool hc402)) rfl ?_
                refine q_no (yl (dj := 148) (b := true) rfl rfl (congrArg Value.bool hc402)) rfl ?_
                refine q_st (v := .bool true) (fun w hs => (x_pick_t (.tmp rfl (congrArg Value.bool hc402)) .const)) ?_
                refine q_nil ?_
                intro w hs403
                refine n_then ?_
                refine c_cond_t (t := true) (.tmp rfl rfl) rfl ?_
                refine c_seq ?_
                refine c_region ?_
                refine st (v := .bool true) (x_assign .const) ?_
                refine c_nil ?_
                refine n_then ?_
                refine c_ret ?_
                refine r_then ?_
                refine leave_ret (res_one (v := .bool true) rfl (.mk rfl rfl)) ?_
                exact ⟨rfl, (hs403.weaken ((hle311.trans hle353).trans hle367))⟩
              · have hp402 : ¬ ((e374.From : Int) ≠ e388.From) := of_decide_eq_false hc402
                refine q_yes (yl (dj := 148) (b := false) rfl rfl (congrArg Value.bool hc402)) ?_
                refine q_st (v := .slice A309 s.length c310) (fun w hs => (x_move (.tmp rfl hρ328))) ?_
                refine q_yes (yl (dj := 148) (b := false) rfl rfl (congrArg Value.bool hc402)) ?_
                refine q_st (v := .int .i64 (((turn % (s.length - 1)) : Nat) : Int)) (fun w hs => (x_move (.tmp rfl rfl))) ?_
                refine q_yes (yl (dj := 148) (b := false) rfl rfl (congrArg Value.bool hc402)) ?_
                refine q_st (v := .pointer (some ⟨b375, (o376 + (turn % (s.length - 1)) * 2), none⟩)) (fun w hs => (ixo25 (.tmp rfl rfl) hA379 (i := (((turn % (s.length - 1)) : Nat) : Int)) (.tmp rfl rfl) (by omega) (by omega) (by omega))) ?_
                refine q_yes (yl (dj := 148) (b := false) rfl rfl (congrArg Value.bool hc402)) ?_
                refine q_st (v := .pointer (some ⟨b375, (o376 + (turn % (s.length - 1)) * 2) + 1, none⟩)) (fun w hs => (fa34_1 (.tmp rfl rfl))) ?_
                refine q_yes (yl (dj := 148) (b := false) rfl rfl (congrArg Value.bool hc402)) ?_
                refine q_st (v := .slice A384 n385 c386) (fun w hs => (ld30 (.tmp rfl rfl) ((hat381x hs).cell 1 rfl))) ?_
                refine q_yes (yl (dj := 148) (b := false) rfl rfl (congrArg Value.bool hc402)) ?_
                refine q_st (v := .string (bstr e374.M)) (fun w hs => (hy387.toBs.str Tryd.underlying30 Tryd.underlying5 Tryd.underlying9 hs (.tmp rfl rfl))) ?_
                refine q_yes (yl (dj := 148) (b := false) rfl rfl (congrArg Value.bool hc402)) ?_
                refine q_st (v := .slice A309 s.length c310) (fun w hs => (x_move (.tmp rfl hρ328))) ?_
                refine q_yes (yl (dj := 148) (b := false) rfl rfl (congrArg Value.bool hc402)) ?_
                refine q_st (v := .int .i64 (((turn % (s.length - 1)) : Nat) : Int)) (fun w hs => (x_move (.tmp rfl rfl))) ?_
                refine q_yes (yl (dj := 148) (b := false) rfl rfl (congrArg Value.bool hc402)) ?_
                refine q_st (v := .int .i64 ((((turn % (s.length - 1)) + 1) : Nat) : Int)) (fun w hs => (x_add (k := .i64) (a := (((turn % (s.length - 1)) : Nat) : Int)) (b := 1) (.tmp rfl rfl) .const ((w64 (by omega) (by omega)).trans (by omega)))) ?_
                refine q_yes (yl (dj := 148) (b := false) rfl rfl (congrArg Value.bool hc402)) ?_
                refine q_st (v := .pointer (some ⟨b389, (o390 + ((turn % (s.length - 1)) + 1) * 2), none⟩)) (fun w hs => (ixo25 (.tmp rfl rfl) hA393 (i := ((((turn % (s.length - 1)) + 1) : Nat) : Int)) (.tmp rfl rfl) (by omega) (by omega) (by omega))) ?_
                refine q_yes (yl (dj := 148) (b := false) rfl rfl (congrArg Value.bool hc402)) ?_
                refine q_st (v := .pointer (some ⟨b389, (o390 + ((turn % (s.length - 1)) + 1) * 2) + 1, none⟩)) (fun w hs => (fa34_1 (.tmp rfl rfl))) ?_
                refine q_yes (yl (dj := 148) (b := false) rfl rfl (congrArg Value.bool hc402)) ?_
                refine q_st (v := .slice A398 n399 c400) (fun w hs => (ld30 (.tmp rfl rfl) ((hat395x hs).cell 1 rfl))) ?_
                refine q_yes (yl (dj := 148) (b := false) rfl rfl (congrArg Value.bool hc402)) ?_
                refine q_st (v := .string (bstr e388.M)) (fun w hs => (hy401.toBs.str Tryd.underlying30 Tryd.underlying5 Tryd.underlying9 hs (.tmp rfl rfl))) ?_
                refine q_yes (yl (dj := 148) (b := false) rfl rfl (congrArg Value.bool hc402)) ?_
                refine q_st (v := .bool (decide ((bstr e374.M) = (bstr e388.M)))) (fun w hs => (x_eqlS (.tmp rfl rfl) (.tmp rfl rfl))) ?_
                refine q_st (v := .bool (decide ((bstr e374.M) = (bstr e388.M)))) (fun w hs => (x_pick_f (.tmp rfl (congrArg Value.bool hc402)) (.tmp rfl rfl))) ?_
                refine q_nil ?_
                intro w hs404
                refine n_then ?_
                rcases Bool.eq_false_or_eq_true (decide ((bstr e374.M) = (bstr e388.M))) with hc405 | hc405
                · have hp405 : (bstr e374.M) = (bstr e388.M) := of_decide_eq_true hc405
                  refine c_cond_t (t := true) (.tmp rfl (congrArg Value.bool hc405)) rfl ?_
                  refine c_seq ?_
                  refine c_region ?_
                  refine st (v := .bool true) (x_assign .const) ?_
                  refine c_nil ?_
                  refine n_then ?_
                  refine c_ret ?_
                  refine r_then ?_
                  refine leave_ret (res_one (v := .bool true) rfl (.mk rfl rfl)) ?_
                  exact ⟨rfl, (hs404.weaken ((hle311.trans hle353).trans hle367))⟩
                · have hp405 : ¬ ((bstr e374.M) = (bstr e388.M)) := of_decide_eq_false hc405
                  refine c_cond_f (t := false) (.tmp rfl (congrArg Value.bool hc405)) rfl ?_
                  refine c_skip ?_
                  refine n_then ?_
                  refine c_seq ?_
                  refine c_region ?_
                  refine st (v := .slice none 0 0) (x_assign .const) ?_
                  refine c_nil ?_
                  refine n_then ?_
                  refine c_seq ?_
                  refine c_region ?_
                  refine st (v := .slice none 0 0) (x_move (.tmp rfl rfl)) ?_
                  refine st (v := .slice A309 s.length c310) (x_move (.tmp rfl hρ328)) ?_
                  have hs406 : St H364 _ (row 34 2 (.slice none 0 0) (([] : List GItem).length) [] :: L) := hs404.krowNil 34 kItem
                  have : ([] : List GItem).length = 0 := rfl
                  refine st_m (m_appSl (d := kItem) (ys := s) Tryd.underlying25 inf34 rfl hs406 (RowOk.knil kItem) (Kn.rows_nil _ _) (.tmp rfl rfl) (.tmp rfl rfl) ((sp313.mono hle353).mono hle367) (by omega) (by decide)) ?_
                  rintro v408 w409 ⟨cs410, ok411, hk412, hs413⟩
                  have hn414 : (([] : List GItem) ++ s).length = ([] : List GItem).length + s.length := by rw [List.length_append, ((sp313.mono hle353).mono hle367).len]
                  have hn414 : s.length = s.length := ((sp313.mono hle353).mono hle367).len
                  have ok411 : RowOk kItem.sz v408 s.length cs410 := ok411
                  have hk412 : kItem.toKn.rows H364 s cs410 := hk412
                  have hs413 : St H364 _ (row 34 2 v408 s.length cs410 :: L) := hs413
                  refine st (v := v408) (x_assign (.tmp rfl rfl)) ?_
                  refine c_nil ?_
                  refine n_then ?_
                  refine c_seq ?_
                  refine t_region (L := row 34 2 v408 s.length cs410 :: L) (L' := row 34 2 v408 s.length cs410 :: L) (Z := [15, 17]) (F := [2, 3, 4]) (pl := (.q 0 (.q 1 (.q 2 (.q 3 (.q 4 (.q 5 (.q 6 (.q 7 (.q 8 (.q 9 (.q 10 (.q 11 (.q 12 (.q 13 (.q 14 (.e 15 (.q 16 (.e 17 .done))))))))))))))))))) mixed hs413 (fun u hu => hu) (by kernel_rfl) ?_
                  intro w415 hs416
                  refine t_st (k := 0) (v := v408) rfl rfl (fun w hs => (x_move (.tmp rfl rfl))) ?_
                  refine t_st (k := 1) (v := .int .i64 (((turn % (s.length - 1)) : Nat) : Int)) rfl rfl (fun w hs => (x_move (.tmp rfl rfl))) ?_
                  refine t_fr (k := 2) (v := v408) rfl (fun w _ => (x_move (.tmp rfl rfl))) ?_
                  refine t_fr (k := 3) (v := .int .i64 (((turn % (s.length - 1)) : Nat) : Int)) rfl (fun w _ => (x_move (.tmp rfl rfl))) ?_
                  refine t_fr (k := 4) (v := .int .i64 ((((turn % (s.length - 1)) + 1) : Nat) : Int)) rfl (fun w _ => (x_add (k := .i64) (a := (((turn % (s.length - 1)) : Nat) : Int)) (b := 1) (.tmp rfl rfl) .const ((w64 (by omega) (by omega)).trans (by omega)))) ?_
                  refine t_st (k := 5) (v := v408) rfl rfl (fun w hs => (x_move (.tmp rfl rfl))) ?_
                  refine t_st (k := 6) (v := .int .i64 (((turn % (s.length - 1)) : Nat) : Int)) rfl rfl (fun w hs => (x_move (.tmp rfl rfl))) ?_
                  refine t_st (k := 7) (v := .int .i64 ((((turn % (s.length - 1)) + 1) : Nat) : Int)) rfl rfl (fun w hs => (x_add (k := .i64) (a := (((turn % (s.length - 1)) : Nat) : Int)) (b := 1) (.tmp rfl rfl) .const ((w64 (by omega) (by omega)).trans (by omega)))) ?_
                  obtain ⟨g417, c418, hv419⟩ := ok411.pos (by omega)
                  obtain ⟨e420, cs421, hx422, hr423, hsub424⟩ := Kn.rows_get (i := ((turn % (s.length - 1)) + 1)) hk412 (by omega)
                  obtain ⟨A427, n428, c429, rfl, ⟨b425, b426⟩, hy430⟩ := hr423
                  have := hy430.len; have := hy430.bnd; have := hy430.le
                  refine t_st (k := 8) (v := .pointer (some ⟨g417, (((turn % (s.length - 1)) + 1) * 2), none⟩)) rfl rfl (fun w hs => (ixo25 (.tmp rfl hv419) rfl (i := ((((turn % (s.length - 1)) + 1) : Nat) : Int)) (.tmp rfl rfl) (by omega) (by omega) (by omega))) ?_
                  refine t_st (k := 9) (v := .agg #[.int .i64 e420.From, .slice A427 n428 c429]) rfl rfl (fun w hs => (ld34 (cs := [.int .i64 e420.From, .slice A427 n428 c429]) (.tmp rfl rfl) ((hs.rowAt 0 rfl hv419 (((turn % (s.length - 1)) + 1) * 2) hsub424).sub 0 rfl) rfl)) ?_
                  refine t_st (k := 10) (v := v408) rfl rfl (fun w hs => (x_move (.tmp rfl rfl))) ?_
                  refine t_st (k := 11) (v := .int .i64 (((turn % (s.length - 1)) : Nat) : Int)) rfl rfl (fun w hs => (x_move (.tmp rfl rfl))) ?_
                  obtain ⟨g431, c432, hv433⟩ := ok411.pos (by omega)
                  obtain ⟨e434, cs435, hx436, hr437, hsub438⟩ := Kn.rows_get (i := (turn % (s.length - 1))) hk412 (by omega)
                  obtain ⟨A441, n442, c443, rfl, ⟨b439, b440⟩, hy444⟩ := hr437
                  have := hy444.len; have := hy444.bnd; have := hy444.le
                  refine t_st (k := 12) (v := .pointer (some ⟨g431, ((turn % (s.length - 1)) * 2), none⟩)) rfl rfl (fun w hs => (ixo25 (.tmp rfl hv433) rfl (i := (((turn % (s.length - 1)) : Nat) : Int)) (.tmp rfl rfl) (by omega) (by omega) (by omega))) ?_
                  refine t_st (k := 13) (v := .agg #[.int .i64 e434.From, .slice A441 n442 c443]) rfl rfl (fun w hs => (ld34 (cs := [.int .i64 e434.From, .slice A441 n442 c443]) (.tmp rfl rfl) ((hs.rowAt 0 rfl hv433 ((turn % (s.length - 1)) * 2) hsub438).sub 0 rfl) rfl)) ?_
                  obtain ⟨g445, c446, hv447⟩ := ok411.pos (by omega)
                  refine t_st (k := 14) (v := .pointer (some ⟨g445, ((turn % (s.length - 1)) * 2), none⟩)) rfl rfl (fun w hs => (ixo25 (.tmp rfl hv447) rfl (i := (((turn % (s.length - 1)) : Nat) : Int)) (.tmp rfl rfl) (by omega) (by omega) (by omega))) ?_
                  skip
                  refine t_eff (k := 15) rfl ?_
                  have hl453 : (turn % (s.length - 1)) * 2 + 2 ≤ cs410.length := by have h1 := (hk412).1; have h2 : kItem.sz = 2 := rfl; rw [h2] at h1; omega
                  have hr452 : kItem.rep H364 e420 [.int .i64 e420.From, .slice A427 n428 c429] := ⟨A427, n428, c429, rfl, ⟨b425, b426⟩, hy430⟩
                  refine st_m0 (stor34 hs416 hv447 (i := ((turn % (s.length - 1)) * 2)) (xs' := splice cs410 ((turn % (s.length - 1)) * 2) [.int .i64 e420.From, .slice A427 n428 c429]) (.tmp rfl rfl) (u := .agg #[.int .i64 e420.From, .slice A427 n428 c429]) (.tmp rfl rfl) rfl (by omega) (oneA rfl) rfl) ?_
                  rintro w448 hs449
                  have hk451 := Kn.rows_set (d := kItem.toKn) hk412 (i := (turn % (s.length - 1))) (by omega) hr452
                  have ok450 := ok411.splice (i := (turn % (s.length - 1)) * 2) (vs := [.int .i64 e420.From, .slice A427 n428 c429]) (by simpa using hl453)
                  have hn454 : (s.set (turn % (s.length - 1)) e420).length = s.length := List.length_set
                  have ok455 : RowOk kItem.sz v408 (s.set (turn % (s.length - 1)) e420).length (splice cs410 ((turn % (s.length - 1)) * 2) [.int .i64 e420.From, .slice A427 n428 c429]) := by rw [hn454]; exact ok450
                  have hs456 : St H364 w448 (row 34 2 v408 ((s.set (turn % (s.length - 1)) e420).length) (splice cs410 ((turn % (s.length - 1)) * 2) [.int .i64 e420.From, .slice A427 n428 c429]) :: L) := by rw [hn454]; exact hs449
                  refine t_new (S' := fun u => St H364 u (row 34 2 v408 ((s.set (turn % (s.length - 1)) e420).length) (splice cs410 ((turn % (s.length - 1)) * 2) [.int .i64 e420.From, .slice A427 n428 c429]) :: L)) rfl hs456 ?_
                  obtain ⟨g457, c458, hv459⟩ := ok455.pos (by omega)
                  obtain ⟨e460, cs461, hx462, hr463, hsub464⟩ := Kn.rows_get (i := ((turn % (s.length - 1)) + 1)) hk451 (by omega)
                  obtain ⟨A467, n468, c469, rfl, ⟨b465, b466⟩, hy470⟩ := hr463
                  have := hy470.len; have := hy470.bnd; have := hy470.le
                  refine t_st (k := 16) (v := .pointer (some ⟨g457, (((turn % (s.length - 1)) + 1) * 2), none⟩)) rfl rfl (fun w hs => (ixo25 (.tmp rfl hv459) rfl (i := ((((turn % (s.length - 1)) + 1) : Nat) : Int)) (.tmp rfl rfl) (by omega) (by omega) (by omega))) ?_
                  refine t_eff (k := 17) rfl ?_
                  have hl476 : ((turn % (s.length - 1)) + 1) * 2 + 2 ≤ (splice cs410 ((turn % (s.length - 1)) * 2) [.int .i64 e420.From, .slice A427 n428 c429]).length := by have h1 := (hk451).1; have h2 : kItem.sz = 2 := rfl; rw [h2] at h1; omega
                  have hr475 : kItem.rep H364 e434 [.int .i64 e434.From, .slice A441 n442 c443] := ⟨A441, n442, c443, rfl, ⟨b439, b440⟩, hy444⟩
                  refine st_m0 (stor34 hs456 hv459 (i := (((turn % (s.length - 1)) + 1) * 2)) (xs' := splice (splice cs410 ((turn % (s.length - 1)) * 2) [.int .i64 e420.From, .slice A427 n428 c429]) (((turn % (s.length - 1)) + 1) * 2) [.int .i64 e434.From, .slice A441 n442 c443]) (.tmp rfl rfl) (u := .agg #[.int .i64 e434.From, .slice A441 n442 c443]) (.tmp rfl rfl) rfl (by omega) (oneA rfl) rfl) ?_
                  rintro w471 hs472
                  have hk474 := Kn.rows_set (d := kItem.toKn) hk451 (i := ((turn % (s.length - 1)) + 1)) (by omega) hr475
                  have ok473 := ok455.splice (i := ((turn % (s.length - 1)) + 1) * 2) (vs := [.int .i64 e434.From, .slice A441 n442 c443]) (by simpa using hl476)
                  have hn477 : ((s.set (turn % (s.length - 1)) e420).set ((turn % (s.length - 1)) + 1) e434).length = (s.set (turn % (s.length - 1)) e420).length := List.length_set
                  have ok478 : RowOk kItem.sz v408 ((s.set (turn % (s.length - 1)) e420).set ((turn % (s.length - 1)) + 1) e434).length (splice (splice cs410 ((turn % (s.length - 1)) * 2) [.int .i64 e420.From, .slice A427 n428 c429]) (((turn % (s.length - 1)) + 1) * 2) [.int .i64 e434.From, .slice A441 n442 c443]) := by rw [hn477]; exact ok473
                  have hs479 : St H364 w471 (row 34 2 v408 (((s.set (turn % (s.length - 1)) e420).set ((turn % (s.length - 1)) + 1) e434).length) (splice (splice cs410 ((turn % (s.length - 1)) * 2) [.int .i64 e420.From, .slice A427 n428 c429]) (((turn % (s.length - 1)) + 1) * 2) [.int .i64 e434.From, .slice A441 n442 c443]) :: L) := by rw [hn477]; exact hs472
                  refine t_new (S' := fun u => St H364 u (row 34 2 v408 (((s.set (turn % (s.length - 1)) e420).set ((turn % (s.length - 1)) + 1) e434).length) (splice (splice cs410 ((turn % (s.length - 1)) * 2) [.int .i64 e420.From, .slice A427 n428 c429]) (((turn % (s.length - 1)) + 1) * 2) [.int .i64 e434.From, .slice A441 n442 c443]) :: L)) rfl hs479 ?_
                  refine t_nil ?_
                  refine n_then ?_
                  refine c_seq ?_
                  refine c_region ?_
                  refine st (v := .slice A_acc n_acc c_acc) (x_move (.tmp rfl hρ325)) ?_
                  refine st (v := v408) (x_move (.tmp rfl rfl)) ?_
                  have : ((s.set (turn % (s.length - 1)) e420).set ((turn % (s.length - 1)) + 1) e434).length * 32 ≤ 140737488351232 := by omega
                  obtain ⟨H480, A481, c482, hle483, hs484, rfl, sp485⟩ := hs479.freezeSl (d := kItem) ok478 hk474 this
                  have := sp485.len; have := sp485.le
                  refine st_m (m_lit (n := 1) (ps := [(0, .slice A481 (((s.set (turn % (s.length - 1)) e420).set ((turn % (s.length - 1)) + 1) e434).length) c482)]) (cs := [.slice A481 (((s.set (turn % (s.length - 1)) e420).set ((turn % (s.length - 1)) + 1) e434).length) c482]) Tryd.underlying23 inf25 (.cons (.tmp rfl rfl) Evp.nil) (by decide) (by decide) rfl rfl hs484) ?_
                  rintro _ w487 ⟨g486, rfl, hs489⟩
                  have hr495 : (kSl kItem).rep H480 ((s.set (turn % (s.length - 1)) e420).set ((turn % (s.length - 1)) + 1) e434) [.slice A481 (((s.set (turn % (s.length - 1)) e420).set ((turn % (s.length - 1)) + 1) e434).length) c482] := ⟨A481, (((s.set (turn % (s.length - 1)) e420).set ((turn % (s.length - 1)) + 1) e434).length), c482, rfl, sp485⟩
                  have hk496 : (kSl kItem).toKn.rows H480 [((s.set (turn % (s.length - 1)) e420).set ((turn % (s.length - 1)) + 1) e434)] [.slice A481 (((s.set (turn % (s.length - 1)) e420).set ((turn % (s.length - 1)) + 1) e434).length) c482] := Kn.rows_one hr495
                  obtain ⟨H490, hle491, hs492, rd493, hb494⟩ := hs489.freezeObj
                  have sp497 : Sl (kSl kItem) H490 ((some ⟨g486, 0, none⟩)) 1 1 [((s.set (turn % (s.length - 1)) e420).set ((turn % (s.length - 1)) + 1) e434)] := ⟨⟨_, rd493, Kn.rows_mono hk496 hle491⟩, rfl, Nat.le_refl _, by decide, by decide⟩
                  refine st_c cb11 .func (evs2 (.tmp rfl rfl) (.tmp rfl rfl)) (total_spec hs492 acc (((((h_acc.mono hle311).mono hle353).mono hle367).mono hle483).mono hle491) [((s.set (turn % (s.length - 1)) e420).set ((turn % (s.length - 1)) + 1) e434)] sp497 ) ?_
                  rintro e w498 ⟨v500, cs503, rfl, ok501, hk504, hs499⟩
                  have := (((((h_acc.mono hle311).mono hle353).mono hle367).mono hle483).mono hle491).len
                  have := sp497.len
                  refine ⟨_, rfl, ?_⟩
                  refine st (v := .tuple #[v500, .bool ((totS acc [((s.set (turn % (s.length - 1)) e420).set ((turn % (s.length - 1)) + 1) e434)]).2)]) (x_move (.tmp rfl rfl)) ?_
                  refine st (v := v500) (x_extract (.tmp rfl rfl) (i := 0) rfl) ?_
                  refine st (v := .bool ((totS acc [((s.set (turn % (s.length - 1)) e420).set ((turn % (s.length - 1)) + 1) e434)]).2)) (x_extract (.tmp rfl rfl) (i := 1) rfl) ?_
                  refine st (v := v500) (x_assign (.tmp rfl rfl)) ?_
                  refine st (v := .bool ((totS acc [((s.set (turn % (s.length - 1)) e420).set ((turn % (s.length - 1)) + 1) e434)]).2)) (x_assign (.tmp rfl rfl)) ?_
                  refine c_nil ?_
                  refine n_then ?_
                  refine c_seq ?_
                  refine c_region ?_
                  refine st (v := .bool ((totS acc [((s.set (turn % (s.length - 1)) e420).set ((turn % (s.length - 1)) + 1) e434)]).2)) (x_move (.tmp rfl rfl)) ?_
                  refine st (v := .bool (!((totS acc [((s.set (turn % (s.length - 1)) e420).set ((turn % (s.length - 1)) + 1) e434)]).2))) (x_not (.tmp rfl rfl)) ?_
                  refine st (v := .bool (!((totS acc [((s.set (turn % (s.length - 1)) e420).set ((turn % (s.length - 1)) + 1) e434)]).2))) (x_assign (.tmp rfl rfl)) ?_
                  refine c_nil ?_
                  refine n_then ?_
                  refine c_ret ?_
                  refine leave_ret (res_one (v := .bool (!((totS acc [((s.set (turn % (s.length - 1)) e420).set ((turn % (s.length - 1)) + 1) e434)]).2))) rfl (.mk rfl rfl)) ?_
                  have hyes : (!((totS acc [((s.set (turn % (s.length - 1)) e420).set ((turn % (s.length - 1)) + 1) e434)]).2)) = true := (by rw [mix_swap hok hx436 hx422 (by rw [← (Option.some.inj (hx378.symm.trans hx436)), ← (Option.some.inj (hx392.symm.trans hx422))]; omega) (fun e9 => hp405 (by rw [(Option.some.inj (hx378.symm.trans hx436)), (Option.some.inj (hx392.symm.trans hx422)), e9]))]; rfl)
                  rw [hyes]
                  exact ⟨rfl, (hs499.drop.weaken ((((hle311.trans hle353).trans hle367).trans hle483).trans hle491))⟩

end Go.Proofs.YtnikcgcbkdeeeaaDoor
