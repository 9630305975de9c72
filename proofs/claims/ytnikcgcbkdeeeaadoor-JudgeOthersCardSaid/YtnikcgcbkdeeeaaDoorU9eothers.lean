/- Steps of the proofs over the functions of this seat, printed by a program (gen.py) and checked by Lean. -/
import Derived.Test.YtnikcgcbkdeeeaaDoorUty
import Derived.Test.YtnikcgcbkdeeeaaDoorFmM4b
import Derived.Test.YtnikcgcbkdeeeaaDoorFmP
import Derived.Test.YtnikcgcbkdeeeaaDoorFmK
import Derived.Test.YtnikcgcbkdeeeaaDoorFmT
import Derived.Test.YtnikcgcbkdeeeaaDoorFmJ2
import Derived.Test.YtnikcgcbkdeeeaaDoorU9a
set_option linter.unusedVariables false
set_option linter.unusedSimpArgs false
namespace Go.Proofs.YtnikcgcbkdeeeaaDoor
open Go Go.FM Go.Proofs
attribute [local irreducible] wpList wpQuiet wpS Code.wp Calls
set_option maxHeartbeats 8000000 in
theorem others_spec {H : Hp} {w : World} {L : List Res} (hs : St H w (L)) {A_acc : Option Addr} {n_acc c_acc : Nat} (acc : (List (List (List Nat)))) (h_acc : Sl (kSl kBs) H A_acc n_acc c_acc acc) {A_del : Option Addr} {n_del c_del : Nat} (del : (List (List GItem))) (h_del : Sl (kSl kItem) H A_del n_del c_del del) {A_more : Option Addr} {n_more c_more : Nat} (more : (List (List Nat))) (h_more : Sl kBs H A_more n_more c_more more) (htab : Tab H) : Calls Tryd.prog 9 #[.slice A_acc n_acc c_acc, .slice A_del n_del c_del, .slice A_more n_more c_more] w (fun e w' => e = .returned (.bool true) ∧ St H w' (L)) := by
  have := h_acc.len; have := h_acc.le; have : n_acc * 24 ≤ 140737488351232 := h_acc.bnd
  have := h_del.len; have := h_del.le; have : n_del * 24 ≤ 140737488351232 := h_del.bnd
  have := h_more.len; have := h_more.le; have : n_more * 24 ≤ 140737488351232 := h_more.bnd
  refine enter (args := [.slice A_acc n_acc c_acc, .slice A_del n_del c_del, .slice A_more n_more c_more]) (N := 101) Tryd.func9 rfl rfl rfl ?_
  refine c_seq ?_
  refine c_region ?_
  refine st (v := .bool false) (x_assign .const) ?_
  refine c_nil ?_
  refine n_then ?_
  refine c_seq ?_
  refine c_seq ?_
  refine c_region ?_
  refine st_c cb10 .func (evs0 ) (awake_spec hs  ) ?_
  rintro e w1 ⟨rfl, hs2⟩
  refine ⟨_, rfl, ?_⟩
  refine st (v := .bool false) (x_not (b := true) (.tmp rfl rfl)) ?_
  refine st (v := .bool false) (x_move (.tmp rfl rfl)) ?_
  refine g_yes (yl (dj := 18) (b := false) rfl rfl rfl) ?_
  refine st (v := .slice A_acc n_acc c_acc) (x_move (.tmp rfl rfl)) ?_
  refine g_yes (yl (dj := 18) (b := false) rfl rfl rfl) ?_
  refine st (v := .int .i64 ((n_acc : Nat) : Int)) (x_len (n := n_acc) Tryd.underlying22 (.tmp rfl rfl)) ?_
  refine g_yes (yl (dj := 18) (b := false) rfl rfl rfl) ?_
  refine st (v := .bool (decide ((8 : Int) < ((n_acc : Nat) : Int)))) (x_gtr (k := .i64) (a := ((n_acc : Nat) : Int)) (b := 8) (.tmp rfl rfl) .const) ?_
  refine st (v := .bool (decide ((8 : Int) < ((n_acc : Nat) : Int)))) (x_pick_f (.tmp rfl rfl) (.tmp rfl rfl)) ?_
  refine st (v := .bool (decide ((8 : Int) < ((n_acc : Nat) : Int)))) (x_move (.tmp rfl rfl)) ?_
  rcases Bool.eq_false_or_eq_true (decide ((8 : Int) < ((n_acc : Nat) : Int))) with hc3 | hc3
  · have hp3 : (8 : Int) < ((n_acc : Nat) : Int) := of_decide_eq_true hc3
    refine g_no (yl (dj := 23) (b := true) rfl rfl (congrArg Value.bool hc3)) rfl ?_
    refine g_no (yl (dj := 23) (b := true) rfl rfl (congrArg Value.bool hc3)) rfl ?_
    refine g_no (yl (dj := 23) (b := true) rfl rfl (congrArg Value.bool hc3)) rfl ?_
    refine st (v := .bool true) (x_pick_t (.tmp rfl (congrArg Value.bool hc3)) .const) ?_
    refine st (v := .bool true) (x_move (.tmp rfl rfl)) ?_
    refine g_no (yl (dj := 28) (b := true) rfl rfl rfl) rfl ?_
    refine g_no (yl (dj := 28) (b := true) rfl rfl rfl) rfl ?_
    refine g_no (yl (dj := 28) (b := true) rfl rfl rfl) rfl ?_
    refine st (v := .bool true) (x_pick_t (.tmp rfl rfl) .const) ?_
    refine c_nil ?_
    refine n_then ?_
    refine c_cond_t (t := true) (.tmp rfl rfl) rfl ?_
    refine c_seq ?_
    refine c_region ?_
    refine st_c cb10 .func (evs0 ) (awake_spec hs2  ) ?_
    rintro e w4 ⟨rfl, hs5⟩
    refine ⟨_, rfl, ?_⟩
    refine st (v := .bool true) (x_assign (.tmp rfl rfl)) ?_
    refine c_nil ?_
    refine n_then ?_
    refine c_ret ?_
    refine r_then ?_
    refine leave_ret (res_one (v := .bool true) rfl (.mk rfl rfl)) ?_
    exact ⟨rfl, hs5⟩
  · have hp3 : ¬ ((8 : Int) < ((n_acc : Nat) : Int)) := of_decide_eq_false hc3
    refine g_yes (yl (dj := 23) (b := false) rfl rfl (congrArg Value.bool hc3)) ?_
    refine st (v := .slice A_del n_del c_del) (x_move (.tmp rfl rfl)) ?_
    refine g_yes (yl (dj := 23) (b := false) rfl rfl (congrArg Value.bool hc3)) ?_
    refine st (v := .int .i64 ((n_del : Nat) : Int)) (x_len (n := n_del) Tryd.underlying23 (.tmp rfl rfl)) ?_
    refine g_yes (yl (dj := 23) (b := false) rfl rfl (congrArg Value.bool hc3)) ?_
    refine st (v := .bool (decide ((8 : Int) < ((n_del : Nat) : Int)))) (x_gtr (k := .i64) (a := ((n_del : Nat) : Int)) (b := 8) (.tmp rfl rfl) .const) ?_
    refine st (v := .bool (decide ((8 : Int) < ((n_del : Nat) : Int)))) (x_pick_f (.tmp rfl (congrArg Value.bool hc3)) (.tmp rfl rfl)) ?_
    refine st (v := .bool (decide ((8 : Int) < ((n_del : Nat) : Int)))) (x_move (.tmp rfl rfl)) ?_
    rcases Bool.eq_false_or_eq_true (decide ((8 : Int) < ((n_del : Nat) : Int))) with hc6 | hc6
    · have hp6 : (8 : Int) < ((n_del : Nat) : Int) := of_decide_eq_true hc6
      refine g_no (yl (dj := 28) (b := true) rfl rfl (congrArg Value.bool hc6)) rfl ?_
      refine g_no (yl (dj := 28) (b := true) rfl rfl (congrArg Value.bool hc6)) rfl ?_
      refine g_no (yl (dj := 28) (b := true) rfl rfl (congrArg Value.bool hc6)) rfl ?_
      refine st (v := .bool true) (x_pick_t (.tmp rfl (congrArg Value.bool hc6)) .const) ?_
      refine c_nil ?_
      refine n_then ?_
      refine c_cond_t (t := true) (.tmp rfl rfl) rfl ?_
      refine c_seq ?_
      refine c_region ?_
      refine st_c cb10 .func (evs0 ) (awake_spec hs2  ) ?_
      rintro e w7 ⟨rfl, hs8⟩
      refine ⟨_, rfl, ?_⟩
      refine st (v := .bool true) (x_assign (.tmp rfl rfl)) ?_
      refine c_nil ?_
      refine n_then ?_
      refine c_ret ?_
      refine r_then ?_
      refine leave_ret (res_one (v := .bool true) rfl (.mk rfl rfl)) ?_
      exact ⟨rfl, hs8⟩
    · have hp6 : ¬ ((8 : Int) < ((n_del : Nat) : Int)) := of_decide_eq_false hc6
      refine g_yes (yl (dj := 28) (b := false) rfl rfl (congrArg Value.bool hc6)) ?_
      refine st (v := .slice A_more n_more c_more) (x_move (.tmp rfl rfl)) ?_
      refine g_yes (yl (dj := 28) (b := false) rfl rfl (congrArg Value.bool hc6)) ?_
      refine st (v := .int .i64 ((n_more : Nat) : Int)) (x_len (n := n_more) Tryd.underlying32 (.tmp rfl rfl)) ?_
      refine g_yes (yl (dj := 28) (b := false) rfl rfl (congrArg Value.bool hc6)) ?_
      refine st (v := .bool (decide ((20 : Int) < ((n_more : Nat) : Int)))) (x_gtr (k := .i64) (a := ((n_more : Nat) : Int)) (b := 20) (.tmp rfl rfl) .const) ?_
      refine st (v := .bool (decide ((20 : Int) < ((n_more : Nat) : Int)))) (x_pick_f (.tmp rfl (congrArg Value.bool hc6)) (.tmp rfl rfl)) ?_
      refine c_nil ?_
      refine n_then ?_
      rcases Bool.eq_false_or_eq_true (decide ((20 : Int) < ((n_more : Nat) : Int))) with hc9 | hc9
      · have hp9 : (20 : Int) < ((n_more : Nat) : Int) := of_decide_eq_true hc9
        refine c_cond_t (t := true) (.tmp rfl (congrArg Value.bool hc9)) rfl ?_
        refine c_seq ?_
        refine c_region ?_
        refine st_c cb10 .func (evs0 ) (awake_spec hs2  ) ?_
        rintro e w10 ⟨rfl, hs11⟩
        refine ⟨_, rfl, ?_⟩
        refine st (v := .bool true) (x_assign (.tmp rfl rfl)) ?_
        refine c_nil ?_
        refine n_then ?_
        refine c_ret ?_
        refine r_then ?_
        refine leave_ret (res_one (v := .bool true) rfl (.mk rfl rfl)) ?_
        exact ⟨rfl, hs11⟩
      · have hp9 : ¬ ((20 : Int) < ((n_more : Nat) : Int)) := of_decide_eq_false hc9
        refine c_cond_f (t := false) (.tmp rfl (congrArg Value.bool hc9)) rfl ?_
        refine c_skip ?_
        refine n_then ?_
        refine c_seq ?_
        refine c_region ?_
        refine st (v := .int .i64 0) (x_assign .const) ?_
        refine c_nil ?_
        refine n_then ?_
        refine c_seq ?_
        refine c_seq ?_
        refine c_region ?_
        refine st (v := .int .i64 0) (x_assign .const) ?_
        refine c_nil ?_
        refine n_then ?_
        refine c_block ?_
        refine c_loop (fun ρ w mm => ∃ (i : Nat) (n : Nat), ρ 0 = .slice A_acc n_acc c_acc ∧ ρ 1 = .slice A_del n_del c_del ∧ ρ 2 = .slice A_more n_more c_more ∧ ρ 7 = .int .i64 ((n : Nat) : Int) ∧ ρ 8 = .int .i64 ((i : Nat) : Int) ∧ (i ≤ n_del) ∧ (n ≤ i * 4398046511104) ∧ (∀ (j : Nat) (y : List GItem), j < i → del[j]? = some y → ∀ (m : Nat) (x : GItem), m < 200 → y[m]? = some x → x.From ≠ ((acc.length : Nat) : Int)) ∧ (∀ (j : Nat) (y : List GItem), j < i → del[j]? = some y → y.length ≤ n) ∧ St H w (L) ∧ mm = n_del - i) _ ⟨0, 0, rfl, rfl, rfl, rfl, rfl, (by omega), (by omega), (fun j y h => absurd h (Nat.not_lt_zero _)), (fun j y h => absurd h (Nat.not_lt_zero _)), hs2, rfl⟩ ?_
        rintro ρ w mm ⟨i, n, hρ13, hρ14, hρ15, hρ16, hρ17, hi, hn, hfr, hsm, hs18, rfl⟩
        refine c_seq ?_
        refine c_seq ?_
        refine c_region ?_
        refine st (v := .int .i64 ((i : Nat) : Int)) (x_move (.tmp rfl hρ17)) ?_
        refine st (v := .slice A_del n_del c_del) (x_move (.tmp rfl hρ14)) ?_
        refine st (v := .int .i64 ((n_del : Nat) : Int)) (x_len (n := n_del) Tryd.underlying23 (.tmp rfl rfl)) ?_
        refine st (v := .bool (decide ((((i : Nat) : Int) : Int) < ((n_del : Nat) : Int)))) (x_lss (k := .i64) (a := ((i : Nat) : Int)) (b := ((n_del : Nat) : Int)) (.tmp rfl rfl) (.tmp rfl rfl)) ?_
        refine c_nil ?_
        refine n_then ?_
        rcases Bool.eq_false_or_eq_true (decide ((((i : Nat) : Int) : Int) < ((n_del : Nat) : Int))) with hc19 | hc19
        · have hp19 : (((i : Nat) : Int) : Int) < ((n_del : Nat) : Int) := of_decide_eq_true hc19
          refine c_cond_t (t := true) (.tmp rfl (congrArg Value.bool hc19)) rfl ?_
          refine c_skip ?_
          refine n_then ?_
          refine c_seq ?_
          refine c_block ?_
          refine c_seq ?_
          refine c_region ?_
          refine st (v := .int .i64 ((n : Nat) : Int)) (x_move (.tmp rfl hρ16)) ?_
          refine st (v := .slice A_del n_del c_del) (x_move (.tmp rfl hρ14)) ?_
          refine st (v := .int .i64 ((i : Nat) : Int)) (x_move (.tmp rfl hρ17)) ?_
          obtain ⟨e20, b21, o22, cs23, hx24, hA25, hr26, hat27⟩ := h_del.get (i := i) (by omega)
          obtain ⟨A28, n29, c30, rfl, hl31⟩ := hr26
          have := hl31.len; have : n29 * 32 ≤ 140737488351232 := hl31.bnd; have := hl31.le
          have hat27x : ∀ {w : World} {L : List Res}, St H w L → At w ⟨b21, o22 + i * 1, none⟩ [.slice A28 n29 c30] := fun h => hat27 h
          refine st (v := .pointer (some ⟨b21, (o22 + i * 1), none⟩)) (ixo23 (.tmp rfl rfl) hA25 (i := ((i : Nat) : Int)) (.tmp rfl rfl) (by omega) (by omega) (by omega)) ?_
          refine st (v := .slice A28 n29 c30) (ld25 (.tmp rfl rfl) ((hat27x hs18).cell 0 rfl)) ?_
          refine st (v := .int .i64 ((n29 : Nat) : Int)) (x_len (n := n29) Tryd.underlying25 (.tmp rfl rfl)) ?_
          refine st (v := .int .i64 (((n + n29) : Nat) : Int)) (x_add (k := .i64) (a := ((n : Nat) : Int)) (b := ((n29 : Nat) : Int)) (.tmp rfl rfl) (.tmp rfl rfl) ((w64 (by omega) (by omega)).trans (by omega))) ?_
          refine st (v := .int .i64 (((n + n29) : Nat) : Int)) (x_assign (.tmp rfl rfl)) ?_
          refine c_nil ?_
          refine n_then ?_
          refine c_seq ?_
          refine c_region ?_
          refine st (v := .int .i64 0) (x_assign .const) ?_
          refine c_nil ?_
          refine n_then ?_
          refine c_block ?_
          refine c_loop (fun ρ w mm => ∃ (k : Nat), ρ 0 = .slice A_acc n_acc c_acc ∧ ρ 1 = .slice A_del n_del c_del ∧ ρ 2 = .slice A_more n_more c_more ∧ ρ 7 = .int .i64 (((n + n29) : Nat) : Int) ∧ ρ 8 = .int .i64 ((i : Nat) : Int) ∧ ρ 9 = .int .i64 ((k : Nat) : Int) ∧ (k ≤ e20.length) ∧ (∀ (m : Nat) (x : GItem), m < k → e20[m]? = some x → x.From ≠ ((acc.length : Nat) : Int)) ∧ St H w (L) ∧ mm = e20.length - k) _ ⟨0, hρ13, hρ14, hρ15, rfl, hρ17, rfl, (by omega), (fun j y h => absurd h (Nat.not_lt_zero _)), hs18, rfl⟩ ?_
          rintro ρ w mm ⟨k, hρ33, hρ34, hρ35, hρ36, hρ37, hρ38, hk, hin, hs39, rfl⟩
          refine c_seq ?_
          refine c_seq ?_
          refine c_region ?_
          refine st (v := .int .i64 ((k : Nat) : Int)) (x_move (.tmp rfl hρ38)) ?_
          refine st (v := .slice A_del n_del c_del) (x_move (.tmp rfl hρ34)) ?_
          refine st (v := .int .i64 ((i : Nat) : Int)) (x_move (.tmp rfl hρ37)) ?_
          refine st (v := .pointer (some ⟨b21, (o22 + i * 1), none⟩)) (ixo23 (.tmp rfl rfl) hA25 (i := ((i : Nat) : Int)) (.tmp rfl rfl) (by omega) (by omega) (by omega)) ?_
          refine st (v := .slice A28 n29 c30) (ld25 (.tmp rfl rfl) ((hat27x hs39).cell 0 rfl)) ?_
          refine st (v := .int .i64 ((n29 : Nat) : Int)) (x_len (n := n29) Tryd.underlying25 (.tmp rfl rfl)) ?_
          refine st (v := .bool (decide ((((k : Nat) : Int) : Int) < ((n29 : Nat) : Int)))) (x_lss (k := .i64) (a := ((k : Nat) : Int)) (b := ((n29 : Nat) : Int)) (.tmp rfl rfl) (.tmp rfl rfl)) ?_
          refine st (v := .bool (decide ((((k : Nat) : Int) : Int) < ((n29 : Nat) : Int)))) (x_move (.tmp rfl rfl)) ?_
          rcases Bool.eq_false_or_eq_true (decide ((((k : Nat) : Int) : Int) < ((n29 : Nat) : Int))) with hc40 | hc40
          · have hp40 : (((k : Nat) : Int) : Int) < ((n29 : Nat) : Int) := of_decide_eq_true hc40
            refine g_yes (yl (dj := 54) (b := true) rfl rfl (congrArg Value.bool hc40)) ?_
            refine st (v := .int .i64 ((k : Nat) : Int)) (x_move (.tmp rfl hρ38)) ?_
            refine g_yes (yl (dj := 54) (b := true) rfl rfl (congrArg Value.bool hc40)) ?_
            refine st (v := .bool (decide ((((k : Nat) : Int) : Int) < 200))) (x_lss (k := .i64) (a := ((k : Nat) : Int)) (b := 200) (.tmp rfl rfl) .const) ?_
            refine st (v := .bool (decide ((((k : Nat) : Int) : Int) < 200))) (x_pick_t (.tmp rfl (congrArg Value.bool hc40)) (.tmp rfl rfl)) ?_
            refine c_nil ?_
            refine n_then ?_
            rcases Bool.eq_false_or_eq_true (decide ((((k : Nat) : Int) : Int) < 200)) with hc41 | hc41
            · have hp41 : (((k : Nat) : Int) : Int) < 200 := of_decide_eq_true hc41
              refine c_cond_t (t := true) (.tmp rfl (congrArg Value.bool hc41)) rfl ?_
              refine c_skip ?_
              refine n_then ?_
              refine c_seq ?_
              refine c_block ?_
              refine c_seq ?_
              refine c_region ?_
              refine st (v := .slice A_del n_del c_del) (x_move (.tmp rfl hρ34)) ?_
              refine st (v := .int .i64 ((i : Nat) : Int)) (x_move (.tmp rfl hρ37)) ?_
              refine st (v := .pointer (some ⟨b21, (o22 + i * 1), none⟩)) (ixo23 (.tmp rfl rfl) hA25 (i := ((i : Nat) : Int)) (.tmp rfl rfl) (by omega) (by omega) (by omega)) ?_
              refine st (v := .slice A28 n29 c30) (ld25 (.tmp rfl rfl) ((hat27x hs39).cell 0 rfl)) ?_
              refine st (v := .int .i64 ((k : Nat) : Int)) (x_move (.tmp rfl hρ38)) ?_
              obtain ⟨e42, b43, o44, cs45, hx46, hA47, hr48, hat49⟩ := hl31.get (i := k) (by omega)
              obtain ⟨A52, n53, c54, rfl, ⟨b50, b51⟩, hy55⟩ := hr48
              have := hy55.len; have := hy55.bnd; have := hy55.le
              have hat49x : ∀ {w : World} {L : List Res}, St H w L → At w ⟨b43, o44 + k * 2, none⟩ [.int .i64 e42.From, .slice A52 n53 c54] := fun h => hat49 h
              refine st (v := .pointer (some ⟨b43, (o44 + k * 2), none⟩)) (ixo25 (.tmp rfl rfl) hA47 (i := ((k : Nat) : Int)) (.tmp rfl rfl) (by omega) (by omega) (by omega)) ?_
              refine st (v := .pointer (some ⟨b43, (o44 + k * 2) + 0, none⟩)) (fa34_0 (.tmp rfl rfl)) ?_
              refine st (v := .int .i64 e42.From) (ld3 (.tmp rfl rfl) ((hat49x hs39).cell 0 rfl)) ?_
              refine st (v := .slice A_acc n_acc c_acc) (x_move (.tmp rfl hρ33)) ?_
              refine st (v := .int .i64 ((n_acc : Nat) : Int)) (x_len (n := n_acc) Tryd.underlying22 (.tmp rfl rfl)) ?_
              refine st (v := .bool (decide ((e42.From : Int) = ((n_acc : Nat) : Int)))) (x_eql (k := .i64) (a := e42.From) (b := ((n_acc : Nat) : Int)) (.tmp rfl rfl) (.tmp rfl rfl)) ?_
              refine c_nil ?_
              refine n_then ?_
              rcases Bool.eq_false_or_eq_true (decide ((e42.From : Int) = ((n_acc : Nat) : Int))) with hc56 | hc56
              · have hp56 : (e42.From : Int) = ((n_acc : Nat) : Int) := of_decide_eq_true hc56
                refine c_cond_t (t := true) (.tmp rfl (congrArg Value.bool hc56)) rfl ?_
                refine c_seq ?_
                refine c_region ?_
                refine st (v := .bool true) (x_assign .const) ?_
                refine c_nil ?_
                refine n_then ?_
                refine c_ret ?_
                refine r_block ?_
                refine r_then ?_
                refine r_then ?_
                refine r_block ?_
                refine r_block ?_
                refine r_then ?_
                refine r_then ?_
                refine r_block ?_
                refine r_then ?_
                refine leave_ret (res_one (v := .bool true) rfl (.mk rfl rfl)) ?_
                exact ⟨rfl, hs39⟩
              · have hp56 : ¬ ((e42.From : Int) = ((n_acc : Nat) : Int)) := of_decide_eq_false hc56
                refine c_cond_f (t := false) (.tmp rfl (congrArg Value.bool hc56)) rfl ?_
                refine c_skip ?_
                refine n_block ?_
                refine n_then ?_
                refine c_region ?_
                refine st (v := .int .i64 ((k : Nat) : Int)) (x_move (.tmp rfl hρ38)) ?_
                refine st (v := .int .i64 (((k + 1) : Nat) : Int)) (x_add (k := .i64) (a := ((k : Nat) : Int)) (b := 1) (.tmp rfl rfl) .const ((w64 (by omega) (by omega)).trans (by omega))) ?_
                refine st (v := .int .i64 (((k + 1) : Nat) : Int)) (x_assign (.tmp rfl rfl)) ?_
                refine c_nil ?_
                refine n_then ⟨_, _, rfl, ?_, (k + 1), hρ33, hρ34, hρ35, hρ36, hρ37, rfl, (by omega), (next_all3 hin hx46 (by omega)), hs39, rfl⟩
                omega
            · have hp41 : ¬ ((((k : Nat) : Int) : Int) < 200) := of_decide_eq_false hc41
              refine c_cond_f (t := false) (.tmp rfl (congrArg Value.bool hc41)) rfl ?_
              refine c_exit ?_
              refine x_then ?_
              refine x_then ?_
              refine x_here ?_
              refine n_block ?_
              refine n_then ?_
              refine c_region ?_
              refine st (v := .int .i64 ((i : Nat) : Int)) (x_move (.tmp rfl hρ37)) ?_
              refine st (v := .int .i64 (((i + 1) : Nat) : Int)) (x_add (k := .i64) (a := ((i : Nat) : Int)) (b := 1) (.tmp rfl rfl) .const ((w64 (by omega) (by omega)).trans (by omega))) ?_
              refine st (v := .int .i64 (((i + 1) : Nat) : Int)) (x_assign (.tmp rfl rfl)) ?_
              refine c_nil ?_
              refine n_then ⟨_, _, rfl, ?_, (i + 1), (n + n29), hρ33, hρ34, hρ35, hρ36, rfl, (by omega), (by omega), (next_all3 hfr hx24 (fun m x hm hx => hin m x (by have := (List.getElem?_eq_some_iff.1 hx).1; omega) hx)), (next_all3 (fun j y hj hy => Nat.le_trans (hsm j y hj hy) (Nat.le_add_right ..)) hx24 (by omega)), hs39, rfl⟩
              omega
          · have hp40 : ¬ ((((k : Nat) : Int) : Int) < ((n29 : Nat) : Int)) := of_decide_eq_false hc40
            refine g_no (yl (dj := 54) (b := false) rfl rfl (congrArg Value.bool hc40)) rfl ?_
            refine g_no (yl (dj := 54) (b := false) rfl rfl (congrArg Value.bool hc40)) rfl ?_
            refine st (v := .bool false) (x_pick_f (.tmp rfl (congrArg Value.bool hc40)) .const) ?_
            refine c_nil ?_
            refine n_then ?_
            refine c_cond_f (t := false) (.tmp rfl rfl) rfl ?_
            refine c_exit ?_
            refine x_then ?_
            refine x_then ?_
            refine x_here ?_
            refine n_block ?_
            refine n_then ?_
            refine c_region ?_
            refine st (v := .int .i64 ((i : Nat) : Int)) (x_move (.tmp rfl hρ37)) ?_
            refine st (v := .int .i64 (((i + 1) : Nat) : Int)) (x_add (k := .i64) (a := ((i : Nat) : Int)) (b := 1) (.tmp rfl rfl) .const ((w64 (by omega) (by omega)).trans (by omega))) ?_
            refine st (v := .int .i64 (((i + 1) : Nat) : Int)) (x_assign (.tmp rfl rfl)) ?_
            refine c_nil ?_
            refine n_then ⟨_, _, rfl, ?_, (i + 1), (n + n29), hρ33, hρ34, hρ35, hρ36, rfl, (by omega), (by omega), (next_all3 hfr hx24 (fun m x hm hx => hin m x (by have := (List.getElem?_eq_some_iff.1 hx).1; omega) hx)), (next_all3 (fun j y hj hy => Nat.le_trans (hsm j y hj hy) (Nat.le_add_right ..)) hx24 (by omega)), hs39, rfl⟩
            omega
        · have hp19 : ¬ ((((i : Nat) : Int) : Int) < ((n_del : Nat) : Int)) := of_decide_eq_false hc19
          refine c_cond_f (t := false) (.tmp rfl (congrArg Value.bool hc19)) rfl ?_
          refine c_exit ?_
          refine x_then ?_
          refine x_then ?_
          refine x_here ?_
          refine n_then ?_
          refine c_seq ?_
          refine c_seq ?_
          refine c_region ?_
          refine st (v := .int .i64 ((n : Nat) : Int)) (x_move (.tmp rfl hρ16)) ?_
          refine st (v := .bool (decide ((200 : Int) < ((n : Nat) : Int)))) (x_gtr (k := .i64) (a := ((n : Nat) : Int)) (b := 200) (.tmp rfl rfl) .const) ?_
          refine c_nil ?_
          refine n_then ?_
          rcases Bool.eq_false_or_eq_true (decide ((200 : Int) < ((n : Nat) : Int))) with hc57 | hc57
          · have hp57 : (200 : Int) < ((n : Nat) : Int) := of_decide_eq_true hc57
            refine c_cond_t (t := true) (.tmp rfl (congrArg Value.bool hc57)) rfl ?_
            refine c_seq ?_
            refine c_region ?_
            refine st (v := .bool true) (x_assign .const) ?_
            refine c_nil ?_
            refine n_then ?_
            refine c_ret ?_
            refine r_then ?_
            refine leave_ret (res_one (v := .bool true) rfl (.mk rfl rfl)) ?_
            exact ⟨rfl, hs18⟩
          · have hp57 : ¬ ((200 : Int) < ((n : Nat) : Int)) := of_decide_eq_false hc57
            refine c_cond_f (t := false) (.tmp rfl (congrArg Value.bool hc57)) rfl ?_
            refine c_skip ?_
            refine n_then ?_
            refine c_seq ?_
            refine c_region ?_
            refine st (v := .slice A_acc n_acc c_acc) (x_move (.tmp rfl hρ13)) ?_
            refine st (v := .slice A_del n_del c_del) (x_move (.tmp rfl hρ14)) ?_
            refine st_c cb11 .func (evs2 (.tmp rfl rfl) (.tmp rfl rfl)) (total_spec hs18 acc h_acc del h_del ) ?_
            rintro e w58 ⟨v60, cs63, rfl, ok61, hk64, hs59⟩
            have := h_acc.len
            have := h_del.len
            refine ⟨_, rfl, ?_⟩
            refine st (v := .tuple #[v60, .bool ((totS acc del).2)]) (x_move (.tmp rfl rfl)) ?_
            refine st (v := v60) (x_extract (.tmp rfl rfl) (i := 0) rfl) ?_
            refine st (v := .bool ((totS acc del).2)) (x_extract (.tmp rfl rfl) (i := 1) rfl) ?_
            refine st (v := v60) (x_assign (.tmp rfl rfl)) ?_
            refine st (v := .bool ((totS acc del).2)) (x_assign (.tmp rfl rfl)) ?_
            refine c_nil ?_
            refine n_then ?_
            refine c_seq ?_
            refine c_region ?_
            refine st (v := .slice none 0 0) (x_assign .const) ?_
            refine c_nil ?_
            refine n_then ?_
            refine c_seq ?_
            refine c_region ?_
            refine st (v := .slice none 0 0) (x_move (.tmp rfl rfl)) ?_
            refine st (v := .slice A_acc n_acc c_acc) (x_move (.tmp rfl hρ13)) ?_
            have hs65 : St H _ (row 32 1 (.slice none 0 0) (([] : List (List (List Nat))).length) [] :: row 34 2 v60 (((totS acc del).1).length) cs63 :: L) := hs59.krowNil 32 (kSl kBs)
            have : ([] : List (List (List Nat))).length = 0 := rfl
            refine st_m (m_appSl (d := (kSl kBs)) (ys := acc) Tryd.underlying22 inf32 rfl hs65 (RowOk.knil (kSl kBs)) (Kn.rows_nil _ _) (.tmp rfl rfl) (.tmp rfl rfl) h_acc (by omega) (by decide)) ?_
            rintro v67 w68 ⟨cs69, ok70, hk71, hs72⟩
            have hn73 : (([] : List (List (List Nat))) ++ acc).length = ([] : List (List (List Nat))).length + n_acc := by rw [List.length_append, h_acc.len]
            have hn73 : acc.length = n_acc := h_acc.len
            have ok70 : RowOk (kSl kBs).sz v67 acc.length cs69 := ok70
            have hk71 : (kSl kBs).toKn.rows H acc cs69 := hk71
            have hs72 : St H _ (row 32 1 v67 acc.length cs69 :: row 34 2 v60 (((totS acc del).1).length) cs63 :: L) := hs72
            refine st (v := v67) (x_assign (.tmp rfl rfl)) ?_
            refine c_nil ?_
            refine n_then ?_
            refine c_seq ?_
            refine c_region ?_
            refine st (v := v67) (x_move (.tmp rfl rfl)) ?_
            refine st (v := .slice A_more n_more c_more) (x_move (.tmp rfl hρ15)) ?_
            refine st_m (m_lit (n := 1) (ps := [(0, .slice A_more n_more c_more)]) (cs := [.slice A_more n_more c_more]) Tryd.underlying22 inf32 (.cons (.tmp rfl rfl) Evp.nil) (by decide) (by decide) rfl rfl hs72) ?_
            rintro _ w75 ⟨g74, rfl, hs77⟩
            have hs78 : St H _ (row 32 1 v67 acc.length cs69 :: obj g74 32 [.slice A_more n_more c_more] :: row 34 2 v60 (((totS acc del).1).length) cs63 :: L) := hs77.pick 1 rfl rfl
            have hr86 : (kSl kBs).rep H more [.slice A_more n_more c_more] := ⟨A_more, n_more, c_more, rfl, h_more⟩
            refine st_m (m_appK (d := (kSl kBs)) (ys := [more]) (news := [.slice A_more n_more c_more]) Tryd.underlying22 inf32 rfl hs78 ok70 hk71 (.tmp rfl rfl) (.tmp rfl rfl) (Kn.rows_one hr86) rfl (hs78.at_ 1 rfl 0 rfl) (by have : ([more] : List (List (List Nat))).length = 1 := rfl; omega) (by decide)) ?_
            rintro v79 w80 ⟨cs81, ok82, hk83, hs84⟩
            have hn85 : (acc ++ [more]).length = acc.length + 1 := by simp
            refine st (v := v79) (x_assign (.tmp rfl rfl)) ?_
            refine c_nil ?_
            refine n_then ?_
            refine c_seq ?_
            refine c_region ?_
            refine st (v := .slice none 0 0) (x_assign .const) ?_
            refine c_nil ?_
            refine n_then ?_
            refine c_seq ?_
            refine c_region ?_
            refine st (v := .slice none 0 0) (x_move (.tmp rfl rfl)) ?_
            refine st (v := .slice A_del n_del c_del) (x_move (.tmp rfl hρ14)) ?_
            have hs87 : St H _ (row 25 1 (.slice none 0 0) (([] : List (List GItem)).length) [] :: row 32 1 v79 ((acc ++ [more]).length) cs81 :: obj g74 32 [.slice A_more n_more c_more] :: row 34 2 v60 (((totS acc del).1).length) cs63 :: L) := hs84.krowNil 25 (kSl kItem)
            have : ([] : List (List GItem)).length = 0 := rfl
            refine st_m (m_appSl (d := (kSl kItem)) (ys := del) Tryd.underlying23 inf25 rfl hs87 (RowOk.knil (kSl kItem)) (Kn.rows_nil _ _) (.tmp rfl rfl) (.tmp rfl rfl) h_del (by omega) (by decide)) ?_
            rintro v89 w90 ⟨cs91, ok92, hk93, hs94⟩
            have hn95 : (([] : List (List GItem)) ++ del).length = ([] : List (List GItem)).length + n_del := by rw [List.length_append, h_del.len]
            have hn95 : del.length = n_del := h_del.len
            have ok92 : RowOk (kSl kItem).sz v89 del.length cs91 := ok92
            have hk93 : (kSl kItem).toKn.rows H del cs91 := hk93
            have hs94 : St H _ (row 25 1 v89 del.length cs91 :: row 32 1 v79 ((acc ++ [more]).length) cs81 :: obj g74 32 [.slice A_more n_more c_more] :: row 34 2 v60 (((totS acc del).1).length) cs63 :: L) := hs94
            refine st (v := v89) (x_assign (.tmp rfl rfl)) ?_
            refine c_nil ?_
            refine n_then ?_
            refine c_seq ?_
            refine c_region ?_
            refine st (v := v89) (x_move (.tmp rfl rfl)) ?_
            refine st_m (m_lit (n := 1) (ps := [(0, .slice none 0 0)]) (cs := [.slice none 0 0]) Tryd.underlying23 inf25 (.cons .const Evp.nil) (by decide) (by decide) rfl rfl hs94) ?_
            rintro _ w97 ⟨g96, rfl, hs99⟩
            have hs100 : St H _ (row 25 1 v89 del.length cs91 :: obj g96 25 [.slice none 0 0] :: row 32 1 v79 ((acc ++ [more]).length) cs81 :: obj g74 32 [.slice A_more n_more c_more] :: row 34 2 v60 (((totS acc del).1).length) cs63 :: L) := hs99.pick 1 rfl rfl
            have hr108 : (kSl kItem).rep H [] [.slice none 0 0] := ⟨none, 0, 0, rfl, (Sl.nil _ _ none)⟩
            refine st_m (m_appK (d := (kSl kItem)) (ys := [[]]) (news := [.slice none 0 0]) Tryd.underlying23 inf25 rfl hs100 ok92 hk93 (.tmp rfl rfl) (.tmp rfl rfl) (Kn.rows_one hr108) rfl (hs100.at_ 1 rfl 0 rfl) (by have : ([[]] : List (List GItem)).length = 1 := rfl; omega) (by decide)) ?_
            rintro v101 w102 ⟨cs103, ok104, hk105, hs106⟩
            have hn107 : (del ++ [[]]).length = del.length + 1 := by simp
            refine st (v := v101) (x_assign (.tmp rfl rfl)) ?_
            refine c_nil ?_
            refine n_then ?_
            refine c_seq ?_
            refine c_region ?_
            refine st (v := v79) (x_move (.tmp rfl rfl)) ?_
            refine st (v := v101) (x_move (.tmp rfl rfl)) ?_
            have hs109 : St H _ (row 32 1 v79 ((acc ++ [more]).length) cs81 :: row 25 1 v101 ((del ++ [[]]).length) cs103 :: obj g96 25 [.slice none 0 0] :: obj g74 32 [.slice A_more n_more c_more] :: row 34 2 v60 (((totS acc del).1).length) cs63 :: L) := hs106.pick 2 rfl rfl
            have : (acc ++ [more]).length * 24 ≤ 140737488351232 := by omega
            obtain ⟨H110, A111, c112, hle113, hs114, rfl, sp115⟩ := hs109.freezeSl (d := (kSl kBs)) ok82 hk83 this
            have := sp115.len; have := sp115.le
            have : (del ++ [[]]).length * 24 ≤ 140737488351232 := by omega
            obtain ⟨H116, A117, c118, hle119, hs120, rfl, sp121⟩ := hs114.freezeSl (d := (kSl kItem)) ok104 (Kn.rows_mono hk105 hle113) this
            have := sp121.len; have := sp121.le
            refine st_c cb11 .func (evs2 (.tmp rfl rfl) (.tmp rfl rfl)) (total_spec hs120 (acc ++ [more]) (sp115.mono hle119) (del ++ [[]]) sp121 ) ?_
            rintro e w122 ⟨v124, cs127, rfl, ok125, hk128, hs123⟩
            have := (sp115.mono hle119).len
            have := sp121.len
            refine ⟨_, rfl, ?_⟩
            refine st (v := .tuple #[v124, .bool ((totS (acc ++ [more]) (del ++ [[]])).2)]) (x_move (.tmp rfl rfl)) ?_
            refine st (v := v124) (x_extract (.tmp rfl rfl) (i := 0) rfl) ?_
            refine st (v := .bool ((totS (acc ++ [more]) (del ++ [[]])).2)) (x_extract (.tmp rfl rfl) (i := 1) rfl) ?_
            refine st (v := v124) (x_assign (.tmp rfl rfl)) ?_
            refine st (v := .bool ((totS (acc ++ [more]) (del ++ [[]])).2)) (x_assign (.tmp rfl rfl)) ?_
            refine c_nil ?_
            refine n_then ?_
            refine c_seq ?_
            refine c_region ?_
            refine st (v := .bool ((totS acc del).2)) (x_move (.tmp rfl rfl)) ?_
            refine st (v := .bool ((totS (acc ++ [more]) (del ++ [[]])).2)) (x_move (.tmp rfl rfl)) ?_
            refine st (v := .bool (((totS acc del).2) == ((totS (acc ++ [more]) (del ++ [[]])).2))) (x_eqlB Tryd.underlying4 (.tmp rfl rfl) (.tmp rfl rfl)) ?_
            refine st (v := .bool (((totS acc del).2) == ((totS (acc ++ [more]) (del ++ [[]])).2))) (x_assign (.tmp rfl rfl)) ?_
            refine c_nil ?_
            refine n_then ?_
            refine c_ret ?_
            refine leave_ret (res_one (v := .bool (((totS acc del).2) == ((totS (acc ++ [more]) (del ++ [[]])).2))) rfl (.mk rfl rfl)) ?_
            have hyes : (((totS acc del).2) == ((totS (acc ++ [more]) (del ++ [[]])).2)) = true := (by rw [tot_others (others_all hfr hsm (by omega) (by omega))]; simp)
            rw [hyes]
            exact ⟨rfl, (hs123.drop.drop.drop.drop.weaken (hle113.trans hle119))⟩

end Go.Proofs.YtnikcgcbkdeeeaaDoor
