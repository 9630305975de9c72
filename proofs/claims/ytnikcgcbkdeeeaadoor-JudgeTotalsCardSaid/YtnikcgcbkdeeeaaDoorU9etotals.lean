/- Steps of the proofs over the functions of this seat, printed by a program (gen.py) and checked by Lean. -/
import Derived.Test.YtnikcgcbkdeeeaaDoorUty
import Derived.Test.YtnikcgcbkdeeeaaDoorFmM4b
import Derived.Test.YtnikcgcbkdeeeaaDoorFmP
import Derived.Test.YtnikcgcbkdeeeaaDoorFmK
import Derived.Test.YtnikcgcbkdeeeaaDoorFmT
import Derived.Test.YtnikcgcbkdeeeaaDoorFmJ2
import Derived.Test.YtnikcgcbkdeeeaaDoorU9a
set_option linter.unusedVariables false
set_option linter.unusedSimpArgs false
namespace Go.Proofs.YtnikcgcbkdeeeaaDoor
open Go Go.FM Go.Proofs
attribute [local irreducible] wpList wpQuiet wpS Code.wp Calls
set_option maxHeartbeats 8000000 in
theorem totals_spec {H : Hp} {w : World} {L : List Res} (hs : St H w (L)) {A_acc : Option Addr} {n_acc c_acc : Nat} (acc : (List (List (List Nat)))) (h_acc : Sl (kSl kBs) H A_acc n_acc c_acc acc) {A_del : Option Addr} {n_del c_del : Nat} (del : (List (List GItem))) (h_del : Sl (kSl kItem) H A_del n_del c_del del) (htab : Tab H) : Calls Tryd.prog 3 #[.slice A_acc n_acc c_acc, .slice A_del n_del c_del] w (fun e w' => e = .returned (.bool true) ∧ St H w' (L)) := by
  have := h_acc.len; have := h_acc.le; have : n_acc * 24 ≤ 140737488351232 := h_acc.bnd
  have := h_del.len; have := h_del.le; have : n_del * 24 ≤ 140737488351232 := h_del.bnd
  refine enter (args := [.slice A_acc n_acc c_acc, .slice A_del n_del c_del]) (N := 59) Tryd.func3 rfl rfl rfl ?_
  refine c_seq ?_
  refine c_region ?_
  refine st (v := .bool false) (x_assign .const) ?_
  refine c_nil ?_
  refine n_then ?_
  refine c_seq ?_
  refine c_seq ?_
  refine c_region ?_
  refine st_c cb10 .func (evs0 ) (awake_spec hs  ) ?_
  rintro e w1 ⟨rfl, hs2⟩
  refine ⟨_, rfl, ?_⟩
  refine st (v := .bool false) (x_not (b := true) (.tmp rfl rfl)) ?_
  refine st (v := .bool false) (x_move (.tmp rfl rfl)) ?_
  refine g_yes (yl (dj := 13) (b := false) rfl rfl rfl) ?_
  refine st (v := .slice A_acc n_acc c_acc) (x_move (.tmp rfl rfl)) ?_
  refine g_yes (yl (dj := 13) (b := false) rfl rfl rfl) ?_
  refine st (v := .int .i64 ((n_acc : Nat) : Int)) (x_len (n := n_acc) Tryd.underlying22 (.tmp rfl rfl)) ?_
  refine g_yes (yl (dj := 13) (b := false) rfl rfl rfl) ?_
  refine st (v := .bool (decide ((20 : Int) < ((n_acc : Nat) : Int)))) (x_gtr (k := .i64) (a := ((n_acc : Nat) : Int)) (b := 20) (.tmp rfl rfl) .const) ?_
  refine st (v := .bool (decide ((20 : Int) < ((n_acc : Nat) : Int)))) (x_pick_f (.tmp rfl rfl) (.tmp rfl rfl)) ?_
  refine st (v := .bool (decide ((20 : Int) < ((n_acc : Nat) : Int)))) (x_move (.tmp rfl rfl)) ?_
  rcases Bool.eq_false_or_eq_true (decide ((20 : Int) < ((n_acc : Nat) : Int))) with hc3 | hc3
  · have hp3 : (20 : Int) < ((n_acc : Nat) : Int) := of_decide_eq_true hc3
    refine g_no (yl (dj := 18) (b := true) rfl rfl (congrArg Value.bool hc3)) rfl ?_
    refine g_no (yl (dj := 18) (b := true) rfl rfl (congrArg Value.bool hc3)) rfl ?_
    refine g_no (yl (dj := 18) (b := true) rfl rfl (congrArg Value.bool hc3)) rfl ?_
    refine st (v := .bool true) (x_pick_t (.tmp rfl (congrArg Value.bool hc3)) .const) ?_
    refine c_nil ?_
    refine n_then ?_
    refine c_cond_t (t := true) (.tmp rfl rfl) rfl ?_
    refine c_seq ?_
    refine c_region ?_
    refine st_c cb10 .func (evs0 ) (awake_spec hs2  ) ?_
    rintro e w4 ⟨rfl, hs5⟩
    refine ⟨_, rfl, ?_⟩
    refine st (v := .bool true) (x_assign (.tmp rfl rfl)) ?_
    refine c_nil ?_
    refine n_then ?_
    refine c_ret ?_
    refine r_then ?_
    refine leave_ret (res_one (v := .bool true) rfl (.mk rfl rfl)) ?_
    exact ⟨rfl, hs5⟩
  · have hp3 : ¬ ((20 : Int) < ((n_acc : Nat) : Int)) := of_decide_eq_false hc3
    refine g_yes (yl (dj := 18) (b := false) rfl rfl (congrArg Value.bool hc3)) ?_
    refine st (v := .slice A_del n_del c_del) (x_move (.tmp rfl rfl)) ?_
    refine g_yes (yl (dj := 18) (b := false) rfl rfl (congrArg Value.bool hc3)) ?_
    refine st (v := .int .i64 ((n_del : Nat) : Int)) (x_len (n := n_del) Tryd.underlying23 (.tmp rfl rfl)) ?_
    refine g_yes (yl (dj := 18) (b := false) rfl rfl (congrArg Value.bool hc3)) ?_
    refine st (v := .bool (decide ((20 : Int) < ((n_del : Nat) : Int)))) (x_gtr (k := .i64) (a := ((n_del : Nat) : Int)) (b := 20) (.tmp rfl rfl) .const) ?_
    refine st (v := .bool (decide ((20 : Int) < ((n_del : Nat) : Int)))) (x_pick_f (.tmp rfl (congrArg Value.bool hc3)) (.tmp rfl rfl)) ?_
    refine c_nil ?_
    refine n_then ?_
    rcases Bool.eq_false_or_eq_true (decide ((20 : Int) < ((n_del : Nat) : Int))) with hc6 | hc6
    · have hp6 : (20 : Int) < ((n_del : Nat) : Int) := of_decide_eq_true hc6
      refine c_cond_t (t := true) (.tmp rfl (congrArg Value.bool hc6)) rfl ?_
      refine c_seq ?_
      refine c_region ?_
      refine st_c cb10 .func (evs0 ) (awake_spec hs2  ) ?_
      rintro e w7 ⟨rfl, hs8⟩
      refine ⟨_, rfl, ?_⟩
      refine st (v := .bool true) (x_assign (.tmp rfl rfl)) ?_
      refine c_nil ?_
      refine n_then ?_
      refine c_ret ?_
      refine r_then ?_
      refine leave_ret (res_one (v := .bool true) rfl (.mk rfl rfl)) ?_
      exact ⟨rfl, hs8⟩
    · have hp6 : ¬ ((20 : Int) < ((n_del : Nat) : Int)) := of_decide_eq_false hc6
      refine c_cond_f (t := false) (.tmp rfl (congrArg Value.bool hc6)) rfl ?_
      refine c_skip ?_
      refine n_then ?_
      refine c_seq ?_
      refine c_region ?_
      refine st (v := .int .i64 0) (x_assign .const) ?_
      refine c_nil ?_
      refine n_then ?_
      refine c_seq ?_
      refine c_seq ?_
      refine c_region ?_
      refine st (v := .int .i64 0) (x_assign .const) ?_
      refine c_nil ?_
      refine n_then ?_
      refine c_block ?_
      refine c_loop (fun ρ w mm => ∃ (i : Nat) (n : Nat), ρ 0 = .slice A_acc n_acc c_acc ∧ ρ 1 = .slice A_del n_del c_del ∧ ρ 5 = .int .i64 ((n : Nat) : Int) ∧ ρ 6 = .int .i64 ((i : Nat) : Int) ∧ (i ≤ n_del) ∧ (n ≤ i * 4398046511104) ∧ (∀ (j : Nat) (y : List GItem), j < i → del[j]? = some y → y.length ≤ n) ∧ St H w (L) ∧ mm = n_del - i) _ ⟨0, 0, rfl, rfl, rfl, rfl, (by omega), (by omega), (fun j y h => absurd h (Nat.not_lt_zero _)), hs2, rfl⟩ ?_
      rintro ρ w mm ⟨i, n, hρ10, hρ11, hρ12, hρ13, hi, hn, hsm, hs14, rfl⟩
      refine c_seq ?_
      refine c_seq ?_
      refine c_region ?_
      refine st (v := .int .i64 ((i : Nat) : Int)) (x_move (.tmp rfl hρ13)) ?_
      refine st (v := .slice A_del n_del c_del) (x_move (.tmp rfl hρ11)) ?_
      refine st (v := .int .i64 ((n_del : Nat) : Int)) (x_len (n := n_del) Tryd.underlying23 (.tmp rfl rfl)) ?_
      refine st (v := .bool (decide ((((i : Nat) : Int) : Int) < ((n_del : Nat) : Int)))) (x_lss (k := .i64) (a := ((i : Nat) : Int)) (b := ((n_del : Nat) : Int)) (.tmp rfl rfl) (.tmp rfl rfl)) ?_
      refine c_nil ?_
      refine n_then ?_
      rcases Bool.eq_false_or_eq_true (decide ((((i : Nat) : Int) : Int) < ((n_del : Nat) : Int))) with hc15 | hc15
      · have hp15 : (((i : Nat) : Int) : Int) < ((n_del : Nat) : Int) := of_decide_eq_true hc15
        refine c_cond_t (t := true) (.tmp rfl (congrArg Value.bool hc15)) rfl ?_
        refine c_skip ?_
        refine n_then ?_
        refine c_seq ?_
        refine c_block ?_
        refine c_region ?_
        refine st (v := .int .i64 ((n : Nat) : Int)) (x_move (.tmp rfl hρ12)) ?_
        refine st (v := .slice A_del n_del c_del) (x_move (.tmp rfl hρ11)) ?_
        refine st (v := .int .i64 ((i : Nat) : Int)) (x_move (.tmp rfl hρ13)) ?_
        obtain ⟨e16, b17, o18, cs19, hx20, hA21, hr22, hat23⟩ := h_del.get (i := i) (by omega)
        obtain ⟨A24, n25, c26, rfl, hl27⟩ := hr22
        have := hl27.len; have : n25 * 32 ≤ 140737488351232 := hl27.bnd; have := hl27.le
        have hat23x : ∀ {w : World} {L : List Res}, St H w L → At w ⟨b17, o18 + i * 1, none⟩ [.slice A24 n25 c26] := fun h => hat23 h
        refine st (v := .pointer (some ⟨b17, (o18 + i * 1), none⟩)) (ixo23 (.tmp rfl rfl) hA21 (i := ((i : Nat) : Int)) (.tmp rfl rfl) (by omega) (by omega) (by omega)) ?_
        refine st (v := .slice A24 n25 c26) (ld25 (.tmp rfl rfl) ((hat23x hs14).cell 0 rfl)) ?_
        refine st (v := .int .i64 ((n25 : Nat) : Int)) (x_len (n := n25) Tryd.underlying25 (.tmp rfl rfl)) ?_
        refine st (v := .int .i64 (((n + n25) : Nat) : Int)) (x_add (k := .i64) (a := ((n : Nat) : Int)) (b := ((n25 : Nat) : Int)) (.tmp rfl rfl) (.tmp rfl rfl) ((w64 (by omega) (by omega)).trans (by omega))) ?_
        refine st (v := .int .i64 (((n + n25) : Nat) : Int)) (x_assign (.tmp rfl rfl)) ?_
        refine c_nil ?_
        refine n_block ?_
        refine n_then ?_
        refine c_region ?_
        refine st (v := .int .i64 ((i : Nat) : Int)) (x_move (.tmp rfl hρ13)) ?_
        refine st (v := .int .i64 (((i + 1) : Nat) : Int)) (x_add (k := .i64) (a := ((i : Nat) : Int)) (b := 1) (.tmp rfl rfl) .const ((w64 (by omega) (by omega)).trans (by omega))) ?_
        refine st (v := .int .i64 (((i + 1) : Nat) : Int)) (x_assign (.tmp rfl rfl)) ?_
        refine c_nil ?_
        refine n_then ⟨_, _, rfl, ?_, (i + 1), (n + n25), hρ10, hρ11, rfl, rfl, (by omega), (by omega), (next_all3 (fun j y hj hy => Nat.le_trans (hsm j y hj hy) (Nat.le_add_right ..)) hx20 (by omega)), hs14, rfl⟩
        omega
      · have hp15 : ¬ ((((i : Nat) : Int) : Int) < ((n_del : Nat) : Int)) := of_decide_eq_false hc15
        refine c_cond_f (t := false) (.tmp rfl (congrArg Value.bool hc15)) rfl ?_
        refine c_exit ?_
        refine x_then ?_
        refine x_then ?_
        refine x_here ?_
        refine n_then ?_
        refine c_seq ?_
        refine c_seq ?_
        refine c_region ?_
        refine st (v := .int .i64 ((n : Nat) : Int)) (x_move (.tmp rfl hρ12)) ?_
        refine st (v := .bool (decide ((2000 : Int) < ((n : Nat) : Int)))) (x_gtr (k := .i64) (a := ((n : Nat) : Int)) (b := 2000) (.tmp rfl rfl) .const) ?_
        refine c_nil ?_
        refine n_then ?_
        rcases Bool.eq_false_or_eq_true (decide ((2000 : Int) < ((n : Nat) : Int))) with hc28 | hc28
        · have hp28 : (2000 : Int) < ((n : Nat) : Int) := of_decide_eq_true hc28
          refine c_cond_t (t := true) (.tmp rfl (congrArg Value.bool hc28)) rfl ?_
          refine c_seq ?_
          refine c_region ?_
          refine st (v := .bool true) (x_assign .const) ?_
          refine c_nil ?_
          refine n_then ?_
          refine c_ret ?_
          refine r_then ?_
          refine leave_ret (res_one (v := .bool true) rfl (.mk rfl rfl)) ?_
          exact ⟨rfl, hs14⟩
        · have hp28 : ¬ ((2000 : Int) < ((n : Nat) : Int)) := of_decide_eq_false hc28
          refine c_cond_f (t := false) (.tmp rfl (congrArg Value.bool hc28)) rfl ?_
          refine c_skip ?_
          refine n_then ?_
          refine c_seq ?_
          refine c_region ?_
          have htl := totS_len (acc := acc) hsm (by omega)
          refine st (v := .slice A_acc n_acc c_acc) (x_move (.tmp rfl hρ10)) ?_
          refine st (v := .slice A_del n_del c_del) (x_move (.tmp rfl hρ11)) ?_
          refine st_c cb11 .func (evs2 (.tmp rfl rfl) (.tmp rfl rfl)) (total_spec hs14 acc h_acc del h_del ) ?_
          rintro e w29 ⟨v31, cs34, rfl, ok32, hk35, hs30⟩
          have := h_acc.len
          have := h_del.len
          refine ⟨_, rfl, ?_⟩
          refine st (v := .tuple #[v31, .bool ((totS acc del).2)]) (x_move (.tmp rfl rfl)) ?_
          refine st (v := v31) (x_extract (.tmp rfl rfl) (i := 0) rfl) ?_
          refine st (v := .bool ((totS acc del).2)) (x_extract (.tmp rfl rfl) (i := 1) rfl) ?_
          refine st (v := v31) (x_assign (.tmp rfl rfl)) ?_
          refine st (v := .bool ((totS acc del).2)) (x_assign (.tmp rfl rfl)) ?_
          refine c_nil ?_
          refine n_then ?_
          refine c_seq ?_
          refine c_region ?_
          refine st (v := .slice A_acc n_acc c_acc) (x_move (.tmp rfl hρ10)) ?_
          refine st (v := .slice A_del n_del c_del) (x_move (.tmp rfl hρ11)) ?_
          refine st_c cb12 .func (evs2 (.tmp rfl rfl) (.tmp rfl rfl)) (rtotal_spec hs30 acc h_acc del h_del ) ?_
          rintro e w36 ⟨v38, cs41, rfl, ok39, hk42, hs37⟩
          have := h_acc.len
          have := h_del.len
          refine ⟨_, rfl, ?_⟩
          refine st (v := .tuple #[v38, .bool ((totS acc del).2)]) (x_move (.tmp rfl rfl)) ?_
          refine st (v := v38) (x_extract (.tmp rfl rfl) (i := 0) rfl) ?_
          refine st (v := .bool ((totS acc del).2)) (x_extract (.tmp rfl rfl) (i := 1) rfl) ?_
          refine st (v := v38) (x_assign (.tmp rfl rfl)) ?_
          refine st (v := .bool ((totS acc del).2)) (x_assign (.tmp rfl rfl)) ?_
          refine c_nil ?_
          refine n_then ?_
          refine c_seq ?_
          refine c_region ?_
          refine st (v := .bool ((totS acc del).2)) (x_move (.tmp rfl rfl)) ?_
          refine st (v := .bool ((totS acc del).2)) (x_move (.tmp rfl rfl)) ?_
          refine st (v := .bool (((totS acc del).2) == ((totS acc del).2))) (x_eqlB Tryd.underlying4 (.tmp rfl rfl) (.tmp rfl rfl)) ?_
          refine st (v := .bool true) (x_move (.tmp rfl (congrArg Value.bool (show (((totS acc del).2) == ((totS acc del).2)) = true from by simp)))) ?_
          refine g_yes (yl (dj := 54) (b := true) rfl rfl rfl) ?_
          refine st (v := v31) (x_move (.tmp rfl rfl)) ?_
          refine g_yes (yl (dj := 54) (b := true) rfl rfl rfl) ?_
          refine st (v := v38) (x_move (.tmp rfl rfl)) ?_
          refine g_yes (yl (dj := 54) (b := true) rfl rfl rfl) ?_
          have hs43 : St H _ (row 34 2 v31 (((totS acc del).1).length) cs34 :: row 34 2 v38 (((totS acc del).1).length) cs41 :: L) := hs37.pick 1 rfl rfl
          have : ((totS acc del).1).length * 32 ≤ 140737488351232 := by omega
          obtain ⟨H44, A45, c46, hle47, hs48, rfl, sp49⟩ := hs43.freezeSl (d := kItem) ok32 hk35 this
          have := sp49.len; have := sp49.le
          have : ((totS acc del).1).length * 32 ≤ 140737488351232 := by omega
          obtain ⟨H50, A51, c52, hle53, hs54, rfl, sp55⟩ := hs48.freezeSl (d := kItem) ok39 (Kn.rows_mono hk42 hle47) this
          have := sp55.len; have := sp55.le
          refine st_c cb13 .func (evs2 (.tmp rfl rfl) (.tmp rfl rfl)) (items_spec hs54 ((totS acc del).1) (sp49.mono hle53) ((totS acc del).1) sp55 ) ?_
          rintro e w56 ⟨rfl, hs57⟩
          refine ⟨_, rfl, ?_⟩
          refine st (v := .bool (decide (((totS acc del).1) = ((totS acc del).1)))) (x_pick_t (.tmp rfl rfl) (.tmp rfl rfl)) ?_
          refine st (v := .bool (decide (((totS acc del).1) = ((totS acc del).1)))) (x_assign (.tmp rfl rfl)) ?_
          refine c_nil ?_
          refine n_then ?_
          refine c_ret ?_
          refine leave_ret (res_one (v := .bool (decide (((totS acc del).1) = ((totS acc del).1)))) rfl (.mk rfl rfl)) ?_
          have hyes : (decide (((totS acc del).1) = ((totS acc del).1))) = true := (decide_eq_true rfl)
          rw [hyes]
          exact ⟨rfl, (hs57.weaken (hle47.trans hle53))⟩

end Go.Proofs.YtnikcgcbkdeeeaaDoor
