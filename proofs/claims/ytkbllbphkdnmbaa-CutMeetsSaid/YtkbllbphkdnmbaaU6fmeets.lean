/- Steps of the proofs over the functions of this seat, printed by a program (gen.py) and checked by Lean. -/
import Derived.Test.YtkbllbphkdnmbaaUty
import Derived.Test.YtkbllbphkdnmbaaFmM6
import Derived.Test.YtkbllbphkdnmbaaFmM6c
import Derived.Test.YtkbllbphkdnmbaaU6i
set_option linter.unusedVariables false
set_option linter.unusedSimpArgs false
namespace Go.Proofs.Ytkbllbphkdnmbaa
open Go Go.FM Go.Proofs
attribute [local irreducible] wpList wpQuiet wpS Code.wp Calls
set_option maxHeartbeats 8000000 in
theorem cutMeets_spec {H : Hp} {w : World} {L : List Res} (hs : St H w (L)) {A_all : Option Addr} {n_all c_all : Nat} (all : (List GItem)) (h_all : Sl kItem H A_all n_all c_all all) {A_had : Option Addr} {n_had c_had : Nat} (had : List Nat) (h_had : By H A_had n_had c_had had) {A_safe : Option Addr} {n_safe c_safe : Nat} (safe : List Nat) (h_safe : By H A_safe n_safe c_safe safe) : Calls Try.prog 5 #[.slice A_all n_all c_all, .slice A_had n_had c_had, .slice A_safe n_safe c_safe] w (fun e w' => e = .returned (.bool true) ∧ St H w' (L)) := by
  have := h_all.len; have := h_all.le; have : n_all * 32 ≤ 140737488351232 := h_all.bnd
  have := h_had.len; have := h_had.le; have := h_had.bnd
  have := h_safe.len; have := h_safe.le; have := h_safe.bnd
  refine enter (args := [.slice A_all n_all c_all, .slice A_had n_had c_had, .slice A_safe n_safe c_safe]) (N := 140) Try.func5 rfl rfl rfl ?_
  refine c_seq ?_
  refine c_region ?_
  refine st (v := .bool false) (x_assign .const) ?_
  refine c_nil ?_
  refine n_then ?_
  refine c_seq ?_
  refine c_seq ?_
  refine c_region ?_
  refine st_c cb10 .func (evs0 ) (awake_spec hs  ) ?_
  rintro e w1 ⟨rfl, hs2⟩
  refine ⟨_, rfl, ?_⟩
  refine st (v := .bool false) (x_not (b := true) (.tmp rfl rfl)) ?_
  refine st (v := .bool false) (x_move (.tmp rfl rfl)) ?_
  refine g_yes (yl (dj := 23) (b := false) rfl rfl rfl) ?_
  refine st (v := .slice A_all n_all c_all) (x_move (.tmp rfl rfl)) ?_
  refine g_yes (yl (dj := 23) (b := false) rfl rfl rfl) ?_
  refine st (v := .int .i64 ((n_all : Nat) : Int)) (x_len (n := n_all) Try.underlying29 (.tmp rfl rfl)) ?_
  refine g_yes (yl (dj := 23) (b := false) rfl rfl rfl) ?_
  refine st (v := .bool (decide ((60 : Int) < ((n_all : Nat) : Int)))) (x_gtr (k := .i64) (a := ((n_all : Nat) : Int)) (b := 60) (.tmp rfl rfl) .const) ?_
  refine st (v := .bool (decide ((60 : Int) < ((n_all : Nat) : Int)))) (x_pick_f (.tmp rfl rfl) (.tmp rfl rfl)) ?_
  refine st (v := .bool (decide ((60 : Int) < ((n_all : Nat) : Int)))) (x_move (.tmp rfl rfl)) ?_
  rcases Bool.eq_false_or_eq_true (decide ((60 : Int) < ((n_all : Nat) : Int))) with hc3 | hc3
  · have hp3 : (60 : Int) < ((n_all : Nat) : Int) := of_decide_eq_true hc3
    refine g_no (yl (dj := 28) (b := true) rfl rfl (congrArg Value.bool hc3)) rfl ?_
    refine g_no (yl (dj := 28) (b := true) rfl rfl (congrArg Value.bool hc3)) rfl ?_
    refine g_no (yl (dj := 28) (b := true) rfl rfl (congrArg Value.bool hc3)) rfl ?_
    refine st (v := .bool true) (x_pick_t (.tmp rfl (congrArg Value.bool hc3)) .const) ?_
    refine st (v := .bool true) (x_move (.tmp rfl rfl)) ?_
    refine g_no (yl (dj := 33) (b := true) rfl rfl rfl) rfl ?_
    refine g_no (yl (dj := 33) (b := true) rfl rfl rfl) rfl ?_
    refine g_no (yl (dj := 33) (b := true) rfl rfl rfl) rfl ?_
    refine st (v := .bool true) (x_pick_t (.tmp rfl rfl) .const) ?_
    refine c_nil ?_
    refine n_then ?_
    refine c_cond_t (t := true) (.tmp rfl rfl) rfl ?_
    refine c_seq ?_
    refine c_region ?_
    refine st_c cb10 .func (evs0 ) (awake_spec hs2  ) ?_
    rintro e w4 ⟨rfl, hs5⟩
    refine ⟨_, rfl, ?_⟩
    refine st (v := .bool true) (x_assign (.tmp rfl rfl)) ?_
    refine c_nil ?_
    refine n_then ?_
    refine c_ret ?_
    refine r_then ?_
    refine leave_ret (res_one (v := .bool true) rfl (.mk rfl rfl)) ?_
    exact ⟨rfl, hs5⟩
  · have hp3 : ¬ ((60 : Int) < ((n_all : Nat) : Int)) := of_decide_eq_false hc3
    refine g_yes (yl (dj := 28) (b := false) rfl rfl (congrArg Value.bool hc3)) ?_
    refine st (v := .slice A_had n_had c_had) (x_move (.tmp rfl rfl)) ?_
    refine g_yes (yl (dj := 28) (b := false) rfl rfl (congrArg Value.bool hc3)) ?_
    refine st (v := .int .i64 ((n_had : Nat) : Int)) (x_len (n := n_had) Try.underlying40 (.tmp rfl rfl)) ?_
    refine g_yes (yl (dj := 28) (b := false) rfl rfl (congrArg Value.bool hc3)) ?_
    refine st (v := .bool (decide ((((n_had : Nat) : Int) : Int) = 0))) (x_eql (k := .i64) (a := ((n_had : Nat) : Int)) (b := 0) (.tmp rfl rfl) .const) ?_
    refine st (v := .bool (decide ((((n_had : Nat) : Int) : Int) = 0))) (x_pick_f (.tmp rfl (congrArg Value.bool hc3)) (.tmp rfl rfl)) ?_
    refine st (v := .bool (decide ((((n_had : Nat) : Int) : Int) = 0))) (x_move (.tmp rfl rfl)) ?_
    rcases Bool.eq_false_or_eq_true (decide ((((n_had : Nat) : Int) : Int) = 0)) with hc6 | hc6
    · have hp6 : (((n_had : Nat) : Int) : Int) = 0 := of_decide_eq_true hc6
      refine g_no (yl (dj := 33) (b := true) rfl rfl (congrArg Value.bool hc6)) rfl ?_
      refine g_no (yl (dj := 33) (b := true) rfl rfl (congrArg Value.bool hc6)) rfl ?_
      refine g_no (yl (dj := 33) (b := true) rfl rfl (congrArg Value.bool hc6)) rfl ?_
      refine st (v := .bool true) (x_pick_t (.tmp rfl (congrArg Value.bool hc6)) .const) ?_
      refine c_nil ?_
      refine n_then ?_
      refine c_cond_t (t := true) (.tmp rfl rfl) rfl ?_
      refine c_seq ?_
      refine c_region ?_
      refine st_c cb10 .func (evs0 ) (awake_spec hs2  ) ?_
      rintro e w7 ⟨rfl, hs8⟩
      refine ⟨_, rfl, ?_⟩
      refine st (v := .bool true) (x_assign (.tmp rfl rfl)) ?_
      refine c_nil ?_
      refine n_then ?_
      refine c_ret ?_
      refine r_then ?_
      refine leave_ret (res_one (v := .bool true) rfl (.mk rfl rfl)) ?_
      exact ⟨rfl, hs8⟩
    · have hp6 : ¬ ((((n_had : Nat) : Int) : Int) = 0) := of_decide_eq_false hc6
      refine g_yes (yl (dj := 33) (b := false) rfl rfl (congrArg Value.bool hc6)) ?_
      refine st (v := .slice A_had n_had c_had) (x_move (.tmp rfl rfl)) ?_
      refine g_yes (yl (dj := 33) (b := false) rfl rfl (congrArg Value.bool hc6)) ?_
      refine st (v := .int .i64 ((n_had : Nat) : Int)) (x_len (n := n_had) Try.underlying40 (.tmp rfl rfl)) ?_
      refine g_yes (yl (dj := 33) (b := false) rfl rfl (congrArg Value.bool hc6)) ?_
      refine st (v := .bool (decide ((16 : Int) < ((n_had : Nat) : Int)))) (x_gtr (k := .i64) (a := ((n_had : Nat) : Int)) (b := 16) (.tmp rfl rfl) .const) ?_
      refine st (v := .bool (decide ((16 : Int) < ((n_had : Nat) : Int)))) (x_pick_f (.tmp rfl (congrArg Value.bool hc6)) (.tmp rfl rfl)) ?_
      refine c_nil ?_
      refine n_then ?_
      rcases Bool.eq_false_or_eq_true (decide ((16 : Int) < ((n_had : Nat) : Int))) with hc9 | hc9
      · have hp9 : (16 : Int) < ((n_had : Nat) : Int) := of_decide_eq_true hc9
        refine c_cond_t (t := true) (.tmp rfl (congrArg Value.bool hc9)) rfl ?_
        refine c_seq ?_
        refine c_region ?_
        refine st_c cb10 .func (evs0 ) (awake_spec hs2  ) ?_
        rintro e w10 ⟨rfl, hs11⟩
        refine ⟨_, rfl, ?_⟩
        refine st (v := .bool true) (x_assign (.tmp rfl rfl)) ?_
        refine c_nil ?_
        refine n_then ?_
        refine c_ret ?_
        refine r_then ?_
        refine leave_ret (res_one (v := .bool true) rfl (.mk rfl rfl)) ?_
        exact ⟨rfl, hs11⟩
      · have hp9 : ¬ ((16 : Int) < ((n_had : Nat) : Int)) := of_decide_eq_false hc9
        refine c_cond_f (t := false) (.tmp rfl (congrArg Value.bool hc9)) rfl ?_
        refine c_skip ?_
        refine n_then ?_
        refine c_seq ?_
        refine c_region ?_
        refine st (v := .agg #[.int .u64 3, .int .i64 1]) (bl25 (ps := [(0, .int .u64 3), (1, .int .i64 1)]) (.cons .const (.cons .const Evp.nil)) rfl) ?_
        refine st_m (al25 (cs := [.int .u64 0, .int .i64 0]) hs2 rfl) ?_
        rintro _ w13 ⟨g12, rfl, hs15⟩
        refine st_m0 (sto25 (cs' := [.int .u64 3, .int .i64 1]) (i := 0) hs15 (v := .agg #[.int .u64 3, .int .i64 1]) (.tmp rfl rfl) (.tmp rfl rfl) rfl (Nat.le_of_ble_eq_true rfl) (oneA rfl) rfl) ?_
        rintro w16 hs18
        refine c_nil ?_
        refine n_then ?_
        refine c_seq ?_
        refine c_region ?_
        refine st (v := .slice A_all n_all c_all) (x_move (.tmp rfl rfl)) ?_
        refine st (v := .int .i64 ((n_all : Nat) : Int)) (x_len (n := n_all) Try.underlying29 (.tmp rfl rfl)) ?_
        refine st (v := .int .i64 ((n_all : Nat) : Int)) (x_assign (.tmp rfl rfl)) ?_
        refine c_nil ?_
        refine n_then ?_
        refine c_seq ?_
        refine c_region ?_
        refine st (v := .int .i64 0) (x_assign .const) ?_
        refine c_nil ?_
        refine n_then ?_
        refine c_seq ?_
        refine c_seq ?_
        refine c_region ?_
        refine st (v := .int .i64 0) (x_assign .const) ?_
        refine c_nil ?_
        refine n_then ?_
        refine c_block ?_
        refine c_loop (fun ρ w mm => ∃ (least : Nat) (most : Nat) (i : Nat), ρ 0 = .slice A_all n_all c_all ∧ ρ 1 = .slice A_had n_had c_had ∧ ρ 2 = .slice A_safe n_safe c_safe ∧ ρ 7 = .pointer (some ⟨g12, 0, none⟩) ∧ ρ 8 = .int .i64 ((least : Nat) : Int) ∧ ρ 9 = .int .i64 ((most : Nat) : Int) ∧ ρ 10 = .int .i64 ((i : Nat) : Int) ∧ (i ≤ n_had) ∧ (least ≤ n_all) ∧ (most ≤ n_all) ∧ (∀ j, j < i → least ≤ (had.getD j 0 % (n_all + 1)) ∧ (had.getD j 0 % (n_all + 1)) ≤ most) ∧ ((i = 0 ∧ most = 0) ∨ ∃ j, j < i ∧ (had.getD j 0 % (n_all + 1)) = most) ∧ St H w (obj g12 25 [.int .u64 3, .int .i64 1] :: L) ∧ mm = n_had - i) _ ⟨n_all, 0, 0, rfl, rfl, rfl, rfl, rfl, rfl, rfl, (by omega), (by omega), (by omega), (fun j hj => absurd hj (Nat.not_lt_zero _)), (.inl ⟨rfl, rfl⟩), hs18, rfl⟩ ?_
        rintro ρ w mm ⟨least, most, i, hρ20, hρ21, hρ22, hρ23, hρ24, hρ25, hρ26, hi, hln, hmn, hle, hmo, hs27, rfl⟩
        refine c_seq ?_
        refine c_seq ?_
        refine c_region ?_
        refine st (v := .int .i64 ((i : Nat) : Int)) (x_move (.tmp rfl hρ26)) ?_
        refine st (v := .slice A_had n_had c_had) (x_move (.tmp rfl hρ21)) ?_
        refine st (v := .int .i64 ((n_had : Nat) : Int)) (x_len (n := n_had) Try.underlying40 (.tmp rfl rfl)) ?_
        refine st (v := .bool (decide ((((i : Nat) : Int) : Int) < ((n_had : Nat) : Int)))) (x_lss (k := .i64) (a := ((i : Nat) : Int)) (b := ((n_had : Nat) : Int)) (.tmp rfl rfl) (.tmp rfl rfl)) ?_
        refine c_nil ?_
        refine n_then ?_
        rcases Bool.eq_false_or_eq_true (decide ((((i : Nat) : Int) : Int) < ((n_had : Nat) : Int))) with hc28 | hc28
        · have hp28 : (((i : Nat) : Int) : Int) < ((n_had : Nat) : Int) := of_decide_eq_true hc28
          refine c_cond_t (t := true) (.tmp rfl (congrArg Value.bool hc28)) rfl ?_
          refine c_skip ?_
          refine n_then ?_
          refine c_seq ?_
          refine c_block ?_
          refine c_seq ?_
          refine c_region ?_
          refine st (v := .slice A_had n_had c_had) (x_move (.tmp rfl hρ21)) ?_
          refine st (v := .int .i64 ((i : Nat) : Int)) (x_move (.tmp rfl hρ26)) ?_
          obtain ⟨b29, o30, hA31, hc32⟩ := h_had.toBs.get (i := i) (by omega)
          refine st (v := .pointer (some ⟨b29, (o30 + i * 1), none⟩)) (ixo40 (.tmp rfl rfl) hA31 (i := ((i : Nat) : Int)) (.tmp rfl rfl) (by omega) (by omega) rfl) ?_
          refine st (v := .int .u8 ((had.getD i 0 : Nat) : Int)) (ld5 (.tmp rfl rfl) (hc32 hs27)) ?_
          have : (had.getD i 0) < 256 := (h_had.toBs.lt.getD _)
          refine st (v := .int .i64 ((had.getD i 0 : Nat) : Int)) (x_conv (k := .u8) (a := ((had.getD i 0 : Nat) : Int)) Try.underlying5 Try.underlying3 (.tmp rfl rfl) (w64 (by omega) (by omega))) ?_
          refine st (v := .slice A_all n_all c_all) (x_move (.tmp rfl hρ20)) ?_
          refine st (v := .int .i64 ((n_all : Nat) : Int)) (x_len (n := n_all) Try.underlying29 (.tmp rfl rfl)) ?_
          refine st (v := .int .i64 (((n_all + 1) : Nat) : Int)) (x_add (k := .i64) (a := ((n_all : Nat) : Int)) (b := 1) (.tmp rfl rfl) .const ((w64 (by omega) (by omega)).trans (by omega))) ?_
          have : (had.getD i 0) % (n_all + 1) < (n_all + 1) := Nat.mod_lt _ (by omega)
          refine st (v := .int .i64 ((((had.getD i 0) % (n_all + 1)) : Nat) : Int)) (x_remN (k := .i64) (m := (had.getD i 0)) (n := (n_all + 1)) (.tmp rfl rfl) (.tmp rfl rfl) (by omega)) ?_
          refine st (v := .int .i64 ((((had.getD i 0) % (n_all + 1)) : Nat) : Int)) (x_assign (.tmp rfl rfl)) ?_
          refine c_nil ?_
          refine n_then ?_
          refine c_seq ?_
          refine c_seq ?_
          refine c_region ?_
          refine st (v := .int .i64 ((((had.getD i 0) % (n_all + 1)) : Nat) : Int)) (x_move (.tmp rfl rfl)) ?_
          refine st (v := .int .i64 ((least : Nat) : Int)) (x_move (.tmp rfl hρ24)) ?_
          refine st (v := .bool (decide ((((((had.getD i 0) % (n_all + 1)) : Nat) : Int) : Int) < ((least : Nat) : Int)))) (x_lss (k := .i64) (a := ((((had.getD i 0) % (n_all + 1)) : Nat) : Int)) (b := ((least : Nat) : Int)) (.tmp rfl rfl) (.tmp rfl rfl)) ?_
          refine c_nil ?_
          refine n_then ?_
          rcases Bool.eq_false_or_eq_true (decide ((((((had.getD i 0) % (n_all + 1)) : Nat) : Int) : Int) < ((least : Nat) : Int))) with hc33 | hc33
          · have hp33 : (((((had.getD i 0) % (n_all + 1)) : Nat) : Int) : Int) < ((least : Nat) : Int) := of_decide_eq_true hc33
            refine c_cond_t (t := true) (.tmp rfl (congrArg Value.bool hc33)) rfl ?_
            refine c_region ?_
            refine st (v := .int .i64 ((((had.getD i 0) % (n_all + 1)) : Nat) : Int)) (x_move (.tmp rfl rfl)) ?_
            refine st (v := .int .i64 ((((had.getD i 0) % (n_all + 1)) : Nat) : Int)) (x_assign (.tmp rfl rfl)) ?_
            refine c_nil ?_
            refine n_then ?_
            refine c_seq ?_
            refine c_region ?_
            refine st (v := .int .i64 ((((had.getD i 0) % (n_all + 1)) : Nat) : Int)) (x_move (.tmp rfl rfl)) ?_
            refine st (v := .int .i64 ((most : Nat) : Int)) (x_move (.tmp rfl hρ25)) ?_
            refine st (v := .bool (decide ((((most : Nat) : Int) : Int) < ((((had.getD i 0) % (n_all + 1)) : Nat) : Int)))) (x_gtr (k := .i64) (a := ((((had.getD i 0) % (n_all + 1)) : Nat) : Int)) (b := ((most : Nat) : Int)) (.tmp rfl rfl) (.tmp rfl rfl)) ?_
            refine c_nil ?_
            refine n_then ?_
            rcases Bool.eq_false_or_eq_true (decide ((((most : Nat) : Int) : Int) < ((((had.getD i 0) % (n_all + 1)) : Nat) : Int))) with hc34 | hc34
            · have hp34 : (((most : Nat) : Int) : Int) < ((((had.getD i 0) % (n_all + 1)) : Nat) : Int) := of_decide_eq_true hc34
              refine c_cond_t (t := true) (.tmp rfl (congrArg Value.bool hc34)) rfl ?_
              refine c_region ?_
              refine st (v := .int .i64 ((((had.getD i 0) % (n_all + 1)) : Nat) : Int)) (x_move (.tmp rfl rfl)) ?_
              refine st (v := .int .i64 ((((had.getD i 0) % (n_all + 1)) : Nat) : Int)) (x_assign (.tmp rfl rfl)) ?_
              refine c_nil ?_
              refine n_block ?_
              refine n_then ?_
              refine c_region ?_
              refine st (v := .int .i64 ((i : Nat) : Int)) (x_move (.tmp rfl hρ26)) ?_
              refine st (v := .int .i64 (((i + 1) : Nat) : Int)) (x_add (k := .i64) (a := ((i : Nat) : Int)) (b := 1) (.tmp rfl rfl) .const ((w64 (by omega) (by omega)).trans (by omega))) ?_
              refine st (v := .int .i64 (((i + 1) : Nat) : Int)) (x_assign (.tmp rfl rfl)) ?_
              refine c_nil ?_
              refine n_then ⟨_, _, rfl, ?_, ((had.getD i 0) % (n_all + 1)), ((had.getD i 0) % (n_all + 1)), (i + 1), hρ20, hρ21, hρ22, hρ23, rfl, rfl, rfl, (by omega), (by omega), (by omega), (fun j hj => by rcases Nat.lt_succ_iff_lt_or_eq.1 hj with h | rfl; have := hle j h; omega; omega), (by rcases hmo with h | ⟨j, hj, h⟩; first | exact .inr ⟨i, by omega, by omega⟩ ; first | exact .inr ⟨j, by omega, by omega⟩ | exact .inr ⟨i, by omega, by omega⟩), hs27, rfl⟩
              omega
            · have hp34 : ¬ ((((most : Nat) : Int) : Int) < ((((had.getD i 0) % (n_all + 1)) : Nat) : Int)) := of_decide_eq_false hc34
              refine c_cond_f (t := false) (.tmp rfl (congrArg Value.bool hc34)) rfl ?_
              refine c_skip ?_
              refine n_block ?_
              refine n_then ?_
              refine c_region ?_
              refine st (v := .int .i64 ((i : Nat) : Int)) (x_move (.tmp rfl hρ26)) ?_
              refine st (v := .int .i64 (((i + 1) : Nat) : Int)) (x_add (k := .i64) (a := ((i : Nat) : Int)) (b := 1) (.tmp rfl rfl) .const ((w64 (by omega) (by omega)).trans (by omega))) ?_
              refine st (v := .int .i64 (((i + 1) : Nat) : Int)) (x_assign (.tmp rfl rfl)) ?_
              refine c_nil ?_
              refine n_then ⟨_, _, rfl, ?_, ((had.getD i 0) % (n_all + 1)), most, (i + 1), hρ20, hρ21, hρ22, hρ23, rfl, hρ25, rfl, (by omega), (by omega), (by omega), (fun j hj => by rcases Nat.lt_succ_iff_lt_or_eq.1 hj with h | rfl; have := hle j h; omega; omega), (by rcases hmo with h | ⟨j, hj, h⟩; first | exact .inr ⟨i, by omega, by omega⟩ ; first | exact .inr ⟨j, by omega, by omega⟩ | exact .inr ⟨i, by omega, by omega⟩), hs27, rfl⟩
              omega
          · have hp33 : ¬ ((((((had.getD i 0) % (n_all + 1)) : Nat) : Int) : Int) < ((least : Nat) : Int)) := of_decide_eq_false hc33
            refine c_cond_f (t := false) (.tmp rfl (congrArg Value.bool hc33)) rfl ?_
            refine c_skip ?_
            refine n_then ?_
            refine c_seq ?_
            refine c_region ?_
            refine st (v := .int .i64 ((((had.getD i 0) % (n_all + 1)) : Nat) : Int)) (x_move (.tmp rfl rfl)) ?_
            refine st (v := .int .i64 ((most : Nat) : Int)) (x_move (.tmp rfl hρ25)) ?_
            refine st (v := .bool (decide ((((most : Nat) : Int) : Int) < ((((had.getD i 0) % (n_all + 1)) : Nat) : Int)))) (x_gtr (k := .i64) (a := ((((had.getD i 0) % (n_all + 1)) : Nat) : Int)) (b := ((most : Nat) : Int)) (.tmp rfl rfl) (.tmp rfl rfl)) ?_
            refine c_nil ?_
            refine n_then ?_
            rcases Bool.eq_false_or_eq_true (decide ((((most : Nat) : Int) : Int) < ((((had.getD i 0) % (n_all + 1)) : Nat) : Int))) with hc35 | hc35
            · have hp35 : (((most : Nat) : Int) : Int) < ((((had.getD i 0) % (n_all + 1)) : Nat) : Int) := of_decide_eq_true hc35
              refine c_cond_t (t := true) (.tmp rfl (congrArg Value.bool hc35)) rfl ?_
              refine c_region ?_
              refine st (v := .int .i64 ((((had.getD i 0) % (n_all + 1)) : Nat) : Int)) (x_move (.tmp rfl rfl)) ?_
              refine st (v := .int .i64 ((((had.getD i 0) % (n_all + 1)) : Nat) : Int)) (x_assign (.tmp rfl rfl)) ?_
              refine c_nil ?_
              refine n_block ?_
              refine n_then ?_
              refine c_region ?_
              refine st (v := .int .i64 ((i : Nat) : Int)) (x_move (.tmp rfl hρ26)) ?_
              refine st (v := .int .i64 (((i + 1) : Nat) : Int)) (x_add (k := .i64) (a := ((i : Nat) : Int)) (b := 1) (.tmp rfl rfl) .const ((w64 (by omega) (by omega)).trans (by omega))) ?_
              refine st (v := .int .i64 (((i + 1) : Nat) : Int)) (x_assign (.tmp rfl rfl)) ?_
              refine c_nil ?_
              refine n_then ⟨_, _, rfl, ?_, least, ((had.getD i 0) % (n_all + 1)), (i + 1), hρ20, hρ21, hρ22, hρ23, hρ24, rfl, rfl, (by omega), (by omega), (by omega), (fun j hj => by rcases Nat.lt_succ_iff_lt_or_eq.1 hj with h | rfl; have := hle j h; omega; omega), (by rcases hmo with h | ⟨j, hj, h⟩; first | exact .inr ⟨i, by omega, by omega⟩ ; first | exact .inr ⟨j, by omega, by omega⟩ | exact .inr ⟨i, by omega, by omega⟩), hs27, rfl⟩
              omega
            · have hp35 : ¬ ((((most : Nat) : Int) : Int) < ((((had.getD i 0) % (n_all + 1)) : Nat) : Int)) := of_decide_eq_false hc35
              refine c_cond_f (t := false) (.tmp rfl (congrArg Value.bool hc35)) rfl ?_
              refine c_skip ?_
              refine n_block ?_
              refine n_then ?_
              refine c_region ?_
              refine st (v := .int .i64 ((i : Nat) : Int)) (x_move (.tmp rfl hρ26)) ?_
              refine st (v := .int .i64 (((i + 1) : Nat) : Int)) (x_add (k := .i64) (a := ((i : Nat) : Int)) (b := 1) (.tmp rfl rfl) .const ((w64 (by omega) (by omega)).trans (by omega))) ?_
              refine st (v := .int .i64 (((i + 1) : Nat) : Int)) (x_assign (.tmp rfl rfl)) ?_
              refine c_nil ?_
              refine n_then ⟨_, _, rfl, ?_, least, most, (i + 1), hρ20, hρ21, hρ22, hρ23, hρ24, hρ25, rfl, (by omega), (by omega), (by omega), (fun j hj => by rcases Nat.lt_succ_iff_lt_or_eq.1 hj with h | rfl; have := hle j h; omega; omega), (by rcases hmo with h | ⟨j, hj, h⟩; first | exact .inr ⟨i, by omega, by omega⟩ ; first | exact .inr ⟨j, by omega, by omega⟩ | exact .inr ⟨i, by omega, by omega⟩), hs27, rfl⟩
              omega
        · have hp28 : ¬ ((((i : Nat) : Int) : Int) < ((n_had : Nat) : Int)) := of_decide_eq_false hc28
          refine c_cond_f (t := false) (.tmp rfl (congrArg Value.bool hc28)) rfl ?_
          refine c_exit ?_
          refine x_then ?_
          refine x_then ?_
          refine x_here ?_
          refine n_then ?_
          refine c_seq ?_
          refine c_region ?_
          refine st (v := .slice none 0 0) (x_assign .const) ?_
          refine c_nil ?_
          refine n_then ?_
          refine c_seq ?_
          refine c_seq ?_
          refine c_region ?_
          refine st (v := .int .i64 0) (x_assign .const) ?_
          refine c_nil ?_
          refine n_then ?_
          refine c_block ?_
          have hs37 : St H _ (row 38 4 (.slice none 0 0) (([] : List GState).length) [] :: obj g12 25 [.int .u64 3, .int .i64 1] :: L) := hs27.krowNil 38 kState
          have : ([] : List GState).length = 0 := rfl
          refine c_loop (fun ρ w mm => ∃ (l : List GState) (v_l : Value) (c_l : List Value) (q : Nat), ρ 0 = .slice A_all n_all c_all ∧ ρ 1 = .slice A_had n_had c_had ∧ ρ 2 = .slice A_safe n_safe c_safe ∧ ρ 7 = .pointer (some ⟨g12, 0, none⟩) ∧ ρ 8 = .int .i64 ((least : Nat) : Int) ∧ ρ 9 = .int .i64 ((most : Nat) : Int) ∧ ρ 12 = v_l ∧ ρ 13 = .int .i64 ((q : Nat) : Int) ∧ (RowOk kState.sz v_l l.length c_l) ∧ (kState.toKn.rows H l c_l) ∧ (q ≤ n_had) ∧ (l.length = q) ∧ (∀ j, j < q → ∃ f, f ≤ least ∧ l[j]? = some (mkS all f ((fun j => had.getD j 0 % (n_all + 1)) j))) ∧ St H w (row 38 4 v_l l.length c_l :: obj g12 25 [.int .u64 3, .int .i64 1] :: L) ∧ mm = n_had - q) _ ⟨([] : List GState), (.slice none 0 0), [], 0, hρ20, hρ21, hρ22, hρ23, hρ24, hρ25, rfl, rfl, (RowOk.knil kState), (Kn.rows_nil _ _), (by omega), rfl, (fun j hj => absurd hj (Nat.not_lt_zero _)), ((hs37.pick 1 rfl rfl).pick 1 rfl rfl), rfl⟩ ?_
          rintro ρ w mm ⟨l, v_l, c_l, q, hρ39, hρ40, hρ41, hρ42, hρ43, hρ44, hρ45, hρ46, ok_l, hk_l, hq, hll, hst, hs47, rfl⟩
          refine c_seq ?_
          refine c_seq ?_
          refine c_region ?_
          refine st (v := .int .i64 ((q : Nat) : Int)) (x_move (.tmp rfl hρ46)) ?_
          refine st (v := .slice A_had n_had c_had) (x_move (.tmp rfl hρ40)) ?_
          refine st (v := .int .i64 ((n_had : Nat) : Int)) (x_len (n := n_had) Try.underlying40 (.tmp rfl rfl)) ?_
          refine st (v := .bool (decide ((((q : Nat) : Int) : Int) < ((n_had : Nat) : Int)))) (x_lss (k := .i64) (a := ((q : Nat) : Int)) (b := ((n_had : Nat) : Int)) (.tmp rfl rfl) (.tmp rfl rfl)) ?_
          refine c_nil ?_
          refine n_then ?_
          rcases Bool.eq_false_or_eq_true (decide ((((q : Nat) : Int) : Int) < ((n_had : Nat) : Int))) with hc48 | hc48
          · have hp48 : (((q : Nat) : Int) : Int) < ((n_had : Nat) : Int) := of_decide_eq_true hc48
            refine c_cond_t (t := true) (.tmp rfl (congrArg Value.bool hc48)) rfl ?_
            refine c_skip ?_
            refine n_then ?_
            refine c_seq ?_
            refine c_block ?_
            refine c_seq ?_
            refine c_region ?_
            have hkq := hle q (by omega)
            refine st (v := .slice A_had n_had c_had) (x_move (.tmp rfl hρ40)) ?_
            refine st (v := .int .i64 ((q : Nat) : Int)) (x_move (.tmp rfl hρ46)) ?_
            obtain ⟨b49, o50, hA51, hc52⟩ := h_had.toBs.get (i := q) (by omega)
            refine st (v := .pointer (some ⟨b49, (o50 + q * 1), none⟩)) (ixo40 (.tmp rfl rfl) hA51 (i := ((q : Nat) : Int)) (.tmp rfl rfl) (by omega) (by omega) rfl) ?_
            refine st (v := .int .u8 ((had.getD q 0 : Nat) : Int)) (ld5 (.tmp rfl rfl) (hc52 hs47)) ?_
            have : (had.getD q 0) < 256 := (h_had.toBs.lt.getD _)
            refine st (v := .int .i64 ((had.getD q 0 : Nat) : Int)) (x_conv (k := .u8) (a := ((had.getD q 0 : Nat) : Int)) Try.underlying5 Try.underlying3 (.tmp rfl rfl) (w64 (by omega) (by omega))) ?_
            refine st (v := .slice A_all n_all c_all) (x_move (.tmp rfl hρ39)) ?_
            refine st (v := .int .i64 ((n_all : Nat) : Int)) (x_len (n := n_all) Try.underlying29 (.tmp rfl rfl)) ?_
            refine st (v := .int .i64 (((n_all + 1) : Nat) : Int)) (x_add (k := .i64) (a := ((n_all : Nat) : Int)) (b := 1) (.tmp rfl rfl) .const ((w64 (by omega) (by omega)).trans (by omega))) ?_
            have : (had.getD q 0) % (n_all + 1) < (n_all + 1) := Nat.mod_lt _ (by omega)
            refine st (v := .int .i64 ((((had.getD q 0) % (n_all + 1)) : Nat) : Int)) (x_remN (k := .i64) (m := (had.getD q 0)) (n := (n_all + 1)) (.tmp rfl rfl) (.tmp rfl rfl) (by omega)) ?_
            refine st (v := .int .i64 ((((had.getD q 0) % (n_all + 1)) : Nat) : Int)) (x_assign (.tmp rfl rfl)) ?_
            refine c_nil ?_
            refine n_then ?_
            refine c_seq ?_
            refine c_region ?_
            refine st (v := .int .i64 0) (x_assign .const) ?_
            refine c_nil ?_
            refine n_then ?_
            refine c_seq ?_
            refine c_seq ?_
            refine c_region ?_
            refine st (v := .int .i64 ((q : Nat) : Int)) (x_move (.tmp rfl hρ46)) ?_
            refine st (v := .slice A_safe n_safe c_safe) (x_move (.tmp rfl hρ41)) ?_
            refine st (v := .int .i64 ((n_safe : Nat) : Int)) (x_len (n := n_safe) Try.underlying40 (.tmp rfl rfl)) ?_
            refine st (v := .bool (decide ((((q : Nat) : Int) : Int) < ((n_safe : Nat) : Int)))) (x_lss (k := .i64) (a := ((q : Nat) : Int)) (b := ((n_safe : Nat) : Int)) (.tmp rfl rfl) (.tmp rfl rfl)) ?_
            refine c_nil ?_
            refine n_then ?_
            rcases Bool.eq_false_or_eq_true (decide ((((q : Nat) : Int) : Int) < ((n_safe : Nat) : Int))) with hc53 | hc53
            · have hp53 : (((q : Nat) : Int) : Int) < ((n_safe : Nat) : Int) := of_decide_eq_true hc53
              refine c_cond_t (t := true) (.tmp rfl (congrArg Value.bool hc53)) rfl ?_
              refine c_region ?_
              refine st (v := .slice A_safe n_safe c_safe) (x_move (.tmp rfl hρ41)) ?_
              refine st (v := .int .i64 ((q : Nat) : Int)) (x_move (.tmp rfl hρ46)) ?_
              obtain ⟨b54, o55, hA56, hc57⟩ := h_safe.toBs.get (i := q) (by omega)
              refine st (v := .pointer (some ⟨b54, (o55 + q * 1), none⟩)) (ixo40 (.tmp rfl rfl) hA56 (i := ((q : Nat) : Int)) (.tmp rfl rfl) (by omega) (by omega) rfl) ?_
              refine st (v := .int .u8 ((safe.getD q 0 : Nat) : Int)) (ld5 (.tmp rfl rfl) (hc57 hs47)) ?_
              have : (safe.getD q 0) < 256 := (h_safe.toBs.lt.getD _)
              refine st (v := .int .i64 ((safe.getD q 0 : Nat) : Int)) (x_conv (k := .u8) (a := ((safe.getD q 0 : Nat) : Int)) Try.underlying5 Try.underlying3 (.tmp rfl rfl) (w64 (by omega) (by omega))) ?_
              refine st (v := .int .i64 ((least : Nat) : Int)) (x_move (.tmp rfl hρ43)) ?_
              refine st (v := .int .i64 (((least + 1) : Nat) : Int)) (x_add (k := .i64) (a := ((least : Nat) : Int)) (b := 1) (.tmp rfl rfl) .const ((w64 (by omega) (by omega)).trans (by omega))) ?_
              have : (safe.getD q 0) % (least + 1) < (least + 1) := Nat.mod_lt _ (by omega)
              refine st (v := .int .i64 ((((safe.getD q 0) % (least + 1)) : Nat) : Int)) (x_remN (k := .i64) (m := (safe.getD q 0)) (n := (least + 1)) (.tmp rfl rfl) (.tmp rfl rfl) (by omega)) ?_
              refine st (v := .int .i64 ((((safe.getD q 0) % (least + 1)) : Nat) : Int)) (x_assign (.tmp rfl rfl)) ?_
              refine c_nil ?_
              refine n_then ?_
              refine s_region (L := row 38 4 v_l l.length c_l :: obj g12 25 [.int .u64 3, .int .i64 1] :: L) (L' := obj g12 25 [.int .u64 3, .int .i64 1] :: L) none [(0, true), (1, true), (2, true), (3, true), (4, true), (5, true), (6, true), (7, true), (8, false), (9, false), (10, true)] mixed hs47 (fun u hu => hu.drop) (by kernel_rfl) ?_
              intro w58 hs59
              refine s_st (k := 0) (v := v_l) rfl (fun w hs => (x_move (.tmp rfl hρ45))) ?_
              refine s_st (k := 1) (v := .agg #[.int .u64 3, .int .i64 1]) rfl (fun w hs => (ld25 (cs := [.int .u64 3, .int .i64 1]) (.tmp rfl hρ42) (hs.at_ 0 rfl (0) rfl) rfl)) ?_
              refine s_st (k := 2) (v := .int .i64 ((((safe.getD q 0) % (least + 1)) : Nat) : Int)) rfl (fun w hs => (x_move (.tmp rfl rfl))) ?_
              refine s_st (k := 3) (v := .slice A_all n_all c_all) rfl (fun w hs => (x_move (.tmp rfl hρ39))) ?_
              refine s_st (k := 4) (v := .int .i64 ((((safe.getD q 0) % (least + 1)) : Nat) : Int)) rfl (fun w hs => (x_move (.tmp rfl rfl))) ?_
              refine s_st (k := 5) (v := .int .i64 ((((had.getD q 0) % (n_all + 1)) : Nat) : Int)) rfl (fun w hs => (x_move (.tmp rfl rfl))) ?_
              refine s_st (k := 6) (v := .slice (cutA A_all c_all ((safe.getD q 0) % (least + 1)) 2) (((had.getD q 0) % (n_all + 1)) - ((safe.getD q 0) % (least + 1))) (c_all - ((safe.getD q 0) % (least + 1)))) rfl (fun w hs => (sl_lh (d := kItem) Try.underlying29 inf47 (a := ((((safe.getD q 0) % (least + 1)) : Nat) : Int)) (b := ((((had.getD q 0) % (n_all + 1)) : Nat) : Int)) (.tmp rfl rfl) (.tmp rfl rfl) (.tmp rfl rfl) (by omega) (by omega) (by omega))) ?_
              refine s_st (k := 7) (v := .agg #[.int .u64 3, .int .i64 1, .int .i64 ((((safe.getD q 0) % (least + 1)) : Nat) : Int), .slice (cutA A_all c_all ((safe.getD q 0) % (least + 1)) 2) (((had.getD q 0) % (n_all + 1)) - ((safe.getD q 0) % (least + 1))) (c_all - ((safe.getD q 0) % (least + 1)))]) rfl (fun w hs => (bl38 (ps := [(0, .agg #[.int .u64 3, .int .i64 1]), (1, .int .i64 ((((safe.getD q 0) % (least + 1)) : Nat) : Int)), (2, .slice (cutA A_all c_all ((safe.getD q 0) % (least + 1)) 2) (((had.getD q 0) % (n_all + 1)) - ((safe.getD q 0) % (least + 1))) (c_all - ((safe.getD q 0) % (least + 1))))]) (.cons (.tmp rfl rfl) (.cons (.tmp rfl rfl) (.cons (.tmp rfl rfl) Evp.nil))) rfl)) ?_
              refine s_eff (k := 8) rfl ?_
              refine st_m (m_lit (n := 1) (ps := [(0, .agg #[.int .u64 3, .int .i64 1, .int .i64 ((((safe.getD q 0) % (least + 1)) : Nat) : Int), .slice (cutA A_all c_all ((safe.getD q 0) % (least + 1)) 2) (((had.getD q 0) % (n_all + 1)) - ((safe.getD q 0) % (least + 1))) (c_all - ((safe.getD q 0) % (least + 1)))])]) (cs := [.int .u64 3, .int .i64 1, .int .i64 ((((safe.getD q 0) % (least + 1)) : Nat) : Int), .slice (cutA A_all c_all ((safe.getD q 0) % (least + 1)) 2) (((had.getD q 0) % (n_all + 1)) - ((safe.getD q 0) % (least + 1))) (c_all - ((safe.getD q 0) % (least + 1)))]) Try.underlying22 inf38 (.cons (.tmp rfl rfl) Evp.nil) (by decide) (by decide) rfl rfl hs59) ?_
              rintro _ w61 ⟨g60, rfl, hs63⟩
              refine s_on (S' := fun u => St H u (obj g60 38 [.int .u64 3, .int .i64 1, .int .i64 ((((safe.getD q 0) % (least + 1)) : Nat) : Int), .slice (cutA A_all c_all ((safe.getD q 0) % (least + 1)) 2) (((had.getD q 0) % (n_all + 1)) - ((safe.getD q 0) % (least + 1))) (c_all - ((safe.getD q 0) % (least + 1)))] :: obj g12 25 [.int .u64 3, .int .i64 1] :: L)) (fun u hu => hu.drop) (hs63.pick 1 rfl rfl).drop ?_
              refine s_eff (k := 9) rfl ?_
              have hs64 : St H _ (row 38 4 v_l l.length c_l :: obj g60 38 [.int .u64 3, .int .i64 1, .int .i64 ((((safe.getD q 0) % (least + 1)) : Nat) : Int), .slice (cutA A_all c_all ((safe.getD q 0) % (least + 1)) 2) (((had.getD q 0) % (n_all + 1)) - ((safe.getD q 0) % (least + 1))) (c_all - ((safe.getD q 0) % (least + 1)))] :: obj g12 25 [.int .u64 3, .int .i64 1] :: L) := hs63.pick 1 rfl rfl
              have hr72 : kState.rep H (GState.mk (GViewID.mk 3 1) ((((safe.getD q 0) % (least + 1)) : Nat) : Int) ((all.take ((had.getD q 0) % (n_all + 1))).drop ((safe.getD q 0) % (least + 1)))) [.int .u64 3, .int .i64 1, .int .i64 ((((safe.getD q 0) % (least + 1)) : Nat) : Int), .slice (cutA A_all c_all ((safe.getD q 0) % (least + 1)) 2) (((had.getD q 0) % (n_all + 1)) - ((safe.getD q 0) % (least + 1))) (c_all - ((safe.getD q 0) % (least + 1)))] := ⟨(cutA A_all c_all ((safe.getD q 0) % (least + 1)) 2), (((had.getD q 0) % (n_all + 1)) - ((safe.getD q 0) % (least + 1))), (c_all - ((safe.getD q 0) % (least + 1))), rfl, (show 3 < 18446744073709551616 from by omega), (show IB 1 from ⟨by omega, by omega⟩), (show IB ((((safe.getD q 0) % (least + 1)) : Nat) : Int) from ⟨by omega, by omega⟩), ((h_all.take (k := ((had.getD q 0) % (n_all + 1))) (by omega)).drop (k := ((safe.getD q 0) % (least + 1))) (by omega))⟩
              refine st_m (m_appK (d := kState) (ys := [(GState.mk (GViewID.mk 3 1) ((((safe.getD q 0) % (least + 1)) : Nat) : Int) ((all.take ((had.getD q 0) % (n_all + 1))).drop ((safe.getD q 0) % (least + 1))))]) (news := [.int .u64 3, .int .i64 1, .int .i64 ((((safe.getD q 0) % (least + 1)) : Nat) : Int), .slice (cutA A_all c_all ((safe.getD q 0) % (least + 1)) 2) (((had.getD q 0) % (n_all + 1)) - ((safe.getD q 0) % (least + 1))) (c_all - ((safe.getD q 0) % (least + 1)))]) Try.underlying22 inf38 rfl hs64 ok_l hk_l (.tmp rfl rfl) (.tmp rfl rfl) (Kn.rows_one hr72) rfl (hs64.at_ 1 rfl 0 rfl) (by have : ([(GState.mk (GViewID.mk 3 1) ((((safe.getD q 0) % (least + 1)) : Nat) : Int) ((all.take ((had.getD q 0) % (n_all + 1))).drop ((safe.getD q 0) % (least + 1))))] : List GState).length = 1 := rfl; omega) (by decide)) ?_
              rintro v65 w66 ⟨cs67, ok68, hk69, hs70⟩
              have hn71 : (l ++ [(GState.mk (GViewID.mk 3 1) ((((safe.getD q 0) % (least + 1)) : Nat) : Int) ((all.take ((had.getD q 0) % (n_all + 1))).drop ((safe.getD q 0) % (least + 1))))]).length = l.length + 1 := by simp
              refine s_on (S' := fun u => St H u (obj g60 38 [.int .u64 3, .int .i64 1, .int .i64 ((((safe.getD q 0) % (least + 1)) : Nat) : Int), .slice (cutA A_all c_all ((safe.getD q 0) % (least + 1)) 2) (((had.getD q 0) % (n_all + 1)) - ((safe.getD q 0) % (least + 1))) (c_all - ((safe.getD q 0) % (least + 1)))] :: obj g12 25 [.int .u64 3, .int .i64 1] :: L)) (fun u hu => hu) hs70.drop ?_
              refine s_st (k := 10) (v := v65) rfl (fun w hs => (x_assign (.tmp rfl rfl))) ?_
              refine s_nil ?_
              refine n_block ?_
              refine n_then ?_
              refine c_region ?_
              refine st (v := .int .i64 ((q : Nat) : Int)) (x_move (.tmp rfl hρ46)) ?_
              refine st (v := .int .i64 (((q + 1) : Nat) : Int)) (x_add (k := .i64) (a := ((q : Nat) : Int)) (b := 1) (.tmp rfl rfl) .const ((w64 (by omega) (by omega)).trans (by omega))) ?_
              refine st (v := .int .i64 (((q + 1) : Nat) : Int)) (x_assign (.tmp rfl rfl)) ?_
              refine c_nil ?_
              have hnx := meets_next (all := all) (ks := (fun j => had.getD j 0 % (n_all + 1))) hll hst (f := ((safe.getD q 0) % (least + 1))) (by omega)
              refine n_then ⟨_, _, rfl, ?_, (l ++ [(GState.mk (GViewID.mk 3 1) ((((safe.getD q 0) % (least + 1)) : Nat) : Int) ((all.take ((had.getD q 0) % (n_all + 1))).drop ((safe.getD q 0) % (least + 1))))]), v65, cs67, (q + 1), hρ39, hρ40, hρ41, hρ42, hρ43, hρ44, rfl, rfl, ok68, hk69, (by omega), (by rw [List.length_append, hll]; rfl), hnx, (((hs70.pick 1 rfl rfl).drop.pick 1 rfl rfl).pick 1 rfl rfl), rfl⟩
              omega
            · have hp53 : ¬ ((((q : Nat) : Int) : Int) < ((n_safe : Nat) : Int)) := of_decide_eq_false hc53
              refine c_cond_f (t := false) (.tmp rfl (congrArg Value.bool hc53)) rfl ?_
              refine c_skip ?_
              refine n_then ?_
              refine s_region (L := row 38 4 v_l l.length c_l :: obj g12 25 [.int .u64 3, .int .i64 1] :: L) (L' := obj g12 25 [.int .u64 3, .int .i64 1] :: L) none [(0, true), (1, true), (2, true), (3, true), (4, true), (5, true), (6, true), (7, true), (8, false), (9, false), (10, true)] mixed hs47 (fun u hu => hu.drop) (by kernel_rfl) ?_
              intro w73 hs74
              refine s_st (k := 0) (v := v_l) rfl (fun w hs => (x_move (.tmp rfl hρ45))) ?_
              refine s_st (k := 1) (v := .agg #[.int .u64 3, .int .i64 1]) rfl (fun w hs => (ld25 (cs := [.int .u64 3, .int .i64 1]) (.tmp rfl hρ42) (hs.at_ 0 rfl (0) rfl) rfl)) ?_
              refine s_st (k := 2) (v := .int .i64 0) rfl (fun w hs => (x_move (.tmp rfl rfl))) ?_
              refine s_st (k := 3) (v := .slice A_all n_all c_all) rfl (fun w hs => (x_move (.tmp rfl hρ39))) ?_
              refine s_st (k := 4) (v := .int .i64 0) rfl (fun w hs => (x_move (.tmp rfl rfl))) ?_
              refine s_st (k := 5) (v := .int .i64 ((((had.getD q 0) % (n_all + 1)) : Nat) : Int)) rfl (fun w hs => (x_move (.tmp rfl rfl))) ?_
              refine s_st (k := 6) (v := .slice (cutA A_all c_all 0 2) (((had.getD q 0) % (n_all + 1)) - 0) (c_all - 0)) rfl (fun w hs => (sl_lh (d := kItem) Try.underlying29 inf47 (a := 0) (b := ((((had.getD q 0) % (n_all + 1)) : Nat) : Int)) (.tmp rfl rfl) (.tmp rfl rfl) (.tmp rfl rfl) (by omega) (by omega) (by omega))) ?_
              refine s_st (k := 7) (v := .agg #[.int .u64 3, .int .i64 1, .int .i64 0, .slice (cutA A_all c_all 0 2) (((had.getD q 0) % (n_all + 1)) - 0) (c_all - 0)]) rfl (fun w hs => (bl38 (ps := [(0, .agg #[.int .u64 3, .int .i64 1]), (1, .int .i64 0), (2, .slice (cutA A_all c_all 0 2) (((had.getD q 0) % (n_all + 1)) - 0) (c_all - 0))]) (.cons (.tmp rfl rfl) (.cons (.tmp rfl rfl) (.cons (.tmp rfl rfl) Evp.nil))) rfl)) ?_
              refine s_eff (k := 8) rfl ?_
              refine st_m (m_lit (n := 1) (ps := [(0, .agg #[.int .u64 3, .int .i64 1, .int .i64 0, .slice (cutA A_all c_all 0 2) (((had.getD q 0) % (n_all + 1)) - 0) (c_all - 0)])]) (cs := [.int .u64 3, .int .i64 1, .int .i64 0, .slice (cutA A_all c_all 0 2) (((had.getD q 0) % (n_all + 1)) - 0) (c_all - 0)]) Try.underlying22 inf38 (.cons (.tmp rfl rfl) Evp.nil) (by decide) (by decide) rfl rfl hs74) ?_
              rintro _ w76 ⟨g75, rfl, hs78⟩
              refine s_on (S' := fun u => St H u (obj g75 38 [.int .u64 3, .int .i64 1, .int .i64 0, .slice (cutA A_all c_all 0 2) (((had.getD q 0) % (n_all + 1)) - 0) (c_all - 0)] :: obj g12 25 [.int .u64 3, .int .i64 1] :: L)) (fun u hu => hu.drop) (hs78.pick 1 rfl rfl).drop ?_
              refine s_eff (k := 9) rfl ?_
              have hs79 : St H _ (row 38 4 v_l l.length c_l :: obj g75 38 [.int .u64 3, .int .i64 1, .int .i64 0, .slice (cutA A_all c_all 0 2) (((had.getD q 0) % (n_all + 1)) - 0) (c_all - 0)] :: obj g12 25 [.int .u64 3, .int .i64 1] :: L) := hs78.pick 1 rfl rfl
              have hr87 : kState.rep H (GState.mk (GViewID.mk 3 1) 0 ((all.take ((had.getD q 0) % (n_all + 1))).drop 0)) [.int .u64 3, .int .i64 1, .int .i64 0, .slice (cutA A_all c_all 0 2) (((had.getD q 0) % (n_all + 1)) - 0) (c_all - 0)] := ⟨(cutA A_all c_all 0 2), (((had.getD q 0) % (n_all + 1)) - 0), (c_all - 0), rfl, (show 3 < 18446744073709551616 from by omega), (show IB 1 from ⟨by omega, by omega⟩), (show IB 0 from ⟨by omega, by omega⟩), ((h_all.take (k := ((had.getD q 0) % (n_all + 1))) (by omega)).drop (k := 0) (by omega))⟩
              refine st_m (m_appK (d := kState) (ys := [(GState.mk (GViewID.mk 3 1) 0 ((all.take ((had.getD q 0) % (n_all + 1))).drop 0))]) (news := [.int .u64 3, .int .i64 1, .int .i64 0, .slice (cutA A_all c_all 0 2) (((had.getD q 0) % (n_all + 1)) - 0) (c_all - 0)]) Try.underlying22 inf38 rfl hs79 ok_l hk_l (.tmp rfl rfl) (.tmp rfl rfl) (Kn.rows_one hr87) rfl (hs79.at_ 1 rfl 0 rfl) (by have : ([(GState.mk (GViewID.mk 3 1) 0 ((all.take ((had.getD q 0) % (n_all + 1))).drop 0))] : List GState).length = 1 := rfl; omega) (by decide)) ?_
              rintro v80 w81 ⟨cs82, ok83, hk84, hs85⟩
              have hn86 : (l ++ [(GState.mk (GViewID.mk 3 1) 0 ((all.take ((had.getD q 0) % (n_all + 1))).drop 0))]).length = l.length + 1 := by simp
              refine s_on (S' := fun u => St H u (obj g75 38 [.int .u64 3, .int .i64 1, .int .i64 0, .slice (cutA A_all c_all 0 2) (((had.getD q 0) % (n_all + 1)) - 0) (c_all - 0)] :: obj g12 25 [.int .u64 3, .int .i64 1] :: L)) (fun u hu => hu) hs85.drop ?_
              refine s_st (k := 10) (v := v80) rfl (fun w hs => (x_assign (.tmp rfl rfl))) ?_
              refine s_nil ?_
              refine n_block ?_
              refine n_then ?_
              refine c_region ?_
              refine st (v := .int .i64 ((q : Nat) : Int)) (x_move (.tmp rfl hρ46)) ?_
              refine st (v := .int .i64 (((q + 1) : Nat) : Int)) (x_add (k := .i64) (a := ((q : Nat) : Int)) (b := 1) (.tmp rfl rfl) .const ((w64 (by omega) (by omega)).trans (by omega))) ?_
              refine st (v := .int .i64 (((q + 1) : Nat) : Int)) (x_assign (.tmp rfl rfl)) ?_
              refine c_nil ?_
              have hnx := meets_next (all := all) (ks := (fun j => had.getD j 0 % (n_all + 1))) hll hst (f := 0) (by omega)
              refine n_then ⟨_, _, rfl, ?_, (l ++ [(GState.mk (GViewID.mk 3 1) 0 ((all.take ((had.getD q 0) % (n_all + 1))).drop 0))]), v80, cs82, (q + 1), hρ39, hρ40, hρ41, hρ42, hρ43, hρ44, rfl, rfl, ok83, hk84, (by omega), (by rw [List.length_append, hll]; rfl), hnx, (((hs85.pick 1 rfl rfl).drop.pick 1 rfl rfl).pick 1 rfl rfl), rfl⟩
              omega
          · have hp48 : ¬ ((((q : Nat) : Int) : Int) < ((n_had : Nat) : Int)) := of_decide_eq_false hc48
            refine c_cond_f (t := false) (.tmp rfl (congrArg Value.bool hc48)) rfl ?_
            refine c_exit ?_
            refine x_then ?_
            refine x_then ?_
            refine x_here ?_
            refine n_then ?_
            refine c_seq ?_
            refine c_region ?_
            obtain ⟨f0, hf0, hlm, hjs⟩ := meets_join (ks := (fun j => had.getD j 0 % (n_all + 1))) (m := n_had) (by omega) (fun j hj => hst j (by omega)) (fun j hj => hle j (by omega)) (by rcases hmo with h | ⟨j, hj, h⟩; omega; exact ⟨j, by omega, h⟩) (by omega)
            have hjl : (joinS l).length = 1 := by rw [hjs]; rfl
            refine st (v := v_l) (x_move (.tmp rfl hρ45)) ?_
            have : l.length * 48 ≤ 140737488351232 := by omega
            obtain ⟨H88, A89, c90, hle91, hs92, rfl, sp93⟩ := hs47.freezeSl (d := kState) ok_l hk_l this
            have := sp93.len; have := sp93.le
            refine st_c cb17 .func (evs1 (.tmp rfl rfl)) (join_spec hs92 l sp93 (meets_floor hll hst (by omega))) ?_
            rintro e w94 ⟨v96, cs99, rfl, ok97, hk100, hs95⟩
            have := sp93.len
            refine ⟨_, rfl, ?_⟩
            refine st (v := v96) (x_assign (.tmp rfl rfl)) ?_
            refine c_nil ?_
            refine n_then ?_
            refine c_seq ?_
            refine c_seq ?_
            refine c_region ?_
            have : (joinS l).length * 48 ≤ 140737488351232 := by omega
            obtain ⟨H101, A102, c103, hle104, hs105, rfl, sp106⟩ := hs95.freezeSl (d := kState) ok97 hk100 this
            have := sp106.len; have := sp106.le
            skip
            refine st (v := .int .i64 0) (x_assign .const) ?_
            refine c_nil ?_
            refine n_then ?_
            refine c_block ?_
            refine c_loop (fun ρ w mm => ∃ (z : Nat), ρ 0 = .slice A_all n_all c_all ∧ ρ 1 = .slice A_had n_had c_had ∧ ρ 7 = .pointer (some ⟨g12, 0, none⟩) ∧ ρ 9 = .int .i64 ((most : Nat) : Int) ∧ ρ 16 = .slice A102 ((joinS l).length) c103 ∧ ρ 17 = .int .i64 ((z : Nat) : Int) ∧ (z ≤ n_had) ∧ St H101 w (obj g12 25 [.int .u64 3, .int .i64 1] :: L) ∧ mm = n_had - z) _ ⟨0, hρ39, hρ40, hρ42, hρ44, rfl, rfl, (by omega), hs105, rfl⟩ ?_
            rintro ρ w mm ⟨z, hρ108, hρ109, hρ110, hρ111, hρ112, hρ113, hz, hs114, rfl⟩
            refine c_seq ?_
            refine c_seq ?_
            refine c_region ?_
            refine st (v := .int .i64 ((z : Nat) : Int)) (x_move (.tmp rfl hρ113)) ?_
            refine st (v := .slice A_had n_had c_had) (x_move (.tmp rfl hρ109)) ?_
            refine st (v := .int .i64 ((n_had : Nat) : Int)) (x_len (n := n_had) Try.underlying40 (.tmp rfl rfl)) ?_
            refine st (v := .bool (decide ((((z : Nat) : Int) : Int) < ((n_had : Nat) : Int)))) (x_lss (k := .i64) (a := ((z : Nat) : Int)) (b := ((n_had : Nat) : Int)) (.tmp rfl rfl) (.tmp rfl rfl)) ?_
            refine c_nil ?_
            refine n_then ?_
            rcases Bool.eq_false_or_eq_true (decide ((((z : Nat) : Int) : Int) < ((n_had : Nat) : Int))) with hc115 | hc115
            · have hp115 : (((z : Nat) : Int) : Int) < ((n_had : Nat) : Int) := of_decide_eq_true hc115
              refine c_cond_t (t := true) (.tmp rfl (congrArg Value.bool hc115)) rfl ?_
              refine c_skip ?_
              refine n_then ?_
              refine c_seq ?_
              refine c_block ?_
              refine c_seq ?_
              refine c_region ?_
              refine st (v := .slice A_had n_had c_had) (x_move (.tmp rfl hρ109)) ?_
              refine st (v := .int .i64 ((z : Nat) : Int)) (x_move (.tmp rfl hρ113)) ?_
              obtain ⟨b116, o117, hA118, hc119⟩ := ((h_had.toBs.mono hle91).mono hle104).get (i := z) (by omega)
              refine st (v := .pointer (some ⟨b116, (o117 + z * 1), none⟩)) (ixo40 (.tmp rfl rfl) hA118 (i := ((z : Nat) : Int)) (.tmp rfl rfl) (by omega) (by omega) rfl) ?_
              refine st (v := .int .u8 ((had.getD z 0 : Nat) : Int)) (ld5 (.tmp rfl rfl) (hc119 hs114)) ?_
              have : (had.getD z 0) < 256 := (((h_had.toBs.mono hle91).mono hle104).lt.getD _)
              refine st (v := .int .i64 ((had.getD z 0 : Nat) : Int)) (x_conv (k := .u8) (a := ((had.getD z 0 : Nat) : Int)) Try.underlying5 Try.underlying3 (.tmp rfl rfl) (w64 (by omega) (by omega))) ?_
              refine st (v := .slice A_all n_all c_all) (x_move (.tmp rfl hρ108)) ?_
              refine st (v := .int .i64 ((n_all : Nat) : Int)) (x_len (n := n_all) Try.underlying29 (.tmp rfl rfl)) ?_
              refine st (v := .int .i64 (((n_all + 1) : Nat) : Int)) (x_add (k := .i64) (a := ((n_all : Nat) : Int)) (b := 1) (.tmp rfl rfl) .const ((w64 (by omega) (by omega)).trans (by omega))) ?_
              have : (had.getD z 0) % (n_all + 1) < (n_all + 1) := Nat.mod_lt _ (by omega)
              refine st (v := .int .i64 ((((had.getD z 0) % (n_all + 1)) : Nat) : Int)) (x_remN (k := .i64) (m := (had.getD z 0)) (n := (n_all + 1)) (.tmp rfl rfl) (.tmp rfl rfl) (by omega)) ?_
              refine st (v := .int .i64 ((((had.getD z 0) % (n_all + 1)) : Nat) : Int)) (x_assign (.tmp rfl rfl)) ?_
              refine c_nil ?_
              refine n_then ?_
              refine c_seq ?_
              refine c_region ?_
              have hkz := hle z (by omega)
              refine st (v := .slice A102 ((joinS l).length) c103) (x_move (.tmp rfl hρ112)) ?_
              refine st (v := .agg #[.int .u64 3, .int .i64 1]) (ld25 (cs := [.int .u64 3, .int .i64 1]) (.tmp rfl hρ110) (hs114.at_ 0 rfl (0) rfl) rfl) ?_
              refine st (v := .int .i64 ((((had.getD z 0) % (n_all + 1)) : Nat) : Int)) (x_move (.tmp rfl rfl)) ?_
              have hr120 : kViewID.rep H101 (GViewID.mk 3 1) [.int .u64 3, .int .i64 1] := ⟨rfl, (show 3 < 18446744073709551616 from by omega), (show IB 1 from ⟨by omega, by omega⟩)⟩
              refine st_c cb13 .func (evs3 (.tmp rfl rfl) (.tmp rfl rfl) (.tmp rfl rfl)) (rest_spec hs114 (joinS l) sp106 (GViewID.mk 3 1) hr120 ((((had.getD z 0) % (n_all + 1)) : Nat) : Int) ⟨by omega, by omega⟩ (fun s hs => by rw [hjs] at hs; rw [List.mem_singleton.1 hs]; show (0 : Int) ≤ (f0 : Int) ∧ (f0 : Int) ≤ 1073741824; omega)) ?_
              rintro e w121 ⟨H123, A125, n126, c127, hle124, rfl, sp128, hs122⟩
              have := sp128.len; have := sp128.le; have : n126 * 32 ≤ 140737488351232 := sp128.bnd
              refine ⟨_, rfl, ?_⟩
              refine st (v := .tuple #[.slice A125 n126 c127, .int .i64 (((restS (joinS l) (GViewID.mk 3 1) ((((had.getD z 0) % (n_all + 1)) : Nat) : Int)).2 : Nat) : Int)]) (x_move (.tmp rfl rfl)) ?_
              refine st (v := .slice A125 n126 c127) (x_extract (.tmp rfl rfl) (i := 0) rfl) ?_
              refine st (v := .int .i64 (((restS (joinS l) (GViewID.mk 3 1) ((((had.getD z 0) % (n_all + 1)) : Nat) : Int)).2 : Nat) : Int)) (x_extract (.tmp rfl rfl) (i := 1) rfl) ?_
              refine st (v := .slice A125 n126 c127) (x_assign (.tmp rfl rfl)) ?_
              refine st (v := .int .i64 (((restS (joinS l) (GViewID.mk 3 1) ((((had.getD z 0) % (n_all + 1)) : Nat) : Int)).2 : Nat) : Int)) (x_assign (.tmp rfl rfl)) ?_
              refine c_nil ?_
              refine n_then ?_
              refine c_seq ?_
              refine c_region ?_
              have hrs := meets_rest (k := (had.getD z 0 % (n_all + 1))) hjs hf0 hkz.1 hkz.2 (by omega)
              refine st (v := .int .i64 (((restS (joinS l) (GViewID.mk 3 1) ((((had.getD z 0) % (n_all + 1)) : Nat) : Int)).2 : Nat) : Int)) (x_move (.tmp rfl rfl)) ?_
              refine st (v := .bool (decide (((((restS (joinS l) (GViewID.mk 3 1) ((((had.getD z 0) % (n_all + 1)) : Nat) : Int)).2 : Nat) : Int) : Int) ≠ 0))) (x_neq (k := .i64) (a := (((restS (joinS l) (GViewID.mk 3 1) ((((had.getD z 0) % (n_all + 1)) : Nat) : Int)).2 : Nat) : Int)) (b := 0) (.tmp rfl rfl) .const) ?_
              refine st (v := .bool (decide (((((restS (joinS l) (GViewID.mk 3 1) ((((had.getD z 0) % (n_all + 1)) : Nat) : Int)).2 : Nat) : Int) : Int) ≠ 0))) (x_move (.tmp rfl rfl)) ?_
              have hc129 : (decide (((((restS (joinS l) (GViewID.mk 3 1) ((((had.getD z 0) % (n_all + 1)) : Nat) : Int)).2 : Nat) : Int) : Int) ≠ 0)) = false := (decide_eq_false (by rw [hrs]; simp))
              refine g_yes (yl (dj := 128) (b := false) rfl rfl (congrArg Value.bool hc129)) ?_
              refine st (v := .slice A125 n126 c127) (x_move (.tmp rfl rfl)) ?_
              refine g_yes (yl (dj := 128) (b := false) rfl rfl (congrArg Value.bool hc129)) ?_
              refine st (v := .slice A_all n_all c_all) (x_move (.tmp rfl hρ108)) ?_
              refine g_yes (yl (dj := 128) (b := false) rfl rfl (congrArg Value.bool hc129)) ?_
              refine st (v := .int .i64 ((((had.getD z 0) % (n_all + 1)) : Nat) : Int)) (x_move (.tmp rfl rfl)) ?_
              refine g_yes (yl (dj := 128) (b := false) rfl rfl (congrArg Value.bool hc129)) ?_
              refine st (v := .int .i64 ((most : Nat) : Int)) (x_move (.tmp rfl hρ111)) ?_
              refine g_yes (yl (dj := 128) (b := false) rfl rfl (congrArg Value.bool hc129)) ?_
              refine st (v := .slice (cutA A_all c_all ((had.getD z 0) % (n_all + 1)) 2) (most - ((had.getD z 0) % (n_all + 1))) (c_all - ((had.getD z 0) % (n_all + 1)))) (sl_lh (d := kItem) Try.underlying29 inf47 (a := ((((had.getD z 0) % (n_all + 1)) : Nat) : Int)) (b := ((most : Nat) : Int)) (.tmp rfl rfl) (.tmp rfl rfl) (.tmp rfl rfl) (by omega) (by omega) (by omega)) ?_
              refine g_yes (yl (dj := 128) (b := false) rfl rfl (congrArg Value.bool hc129)) ?_
              refine st_c cb15 .func (evs2 (.tmp rfl rfl) (.tmp rfl rfl)) (items_spec hs122 ((restS (joinS l) (GViewID.mk 3 1) ((((had.getD z 0) % (n_all + 1)) : Nat) : Int)).1) sp128 ((all.take most).drop ((had.getD z 0) % (n_all + 1))) (((((h_all.mono hle91).mono hle104).mono hle124).take (k := most) (by omega)).drop (k := ((had.getD z 0) % (n_all + 1))) (by omega)) ) ?_
              rintro e w130 ⟨rfl, hs131⟩
              refine ⟨_, rfl, ?_⟩
              refine g_yes (yl (dj := 128) (b := false) rfl rfl (congrArg Value.bool hc129)) ?_
              refine st (v := .bool (!(decide (((restS (joinS l) (GViewID.mk 3 1) ((((had.getD z 0) % (n_all + 1)) : Nat) : Int)).1) = ((all.take most).drop ((had.getD z 0) % (n_all + 1))))))) (x_not (.tmp rfl rfl)) ?_
              refine st (v := .bool (!(decide (((restS (joinS l) (GViewID.mk 3 1) ((((had.getD z 0) % (n_all + 1)) : Nat) : Int)).1) = ((all.take most).drop ((had.getD z 0) % (n_all + 1))))))) (x_pick_f (.tmp rfl (congrArg Value.bool hc129)) (.tmp rfl rfl)) ?_
              refine c_nil ?_
              refine n_then ?_
              have hc132 : (decide (((restS (joinS l) (GViewID.mk 3 1) ((((had.getD z 0) % (n_all + 1)) : Nat) : Int)).1) = ((all.take most).drop ((had.getD z 0) % (n_all + 1))))) = true := (decide_eq_true (by rw [hrs]))
              refine c_cond_f (t := false) (.tmp rfl (congrArg Value.bool (by rw [hc132]; rfl))) rfl ?_
              refine c_skip ?_
              refine n_block ?_
              refine n_then ?_
              refine c_region ?_
              refine st (v := .int .i64 ((z : Nat) : Int)) (x_move (.tmp rfl hρ113)) ?_
              refine st (v := .int .i64 (((z + 1) : Nat) : Int)) (x_add (k := .i64) (a := ((z : Nat) : Int)) (b := 1) (.tmp rfl rfl) .const ((w64 (by omega) (by omega)).trans (by omega))) ?_
              refine st (v := .int .i64 (((z + 1) : Nat) : Int)) (x_assign (.tmp rfl rfl)) ?_
              refine c_nil ?_
              refine n_then ⟨_, _, rfl, ?_, (z + 1), hρ108, hρ109, hρ110, hρ111, hρ112, rfl, (by omega), (hs131.weaken hle124), rfl⟩
              omega
            · have hp115 : ¬ ((((z : Nat) : Int) : Int) < ((n_had : Nat) : Int)) := of_decide_eq_false hc115
              refine c_cond_f (t := false) (.tmp rfl (congrArg Value.bool hc115)) rfl ?_
              refine c_exit ?_
              refine x_then ?_
              refine x_then ?_
              refine x_here ?_
              refine n_then ?_
              refine c_seq ?_
              refine c_region ?_
              refine st (v := .slice A102 ((joinS l).length) c103) (x_move (.tmp rfl hρ112)) ?_
              refine st (v := .int .i64 ((((joinS l).length) : Nat) : Int)) (x_len (n := ((joinS l).length)) Try.underlying22 (.tmp rfl rfl)) ?_
              refine st (v := .bool (decide ((((((joinS l).length) : Nat) : Int) : Int) = 1))) (x_eql (k := .i64) (a := ((((joinS l).length) : Nat) : Int)) (b := 1) (.tmp rfl rfl) .const) ?_
              refine st (v := .bool (decide ((((((joinS l).length) : Nat) : Int) : Int) = 1))) (x_assign (.tmp rfl rfl)) ?_
              refine c_nil ?_
              refine n_then ?_
              refine c_ret ?_
              refine leave_ret (res_one (v := .bool (decide ((((((joinS l).length) : Nat) : Int) : Int) = 1))) rfl (.mk rfl rfl)) ?_
              have hyes : (decide ((((((joinS l).length) : Nat) : Int) : Int) = 1)) = true := (decide_eq_true (by omega))
              rw [hyes]
              exact ⟨rfl, (hs114.drop.weaken (hle91.trans hle104))⟩

end Go.Proofs.Ytkbllbphkdnmbaa
