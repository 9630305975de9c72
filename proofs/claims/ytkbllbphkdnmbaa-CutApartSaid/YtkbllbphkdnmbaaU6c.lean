/- Steps of the proofs over the functions of this seat, printed by a program (gen.py) and checked by Lean. -/
import Derived.Test.YtkbllbphkdnmbaaUty
import Derived.Test.YtkbllbphkdnmbaaFmM6
import Derived.Test.YtkbllbphkdnmbaaU6b
set_option linter.unusedVariables false
set_option linter.unusedSimpArgs false
namespace Go.Proofs.Ytkbllbphkdnmbaa
open Go Go.FM Go.Proofs
attribute [local irreducible] wpList wpQuiet wpS Code.wp Calls
set_option maxHeartbeats 8000000 in
theorem items_spec {H : Hp} {w : World} {L : List Res} (hs : St H w (L)) {A_a : Option Addr} {n_a c_a : Nat} (a : (List GItem)) (h_a : Sl kItem H A_a n_a c_a a) {A_b : Option Addr} {n_b c_b : Nat} (b : (List GItem)) (h_b : Sl kItem H A_b n_b c_b b) : Calls Try.prog 15 #[.slice A_a n_a c_a, .slice A_b n_b c_b] w (fun e w' => e = .returned (.bool (decide (a = b))) ∧ St H w' (L)) := by
  have := h_a.len; have := h_a.le; have : n_a * 32 ≤ 140737488351232 := h_a.bnd
  have := h_b.len; have := h_b.le; have : n_b * 32 ≤ 140737488351232 := h_b.bnd
  refine enter (args := [.slice A_a n_a c_a, .slice A_b n_b c_b]) (N := 43) Try.func15 rfl rfl rfl ?_
  refine c_seq ?_
  refine c_region ?_
  refine st (v := .bool false) (x_assign .const) ?_
  refine c_nil ?_
  refine n_then ?_
  refine c_seq ?_
  refine c_seq ?_
  refine c_region ?_
  refine st (v := .slice A_a n_a c_a) (x_move (.tmp rfl rfl)) ?_
  refine st (v := .int .i64 ((n_a : Nat) : Int)) (x_len (n := n_a) Try.underlying29 (.tmp rfl rfl)) ?_
  refine st (v := .slice A_b n_b c_b) (x_move (.tmp rfl rfl)) ?_
  refine st (v := .int .i64 ((n_b : Nat) : Int)) (x_len (n := n_b) Try.underlying29 (.tmp rfl rfl)) ?_
  refine st (v := .bool (decide ((((n_a : Nat) : Int) : Int) ≠ ((n_b : Nat) : Int)))) (x_neq (k := .i64) (a := ((n_a : Nat) : Int)) (b := ((n_b : Nat) : Int)) (.tmp rfl rfl) (.tmp rfl rfl)) ?_
  refine c_nil ?_
  refine n_then ?_
  rcases Bool.eq_false_or_eq_true (decide ((((n_a : Nat) : Int) : Int) ≠ ((n_b : Nat) : Int))) with hc1 | hc1
  · have hp1 : (((n_a : Nat) : Int) : Int) ≠ ((n_b : Nat) : Int) := of_decide_eq_true hc1
    refine c_cond_t (t := true) (.tmp rfl (congrArg Value.bool hc1)) rfl ?_
    refine c_seq ?_
    refine c_region ?_
    refine st (v := .bool false) (x_assign .const) ?_
    refine c_nil ?_
    refine n_then ?_
    refine c_ret ?_
    refine r_then ?_
    refine leave_ret (res_one (v := .bool false) rfl (.mk rfl rfl)) ?_
    have hans2 : decide (a = b) = false := lists_ne_len (by omega)
    rw [hans2]
    exact ⟨rfl, hs⟩
  · have hp1 : ¬ ((((n_a : Nat) : Int) : Int) ≠ ((n_b : Nat) : Int)) := of_decide_eq_false hc1
    refine c_cond_f (t := false) (.tmp rfl (congrArg Value.bool hc1)) rfl ?_
    refine c_skip ?_
    refine n_then ?_
    refine c_seq ?_
    refine c_seq ?_
    refine c_region ?_
    refine st (v := .int .i64 0) (x_assign .const) ?_
    refine c_nil ?_
    refine n_then ?_
    refine c_block ?_
    refine c_loop (fun ρ w mm => ∃ (i : Nat), ρ 0 = .slice A_a n_a c_a ∧ ρ 1 = .slice A_b n_b c_b ∧ ρ 5 = .int .i64 ((i : Nat) : Int) ∧ (i ≤ n_a) ∧ (a.take i = b.take i) ∧ St H w (L) ∧ mm = n_a - i) _ ⟨0, rfl, rfl, rfl, (by omega), rfl, hs, rfl⟩ ?_
    rintro ρ w mm ⟨i, hρ4, hρ5, hρ6, hi, ht, hs7, rfl⟩
    refine c_seq ?_
    refine c_seq ?_
    refine c_region ?_
    refine st (v := .int .i64 ((i : Nat) : Int)) (x_move (.tmp rfl hρ6)) ?_
    refine st (v := .slice A_a n_a c_a) (x_move (.tmp rfl hρ4)) ?_
    refine st (v := .int .i64 ((n_a : Nat) : Int)) (x_len (n := n_a) Try.underlying29 (.tmp rfl rfl)) ?_
    refine st (v := .bool (decide ((((i : Nat) : Int) : Int) < ((n_a : Nat) : Int)))) (x_lss (k := .i64) (a := ((i : Nat) : Int)) (b := ((n_a : Nat) : Int)) (.tmp rfl rfl) (.tmp rfl rfl)) ?_
    refine c_nil ?_
    refine n_then ?_
    rcases Bool.eq_false_or_eq_true (decide ((((i : Nat) : Int) : Int) < ((n_a : Nat) : Int))) with hc8 | hc8
    · have hp8 : (((i : Nat) : Int) : Int) < ((n_a : Nat) : Int) := of_decide_eq_true hc8
      refine c_cond_t (t := true) (.tmp rfl (congrArg Value.bool hc8)) rfl ?_
      refine c_skip ?_
      refine n_then ?_
      refine c_seq ?_
      refine c_block ?_
      refine c_seq ?_
      refine q_region mixed hs7 (by kernel_rfl) ?_
      refine q_st (v := .slice A_a n_a c_a) (fun w hs => (x_move (.tmp rfl hρ4))) ?_
      refine q_st (v := .int .i64 ((i : Nat) : Int)) (fun w hs => (x_move (.tmp rfl hρ6))) ?_
      obtain ⟨e9, b10, o11, cs12, hx13, hA14, hr15, hat16⟩ := h_a.get (i := i) (by omega)
      obtain ⟨A19, n20, c21, rfl, ⟨b17, b18⟩, hy22⟩ := hr15
      have := hy22.len; have := hy22.bnd; have := hy22.le
      have hat16x : ∀ {w : World} {L : List Res}, St H w L → At w ⟨b10, o11 + i * 2, none⟩ [.int .i64 e9.From, .slice A19 n20 c21] := fun h => hat16 h
      refine q_st (v := .pointer (some ⟨b10, (o11 + i * 2), none⟩)) (fun w hs => (ixo29 (.tmp rfl rfl) hA14 (i := ((i : Nat) : Int)) (.tmp rfl rfl) (by omega) (by omega) (by omega))) ?_
      refine q_st (v := .pointer (some ⟨b10, (o11 + i * 2) + 0, none⟩)) (fun w hs => (fa47_0 (.tmp rfl rfl))) ?_
      refine q_st (v := .int .i64 e9.From) (fun w hs => (ld3 (.tmp rfl rfl) ((hat16x hs).cell 0 rfl))) ?_
      refine q_st (v := .slice A_b n_b c_b) (fun w hs => (x_move (.tmp rfl hρ5))) ?_
      refine q_st (v := .int .i64 ((i : Nat) : Int)) (fun w hs => (x_move (.tmp rfl hρ6))) ?_
      obtain ⟨e23, b24, o25, cs26, hx27, hA28, hr29, hat30⟩ := h_b.get (i := i) (by omega)
      obtain ⟨A33, n34, c35, rfl, ⟨b31, b32⟩, hy36⟩ := hr29
      have := hy36.len; have := hy36.bnd; have := hy36.le
      have hat30x : ∀ {w : World} {L : List Res}, St H w L → At w ⟨b24, o25 + i * 2, none⟩ [.int .i64 e23.From, .slice A33 n34 c35] := fun h => hat30 h
      refine q_st (v := .pointer (some ⟨b24, (o25 + i * 2), none⟩)) (fun w hs => (ixo29 (.tmp rfl rfl) hA28 (i := ((i : Nat) : Int)) (.tmp rfl rfl) (by omega) (by omega) (by omega))) ?_
      refine q_st (v := .pointer (some ⟨b24, (o25 + i * 2) + 0, none⟩)) (fun w hs => (fa47_0 (.tmp rfl rfl))) ?_
      refine q_st (v := .int .i64 e23.From) (fun w hs => (ld3 (.tmp rfl rfl) ((hat30x hs).cell 0 rfl))) ?_
      refine q_st (v := .bool (decide ((e9.From : Int) ≠ e23.From))) (fun w hs => (x_neq (k := .i64) (a := e9.From) (b := e23.From) (.tmp rfl rfl) (.tmp rfl rfl))) ?_
      refine q_st (v := .bool (decide ((e9.From : Int) ≠ e23.From))) (fun w hs => (x_move (.tmp rfl rfl))) ?_
      rcases Bool.eq_false_or_eq_true (decide ((e9.From : Int) ≠ e23.From)) with hc37 | hc37
      · have hp37 : (e9.From : Int) ≠ e23.From := of_decide_eq_true hc37
        refine q_no (yl (dj := 28) (b := true) rfl rfl (congrArg Value.bool hc37)) rfl ?_
        refine q_no (yl (dj := 28) (b := true) rfl rfl (congrArg Value.bool hc37)) rfl ?_
        refine q_no (yl (dj := 28) (b := true) rfl rfl (congrArg Value.bool hc37)) rfl ?_
        refine q_no (yl (dj := 28) (b := true) rfl rfl (congrArg Value.bool hc37)) rfl ?_
        refine q_no (yl (dj := 28) (b := true) rfl rfl (congrArg Value.bool hc37)) rfl ?_
        refine q_no (yl (dj := 28) (b := true) rfl rfl (congrArg Value.bool hc37)) rfl ?_
        refine q_no (yl (dj := 28) (b := true) rfl rfl (congrArg Value.bool hc37)) rfl ?_
        refine q_no (yl (dj := 28) (b := true) rfl rfl (congrArg Value.bool hc37)) rfl ?_
        refine q_no (yl (dj := 28) (b := true) rfl rfl (congrArg Value.bool hc37)) rfl ?_
        refine q_no (yl (dj := 28) (b := true) rfl rfl (congrArg Value.bool hc37)) rfl ?_
        refine q_no (yl (dj := 28) (b := true) rfl rfl (congrArg Value.bool hc37)) rfl ?_
        refine q_no (yl (dj := 28) (b := true) rfl rfl (congrArg Value.bool hc37)) rfl ?_
        refine q_no (yl (dj := 28) (b := true) rfl rfl (congrArg Value.bool hc37)) rfl ?_
        refine q_st (v := .bool true) (fun w hs => (x_pick_t (.tmp rfl (congrArg Value.bool hc37)) .const)) ?_
        refine q_nil ?_
        intro w hs38
        refine n_then ?_
        refine c_cond_t (t := true) (.tmp rfl rfl) rfl ?_
        refine c_seq ?_
        refine c_region ?_
        refine st (v := .bool false) (x_assign .const) ?_
        refine c_nil ?_
        refine n_then ?_
        refine c_ret ?_
        refine r_block ?_
        refine r_then ?_
        refine r_then ?_
        refine r_block ?_
        refine r_then ?_
        refine leave_ret (res_one (v := .bool false) rfl (.mk rfl rfl)) ?_
        have hans39 : decide (a = b) = false := lists_ne_at hx13 hx27 (item_ne_from (by omega))
        rw [hans39]
        exact ⟨rfl, hs38⟩
      · have hp37 : ¬ ((e9.From : Int) ≠ e23.From) := of_decide_eq_false hc37
        refine q_yes (yl (dj := 28) (b := false) rfl rfl (congrArg Value.bool hc37)) ?_
        refine q_st (v := .slice A_a n_a c_a) (fun w hs => (x_move (.tmp rfl hρ4))) ?_
        refine q_yes (yl (dj := 28) (b := false) rfl rfl (congrArg Value.bool hc37)) ?_
        refine q_st (v := .int .i64 ((i : Nat) : Int)) (fun w hs => (x_move (.tmp rfl hρ6))) ?_
        refine q_yes (yl (dj := 28) (b := false) rfl rfl (congrArg Value.bool hc37)) ?_
        refine q_st (v := .pointer (some ⟨b10, (o11 + i * 2), none⟩)) (fun w hs => (ixo29 (.tmp rfl rfl) hA14 (i := ((i : Nat) : Int)) (.tmp rfl rfl) (by omega) (by omega) (by omega))) ?_
        refine q_yes (yl (dj := 28) (b := false) rfl rfl (congrArg Value.bool hc37)) ?_
        refine q_st (v := .pointer (some ⟨b10, (o11 + i * 2) + 1, none⟩)) (fun w hs => (fa47_1 (.tmp rfl rfl))) ?_
        refine q_yes (yl (dj := 28) (b := false) rfl rfl (congrArg Value.bool hc37)) ?_
        refine q_st (v := .slice A19 n20 c21) (fun w hs => (ld40 (.tmp rfl rfl) ((hat16x hs).cell 1 rfl))) ?_
        refine q_yes (yl (dj := 28) (b := false) rfl rfl (congrArg Value.bool hc37)) ?_
        refine q_st (v := .string (bstr e9.M)) (fun w hs => (hy22.toBs.str Try.underlying40 Try.underlying5 Try.underlying9 hs (.tmp rfl rfl))) ?_
        refine q_yes (yl (dj := 28) (b := false) rfl rfl (congrArg Value.bool hc37)) ?_
        refine q_st (v := .slice A_b n_b c_b) (fun w hs => (x_move (.tmp rfl hρ5))) ?_
        refine q_yes (yl (dj := 28) (b := false) rfl rfl (congrArg Value.bool hc37)) ?_
        refine q_st (v := .int .i64 ((i : Nat) : Int)) (fun w hs => (x_move (.tmp rfl hρ6))) ?_
        refine q_yes (yl (dj := 28) (b := false) rfl rfl (congrArg Value.bool hc37)) ?_
        refine q_st (v := .pointer (some ⟨b24, (o25 + i * 2), none⟩)) (fun w hs => (ixo29 (.tmp rfl rfl) hA28 (i := ((i : Nat) : Int)) (.tmp rfl rfl) (by omega) (by omega) (by omega))) ?_
        refine q_yes (yl (dj := 28) (b := false) rfl rfl (congrArg Value.bool hc37)) ?_
        refine q_st (v := .pointer (some ⟨b24, (o25 + i * 2) + 1, none⟩)) (fun w hs => (fa47_1 (.tmp rfl rfl))) ?_
        refine q_yes (yl (dj := 28) (b := false) rfl rfl (congrArg Value.bool hc37)) ?_
        refine q_st (v := .slice A33 n34 c35) (fun w hs => (ld40 (.tmp rfl rfl) ((hat30x hs).cell 1 rfl))) ?_
        refine q_yes (yl (dj := 28) (b := false) rfl rfl (congrArg Value.bool hc37)) ?_
        refine q_st (v := .string (bstr e23.M)) (fun w hs => (hy36.toBs.str Try.underlying40 Try.underlying5 Try.underlying9 hs (.tmp rfl rfl))) ?_
        refine q_yes (yl (dj := 28) (b := false) rfl rfl (congrArg Value.bool hc37)) ?_
        refine q_st (v := .bool (!decide ((bstr e9.M) = (bstr e23.M)))) (fun w hs => (x_neqS (.tmp rfl rfl) (.tmp rfl rfl))) ?_
        refine q_st (v := .bool (!decide ((bstr e9.M) = (bstr e23.M)))) (fun w hs => (x_pick_f (.tmp rfl (congrArg Value.bool hc37)) (.tmp rfl rfl))) ?_
        refine q_nil ?_
        intro w hs40
        refine n_then ?_
        rcases Bool.eq_false_or_eq_true (decide ((bstr e9.M) = (bstr e23.M))) with hc41 | hc41
        · have hp41 : (bstr e9.M) = (bstr e23.M) := of_decide_eq_true hc41
          refine c_cond_f (t := false) (.tmp rfl (congrArg Value.bool (by rw [hc41]; rfl))) rfl ?_
          refine c_skip ?_
          refine n_block ?_
          refine n_then ?_
          refine c_region ?_
          refine st (v := .int .i64 ((i : Nat) : Int)) (x_move (.tmp rfl hρ6)) ?_
          refine st (v := .int .i64 (((i + 1) : Nat) : Int)) (x_add (k := .i64) (a := ((i : Nat) : Int)) (b := 1) (.tmp rfl rfl) .const ((w64 (by omega) (by omega)).trans (by omega))) ?_
          refine st (v := .int .i64 (((i + 1) : Nat) : Int)) (x_assign (.tmp rfl rfl)) ?_
          refine c_nil ?_
          refine n_then ⟨_, _, rfl, ?_, (i + 1), hρ4, hρ5, rfl, (by omega), (take_eq_next ht hx13 hx27 (item_eq (by omega) hp41 hy22.lt hy36.lt)), hs40, rfl⟩
          omega
        · have hp41 : ¬ ((bstr e9.M) = (bstr e23.M)) := of_decide_eq_false hc41
          refine c_cond_t (t := true) (.tmp rfl (congrArg Value.bool (by rw [hc41]; rfl))) rfl ?_
          refine c_seq ?_
          refine c_region ?_
          refine st (v := .bool false) (x_assign .const) ?_
          refine c_nil ?_
          refine n_then ?_
          refine c_ret ?_
          refine r_block ?_
          refine r_then ?_
          refine r_then ?_
          refine r_block ?_
          refine r_then ?_
          refine leave_ret (res_one (v := .bool false) rfl (.mk rfl rfl)) ?_
          have hans42 : decide (a = b) = false := lists_ne_at hx13 hx27 (item_ne_m hp41)
          rw [hans42]
          exact ⟨rfl, hs40⟩
    · have hp8 : ¬ ((((i : Nat) : Int) : Int) < ((n_a : Nat) : Int)) := of_decide_eq_false hc8
      refine c_cond_f (t := false) (.tmp rfl (congrArg Value.bool hc8)) rfl ?_
      refine c_exit ?_
      refine x_then ?_
      refine x_then ?_
      refine x_here ?_
      refine n_then ?_
      refine c_seq ?_
      refine c_region ?_
      refine st (v := .bool true) (x_assign .const) ?_
      refine c_nil ?_
      refine n_then ?_
      refine c_ret ?_
      refine leave_ret (res_one (v := .bool true) rfl (.mk rfl rfl)) ?_
      have hans43 : decide (a = b) = true := lists_eq ht (by omega) (by omega)
      rw [hans43]
      exact ⟨rfl, hs7⟩

set_option maxHeartbeats 8000000 in
theorem same_spec {H : Hp} {w : World} {L : List Res} (hs : St H w (L)) {A_a : Option Addr} {n_a c_a : Nat} (a : (List GState)) (h_a : Sl kState H A_a n_a c_a a) {A_b : Option Addr} {n_b c_b : Nat} (b : (List GState)) (h_b : Sl kState H A_b n_b c_b b) : Calls Try.prog 18 #[.slice A_a n_a c_a, .slice A_b n_b c_b] w (fun e w' => e = .returned (.bool (decide (a = b))) ∧ St H w' (L)) := by
  have := h_a.len; have := h_a.le; have : n_a * 48 ≤ 140737488351232 := h_a.bnd
  have := h_b.len; have := h_b.le; have : n_b * 48 ≤ 140737488351232 := h_b.bnd
  refine enter (args := [.slice A_a n_a c_a, .slice A_b n_b c_b]) (N := 55) Try.func18 rfl rfl rfl ?_
  refine c_seq ?_
  refine c_region ?_
  refine st (v := .bool false) (x_assign .const) ?_
  refine c_nil ?_
  refine n_then ?_
  refine c_seq ?_
  refine c_seq ?_
  refine c_region ?_
  refine st (v := .slice A_a n_a c_a) (x_move (.tmp rfl rfl)) ?_
  refine st (v := .int .i64 ((n_a : Nat) : Int)) (x_len (n := n_a) Try.underlying22 (.tmp rfl rfl)) ?_
  refine st (v := .slice A_b n_b c_b) (x_move (.tmp rfl rfl)) ?_
  refine st (v := .int .i64 ((n_b : Nat) : Int)) (x_len (n := n_b) Try.underlying22 (.tmp rfl rfl)) ?_
  refine st (v := .bool (decide ((((n_a : Nat) : Int) : Int) ≠ ((n_b : Nat) : Int)))) (x_neq (k := .i64) (a := ((n_a : Nat) : Int)) (b := ((n_b : Nat) : Int)) (.tmp rfl rfl) (.tmp rfl rfl)) ?_
  refine c_nil ?_
  refine n_then ?_
  rcases Bool.eq_false_or_eq_true (decide ((((n_a : Nat) : Int) : Int) ≠ ((n_b : Nat) : Int))) with hc1 | hc1
  · have hp1 : (((n_a : Nat) : Int) : Int) ≠ ((n_b : Nat) : Int) := of_decide_eq_true hc1
    refine c_cond_t (t := true) (.tmp rfl (congrArg Value.bool hc1)) rfl ?_
    refine c_seq ?_
    refine c_region ?_
    refine st (v := .bool false) (x_assign .const) ?_
    refine c_nil ?_
    refine n_then ?_
    refine c_ret ?_
    refine r_then ?_
    refine leave_ret (res_one (v := .bool false) rfl (.mk rfl rfl)) ?_
    have hans2 : decide (a = b) = false := lists_ne_len (by omega)
    rw [hans2]
    exact ⟨rfl, hs⟩
  · have hp1 : ¬ ((((n_a : Nat) : Int) : Int) ≠ ((n_b : Nat) : Int)) := of_decide_eq_false hc1
    refine c_cond_f (t := false) (.tmp rfl (congrArg Value.bool hc1)) rfl ?_
    refine c_skip ?_
    refine n_then ?_
    refine c_seq ?_
    refine c_seq ?_
    refine c_region ?_
    refine st (v := .int .i64 0) (x_assign .const) ?_
    refine c_nil ?_
    refine n_then ?_
    refine c_block ?_
    refine c_loop (fun ρ w mm => ∃ (i : Nat), ρ 0 = .slice A_a n_a c_a ∧ ρ 1 = .slice A_b n_b c_b ∧ ρ 5 = .int .i64 ((i : Nat) : Int) ∧ (i ≤ n_a) ∧ (a.take i = b.take i) ∧ St H w (L) ∧ mm = n_a - i) _ ⟨0, rfl, rfl, rfl, (by omega), rfl, hs, rfl⟩ ?_
    rintro ρ w mm ⟨i, hρ4, hρ5, hρ6, hi, ht, hs7, rfl⟩
    refine c_seq ?_
    refine c_seq ?_
    refine c_region ?_
    refine st (v := .int .i64 ((i : Nat) : Int)) (x_move (.tmp rfl hρ6)) ?_
    refine st (v := .slice A_a n_a c_a) (x_move (.tmp rfl hρ4)) ?_
    refine st (v := .int .i64 ((n_a : Nat) : Int)) (x_len (n := n_a) Try.underlying22 (.tmp rfl rfl)) ?_
    refine st (v := .bool (decide ((((i : Nat) : Int) : Int) < ((n_a : Nat) : Int)))) (x_lss (k := .i64) (a := ((i : Nat) : Int)) (b := ((n_a : Nat) : Int)) (.tmp rfl rfl) (.tmp rfl rfl)) ?_
    refine c_nil ?_
    refine n_then ?_
    rcases Bool.eq_false_or_eq_true (decide ((((i : Nat) : Int) : Int) < ((n_a : Nat) : Int))) with hc8 | hc8
    · have hp8 : (((i : Nat) : Int) : Int) < ((n_a : Nat) : Int) := of_decide_eq_true hc8
      refine c_cond_t (t := true) (.tmp rfl (congrArg Value.bool hc8)) rfl ?_
      refine c_skip ?_
      refine n_then ?_
      refine c_seq ?_
      refine c_block ?_
      refine c_seq ?_
      refine q_region mixed hs7 (by kernel_rfl) ?_
      refine q_st (v := .slice A_a n_a c_a) (fun w hs => (x_move (.tmp rfl hρ4))) ?_
      refine q_st (v := .int .i64 ((i : Nat) : Int)) (fun w hs => (x_move (.tmp rfl hρ6))) ?_
      obtain ⟨e9, b10, o11, cs12, hx13, hA14, hr15, hat16⟩ := h_a.get (i := i) (by omega)
      obtain ⟨A22, n23, c24, rfl, b17, ⟨b18, b19⟩, ⟨b20, b21⟩, hl25⟩ := hr15
      have := hl25.len; have : n23 * 32 ≤ 140737488351232 := hl25.bnd; have := hl25.le
      have hat16x : ∀ {w : World} {L : List Res}, St H w L → At w ⟨b10, o11 + i * 4, none⟩ [.int .u64 ((e9.V.N : Nat) : Int), .int .i64 e9.V.P, .int .i64 e9.Floor, .slice A22 n23 c24] := fun h => hat16 h
      refine q_st (v := .pointer (some ⟨b10, (o11 + i * 4), none⟩)) (fun w hs => (ixo22 (.tmp rfl rfl) hA14 (i := ((i : Nat) : Int)) (.tmp rfl rfl) (by omega) (by omega) (by omega))) ?_
      refine q_st (v := .pointer (some ⟨b10, (o11 + i * 4) + 0, none⟩)) (fun w hs => (fa38_0 (.tmp rfl rfl))) ?_
      refine q_st (v := .agg #[.int .u64 ((e9.V.N : Nat) : Int), .int .i64 e9.V.P]) (fun w hs => (ld25 (cs := [.int .u64 ((e9.V.N : Nat) : Int), .int .i64 e9.V.P]) (.tmp rfl rfl) ((hat16x hs).sub 0 rfl) rfl)) ?_
      refine q_st (v := .slice A_b n_b c_b) (fun w hs => (x_move (.tmp rfl hρ5))) ?_
      refine q_st (v := .int .i64 ((i : Nat) : Int)) (fun w hs => (x_move (.tmp rfl hρ6))) ?_
      obtain ⟨e26, b27, o28, cs29, hx30, hA31, hr32, hat33⟩ := h_b.get (i := i) (by omega)
      obtain ⟨A39, n40, c41, rfl, b34, ⟨b35, b36⟩, ⟨b37, b38⟩, hl42⟩ := hr32
      have := hl42.len; have : n40 * 32 ≤ 140737488351232 := hl42.bnd; have := hl42.le
      have hat33x : ∀ {w : World} {L : List Res}, St H w L → At w ⟨b27, o28 + i * 4, none⟩ [.int .u64 ((e26.V.N : Nat) : Int), .int .i64 e26.V.P, .int .i64 e26.Floor, .slice A39 n40 c41] := fun h => hat33 h
      refine q_st (v := .pointer (some ⟨b27, (o28 + i * 4), none⟩)) (fun w hs => (ixo22 (.tmp rfl rfl) hA31 (i := ((i : Nat) : Int)) (.tmp rfl rfl) (by omega) (by omega) (by omega))) ?_
      refine q_st (v := .pointer (some ⟨b27, (o28 + i * 4) + 0, none⟩)) (fun w hs => (fa38_0 (.tmp rfl rfl))) ?_
      refine q_st (v := .agg #[.int .u64 ((e26.V.N : Nat) : Int), .int .i64 e26.V.P]) (fun w hs => (ld25 (cs := [.int .u64 ((e26.V.N : Nat) : Int), .int .i64 e26.V.P]) (.tmp rfl rfl) ((hat33x hs).sub 0 rfl) rfl)) ?_
      refine q_st (v := .bool (!((((e9.V.N : Nat) : Int) == ((e26.V.N : Nat) : Int)) && ((e9.V.P == e26.V.P) && true)))) (fun w hs => (x_neqA eqg25 (.tmp rfl rfl) (.tmp rfl rfl) (fun d => eqs25 (d + 98) _ ((e9.V.N : Nat) : Int) ((e26.V.N : Nat) : Int) e9.V.P e26.V.P))) ?_
      refine q_st (v := .bool (!(decide (e9.V = e26.V)))) (fun w hs => (x_move (.tmp rfl (congrArg (fun z => Value.bool (!z)) (GViewID.beq_dec e9.V e26.V))))) ?_
      rcases Bool.eq_false_or_eq_true (decide (e9.V = e26.V)) with hc43 | hc43
      · have hp43 : e9.V = e26.V := of_decide_eq_true hc43
        refine q_yes (yl (dj := 28) (b := false) rfl rfl (congrArg Value.bool (by rw [hc43]; rfl))) ?_
        refine q_st (v := .slice A_a n_a c_a) (fun w hs => (x_move (.tmp rfl hρ4))) ?_
        refine q_yes (yl (dj := 28) (b := false) rfl rfl (congrArg Value.bool (by rw [hc43]; rfl))) ?_
        refine q_st (v := .int .i64 ((i : Nat) : Int)) (fun w hs => (x_move (.tmp rfl hρ6))) ?_
        refine q_yes (yl (dj := 28) (b := false) rfl rfl (congrArg Value.bool (by rw [hc43]; rfl))) ?_
        refine q_st (v := .pointer (some ⟨b10, (o11 + i * 4), none⟩)) (fun w hs => (ixo22 (.tmp rfl rfl) hA14 (i := ((i : Nat) : Int)) (.tmp rfl rfl) (by omega) (by omega) (by omega))) ?_
        refine q_yes (yl (dj := 28) (b := false) rfl rfl (congrArg Value.bool (by rw [hc43]; rfl))) ?_
        refine q_st (v := .pointer (some ⟨b10, (o11 + i * 4) + 2, none⟩)) (fun w hs => (fa38_1 (.tmp rfl rfl))) ?_
        refine q_yes (yl (dj := 28) (b := false) rfl rfl (congrArg Value.bool (by rw [hc43]; rfl))) ?_
        refine q_st (v := .int .i64 e9.Floor) (fun w hs => (ld3 (.tmp rfl rfl) ((hat16x hs).cell 2 rfl))) ?_
        refine q_yes (yl (dj := 28) (b := false) rfl rfl (congrArg Value.bool (by rw [hc43]; rfl))) ?_
        refine q_st (v := .slice A_b n_b c_b) (fun w hs => (x_move (.tmp rfl hρ5))) ?_
        refine q_yes (yl (dj := 28) (b := false) rfl rfl (congrArg Value.bool (by rw [hc43]; rfl))) ?_
        refine q_st (v := .int .i64 ((i : Nat) : Int)) (fun w hs => (x_move (.tmp rfl hρ6))) ?_
        refine q_yes (yl (dj := 28) (b := false) rfl rfl (congrArg Value.bool (by rw [hc43]; rfl))) ?_
        refine q_st (v := .pointer (some ⟨b27, (o28 + i * 4), none⟩)) (fun w hs => (ixo22 (.tmp rfl rfl) hA31 (i := ((i : Nat) : Int)) (.tmp rfl rfl) (by omega) (by omega) (by omega))) ?_
        refine q_yes (yl (dj := 28) (b := false) rfl rfl (congrArg Value.bool (by rw [hc43]; rfl))) ?_
        refine q_st (v := .pointer (some ⟨b27, (o28 + i * 4) + 2, none⟩)) (fun w hs => (fa38_1 (.tmp rfl rfl))) ?_
        refine q_yes (yl (dj := 28) (b := false) rfl rfl (congrArg Value.bool (by rw [hc43]; rfl))) ?_
        refine q_st (v := .int .i64 e26.Floor) (fun w hs => (ld3 (.tmp rfl rfl) ((hat33x hs).cell 2 rfl))) ?_
        refine q_yes (yl (dj := 28) (b := false) rfl rfl (congrArg Value.bool (by rw [hc43]; rfl))) ?_
        refine q_st (v := .bool (decide ((e9.Floor : Int) ≠ e26.Floor))) (fun w hs => (x_neq (k := .i64) (a := e9.Floor) (b := e26.Floor) (.tmp rfl rfl) (.tmp rfl rfl))) ?_
        refine q_st (v := .bool (decide ((e9.Floor : Int) ≠ e26.Floor))) (fun w hs => (x_pick_f (.tmp rfl (congrArg Value.bool (by rw [hc43]; rfl))) (.tmp rfl rfl))) ?_
        refine q_st (v := .bool (decide ((e9.Floor : Int) ≠ e26.Floor))) (fun w hs => (x_move (.tmp rfl rfl))) ?_
        rcases Bool.eq_false_or_eq_true (decide ((e9.Floor : Int) ≠ e26.Floor)) with hc44 | hc44
        · have hp44 : (e9.Floor : Int) ≠ e26.Floor := of_decide_eq_true hc44
          refine q_no (yl (dj := 41) (b := true) rfl rfl (congrArg Value.bool hc44)) rfl ?_
          refine q_no (yl (dj := 41) (b := true) rfl rfl (congrArg Value.bool hc44)) rfl ?_
          refine q_no (yl (dj := 41) (b := true) rfl rfl (congrArg Value.bool hc44)) rfl ?_
          refine q_no (yl (dj := 41) (b := true) rfl rfl (congrArg Value.bool hc44)) rfl ?_
          refine q_no (yl (dj := 41) (b := true) rfl rfl (congrArg Value.bool hc44)) rfl ?_
          refine q_no (yl (dj := 41) (b := true) rfl rfl (congrArg Value.bool hc44)) rfl ?_
          refine q_no (yl (dj := 41) (b := true) rfl rfl (congrArg Value.bool hc44)) rfl ?_
          refine q_no (yl (dj := 41) (b := true) rfl rfl (congrArg Value.bool hc44)) rfl ?_
          refine q_no (yl (dj := 41) (b := true) rfl rfl (congrArg Value.bool hc44)) rfl ?_
          refine q_no (yl (dj := 41) (b := true) rfl rfl (congrArg Value.bool hc44)) rfl ?_
          refine q_no (yl (dj := 41) (b := true) rfl rfl (congrArg Value.bool hc44)) rfl ?_
          refine q_no (yl (dj := 41) (b := true) rfl rfl (congrArg Value.bool hc44)) rfl ?_
          refine q_st (v := .bool true) (fun w hs => (x_pick_t (.tmp rfl (congrArg Value.bool hc44)) .const)) ?_
          refine q_nil ?_
          intro w hs45
          refine n_then ?_
          refine c_cond_t (t := true) (.tmp rfl rfl) rfl ?_
          refine c_seq ?_
          refine c_region ?_
          refine st (v := .bool false) (x_assign .const) ?_
          refine c_nil ?_
          refine n_then ?_
          refine c_ret ?_
          refine r_block ?_
          refine r_then ?_
          refine r_then ?_
          refine r_block ?_
          refine r_then ?_
          refine leave_ret (res_one (v := .bool false) rfl (.mk rfl rfl)) ?_
          have hans46 : decide (a = b) = false := lists_ne_at hx13 hx30 (state_ne (fun h => absurd h.2.1 (by omega)))
          rw [hans46]
          exact ⟨rfl, hs45⟩
        · have hp44 : ¬ ((e9.Floor : Int) ≠ e26.Floor) := of_decide_eq_false hc44
          refine q_yes (yl (dj := 41) (b := false) rfl rfl (congrArg Value.bool hc44)) ?_
          refine q_st (v := .slice A_a n_a c_a) (fun w hs => (x_move (.tmp rfl hρ4))) ?_
          refine q_yes (yl (dj := 41) (b := false) rfl rfl (congrArg Value.bool hc44)) ?_
          refine q_st (v := .int .i64 ((i : Nat) : Int)) (fun w hs => (x_move (.tmp rfl hρ6))) ?_
          refine q_yes (yl (dj := 41) (b := false) rfl rfl (congrArg Value.bool hc44)) ?_
          refine q_st (v := .pointer (some ⟨b10, (o11 + i * 4), none⟩)) (fun w hs => (ixo22 (.tmp rfl rfl) hA14 (i := ((i : Nat) : Int)) (.tmp rfl rfl) (by omega) (by omega) (by omega))) ?_
          refine q_yes (yl (dj := 41) (b := false) rfl rfl (congrArg Value.bool hc44)) ?_
          refine q_st (v := .pointer (some ⟨b10, (o11 + i * 4) + 3, none⟩)) (fun w hs => (fa38_2 (.tmp rfl rfl))) ?_
          refine q_yes (yl (dj := 41) (b := false) rfl rfl (congrArg Value.bool hc44)) ?_
          refine q_st (v := .slice A22 n23 c24) (fun w hs => (ld29 (.tmp rfl rfl) ((hat16x hs).cell 3 rfl))) ?_
          refine q_yes (yl (dj := 41) (b := false) rfl rfl (congrArg Value.bool hc44)) ?_
          refine q_st (v := .slice A_b n_b c_b) (fun w hs => (x_move (.tmp rfl hρ5))) ?_
          refine q_yes (yl (dj := 41) (b := false) rfl rfl (congrArg Value.bool hc44)) ?_
          refine q_st (v := .int .i64 ((i : Nat) : Int)) (fun w hs => (x_move (.tmp rfl hρ6))) ?_
          refine q_yes (yl (dj := 41) (b := false) rfl rfl (congrArg Value.bool hc44)) ?_
          refine q_st (v := .pointer (some ⟨b27, (o28 + i * 4), none⟩)) (fun w hs => (ixo22 (.tmp rfl rfl) hA31 (i := ((i : Nat) : Int)) (.tmp rfl rfl) (by omega) (by omega) (by omega))) ?_
          refine q_yes (yl (dj := 41) (b := false) rfl rfl (congrArg Value.bool hc44)) ?_
          refine q_st (v := .pointer (some ⟨b27, (o28 + i * 4) + 3, none⟩)) (fun w hs => (fa38_2 (.tmp rfl rfl))) ?_
          refine q_yes (yl (dj := 41) (b := false) rfl rfl (congrArg Value.bool hc44)) ?_
          refine q_st (v := .slice A39 n40 c41) (fun w hs => (ld29 (.tmp rfl rfl) ((hat33x hs).cell 3 rfl))) ?_
          refine q_yes (yl (dj := 41) (b := false) rfl rfl (congrArg Value.bool hc44)) ?_
          refine q_c (v := .bool (decide (e9.Items = e26.Items))) cb15 .func (evs2 (.tmp rfl rfl) (.tmp rfl rfl)) (fun w hs => items_spec hs e9.Items hl25 e26.Items hl42 ) ?_
          refine q_yes (yl (dj := 41) (b := false) rfl rfl (congrArg Value.bool hc44)) ?_
          refine q_st (v := .bool (!(decide (e9.Items = e26.Items)))) (fun w hs => (x_not (.tmp rfl rfl))) ?_
          refine q_st (v := .bool (!(decide (e9.Items = e26.Items)))) (fun w hs => (x_pick_f (.tmp rfl (congrArg Value.bool hc44)) (.tmp rfl rfl))) ?_
          refine q_nil ?_
          intro w hs47
          refine n_then ?_
          rcases Bool.eq_false_or_eq_true (decide (e9.Items = e26.Items)) with hc48 | hc48
          · refine c_cond_f (t := false) (.tmp rfl (congrArg Value.bool (by rw [hc48]; rfl))) rfl ?_
            refine c_skip ?_
            refine n_block ?_
            refine n_then ?_
            refine c_region ?_
            refine st (v := .int .i64 ((i : Nat) : Int)) (x_move (.tmp rfl hρ6)) ?_
            refine st (v := .int .i64 (((i + 1) : Nat) : Int)) (x_add (k := .i64) (a := ((i : Nat) : Int)) (b := 1) (.tmp rfl rfl) .const ((w64 (by omega) (by omega)).trans (by omega))) ?_
            refine st (v := .int .i64 (((i + 1) : Nat) : Int)) (x_assign (.tmp rfl rfl)) ?_
            refine c_nil ?_
            refine n_then ⟨_, _, rfl, ?_, (i + 1), hρ4, hρ5, rfl, (by omega), (take_eq_next ht hx13 hx30 (state_eq hp43 (by omega) hc48)), hs47, rfl⟩
            omega
          · refine c_cond_t (t := true) (.tmp rfl (congrArg Value.bool (by rw [hc48]; rfl))) rfl ?_
            refine c_seq ?_
            refine c_region ?_
            refine st (v := .bool false) (x_assign .const) ?_
            refine c_nil ?_
            refine n_then ?_
            refine c_ret ?_
            refine r_block ?_
            refine r_then ?_
            refine r_then ?_
            refine r_block ?_
            refine r_then ?_
            refine leave_ret (res_one (v := .bool false) rfl (.mk rfl rfl)) ?_
            have hans49 : decide (a = b) = false := lists_ne_at hx13 hx30 (state_ne (fun h => of_decide_eq_false hc48 h.2.2))
            rw [hans49]
            exact ⟨rfl, hs47⟩
      · have hp43 : ¬ (e9.V = e26.V) := of_decide_eq_false hc43
        refine q_no (yl (dj := 28) (b := true) rfl rfl (congrArg Value.bool (by rw [hc43]; rfl))) rfl ?_
        refine q_no (yl (dj := 28) (b := true) rfl rfl (congrArg Value.bool (by rw [hc43]; rfl))) rfl ?_
        refine q_no (yl (dj := 28) (b := true) rfl rfl (congrArg Value.bool (by rw [hc43]; rfl))) rfl ?_
        refine q_no (yl (dj := 28) (b := true) rfl rfl (congrArg Value.bool (by rw [hc43]; rfl))) rfl ?_
        refine q_no (yl (dj := 28) (b := true) rfl rfl (congrArg Value.bool (by rw [hc43]; rfl))) rfl ?_
        refine q_no (yl (dj := 28) (b := true) rfl rfl (congrArg Value.bool (by rw [hc43]; rfl))) rfl ?_
        refine q_no (yl (dj := 28) (b := true) rfl rfl (congrArg Value.bool (by rw [hc43]; rfl))) rfl ?_
        refine q_no (yl (dj := 28) (b := true) rfl rfl (congrArg Value.bool (by rw [hc43]; rfl))) rfl ?_
        refine q_no (yl (dj := 28) (b := true) rfl rfl (congrArg Value.bool (by rw [hc43]; rfl))) rfl ?_
        refine q_no (yl (dj := 28) (b := true) rfl rfl (congrArg Value.bool (by rw [hc43]; rfl))) rfl ?_
        refine q_no (yl (dj := 28) (b := true) rfl rfl (congrArg Value.bool (by rw [hc43]; rfl))) rfl ?_
        refine q_st (v := .bool true) (fun w hs => (x_pick_t (.tmp rfl (congrArg Value.bool (by rw [hc43]; rfl))) .const)) ?_
        refine q_st (v := .bool true) (fun w hs => (x_move (.tmp rfl rfl))) ?_
        refine q_no (yl (dj := 41) (b := true) rfl rfl rfl) rfl ?_
        refine q_no (yl (dj := 41) (b := true) rfl rfl rfl) rfl ?_
        refine q_no (yl (dj := 41) (b := true) rfl rfl rfl) rfl ?_
        refine q_no (yl (dj := 41) (b := true) rfl rfl rfl) rfl ?_
        refine q_no (yl (dj := 41) (b := true) rfl rfl rfl) rfl ?_
        refine q_no (yl (dj := 41) (b := true) rfl rfl rfl) rfl ?_
        refine q_no (yl (dj := 41) (b := true) rfl rfl rfl) rfl ?_
        refine q_no (yl (dj := 41) (b := true) rfl rfl rfl) rfl ?_
        refine q_no (yl (dj := 41) (b := true) rfl rfl rfl) rfl ?_
        refine q_no (yl (dj := 41) (b := true) rfl rfl rfl) rfl ?_
        refine q_no (yl (dj := 41) (b := true) rfl rfl rfl) rfl ?_
        refine q_no (yl (dj := 41) (b := true) rfl rfl rfl) rfl ?_
        refine q_st (v := .bool true) (fun w hs => (x_pick_t (.tmp rfl rfl) .const)) ?_
        refine q_nil ?_
        intro w hs50
        refine n_then ?_
        refine c_cond_t (t := true) (.tmp rfl rfl) rfl ?_
        refine c_seq ?_
        refine c_region ?_
        refine st (v := .bool false) (x_assign .const) ?_
        refine c_nil ?_
        refine n_then ?_
        refine c_ret ?_
        refine r_block ?_
        refine r_then ?_
        refine r_then ?_
        refine r_block ?_
        refine r_then ?_
        refine leave_ret (res_one (v := .bool false) rfl (.mk rfl rfl)) ?_
        have hans51 : decide (a = b) = false := lists_ne_at hx13 hx30 (state_ne (fun h => hp43 h.1))
        rw [hans51]
        exact ⟨rfl, hs50⟩
    · have hp8 : ¬ ((((i : Nat) : Int) : Int) < ((n_a : Nat) : Int)) := of_decide_eq_false hc8
      refine c_cond_f (t := false) (.tmp rfl (congrArg Value.bool hc8)) rfl ?_
      refine c_exit ?_
      refine x_then ?_
      refine x_then ?_
      refine x_here ?_
      refine n_then ?_
      refine c_seq ?_
      refine c_region ?_
      refine st (v := .bool true) (x_assign .const) ?_
      refine c_nil ?_
      refine n_then ?_
      refine c_ret ?_
      refine leave_ret (res_one (v := .bool true) rfl (.mk rfl rfl)) ?_
      have hans52 : decide (a = b) = true := lists_eq ht (by omega) (by omega)
      rw [hans52]
      exact ⟨rfl, hs7⟩

end Go.Proofs.Ytkbllbphkdnmbaa
