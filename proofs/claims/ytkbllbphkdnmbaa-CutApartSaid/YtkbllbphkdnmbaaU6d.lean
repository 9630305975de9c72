/- Steps of the proofs over the functions of this seat, printed by a program (gen.py) and checked by Lean. -/
import Derived.Test.YtkbllbphkdnmbaaUty
import Derived.Test.YtkbllbphkdnmbaaFmM6
import Derived.Test.YtkbllbphkdnmbaaU6c
set_option linter.unusedVariables false
set_option linter.unusedSimpArgs false
namespace Go.Proofs.Ytkbllbphkdnmbaa
open Go Go.FM Go.Proofs
attribute [local irreducible] wpList wpQuiet wpS Code.wp Calls
set_option maxHeartbeats 8000000 in
theorem rjoin_spec {H : Hp} {w : World} {L : List Res} (hs : St H w (L)) {A_l : Option Addr} {n_l c_l : Nat} (l : (List GState)) (h_l : Sl kState H A_l n_l c_l l) (hb : ∀ s ∈ l, 0 ≤ s.Floor ∧ s.Floor ≤ 1073741824) : Calls Try.prog 12 #[.slice A_l n_l c_l] w (fun e w' => ∃ (v0 : Value) (cs0 : List Value), e = .returned (v0) ∧ RowOk kState.sz v0 (joinS l).length cs0 ∧ kState.toKn.rows H (joinS l) cs0 ∧ St H w' (row 38 kState.sz v0 (joinS l).length cs0 :: L)) := by
  have := h_l.len; have := h_l.le; have : n_l * 48 ≤ 140737488351232 := h_l.bnd
  refine enter (args := [.slice A_l n_l c_l]) (N := 120) Try.func12 rfl rfl rfl ?_
  refine c_seq ?_
  refine c_region ?_
  refine st (v := .slice none 0 0) (x_assign .const) ?_
  refine c_nil ?_
  refine n_then ?_
  refine c_seq ?_
  refine c_region ?_
  refine st (v := .slice none 0 0) (x_assign .const) ?_
  refine c_nil ?_
  refine n_then ?_
  refine c_seq ?_
  refine c_seq ?_
  refine c_region ?_
  refine st (v := .int .i64 0) (x_assign .const) ?_
  refine c_nil ?_
  refine n_then ?_
  refine c_block ?_
  have hs2 : St H _ (row 38 4 (.slice none 0 0) (([] : List GState).length) [] :: L) := hs.krowNil 38 kState
  have : ([] : List GState).length = 0 := rfl
  refine c_loop (fun ρ w mm => ∃ (out : List GState) (v_out : Value) (c_out : List Value) (i : Nat), ρ 0 = .slice A_l n_l c_l ∧ ρ 3 = v_out ∧ ρ 4 = .int .i64 ((i : Nat) : Int) ∧ (RowOk kState.sz v_out out.length c_out) ∧ (kState.toKn.rows H out c_out) ∧ (i ≤ n_l) ∧ (out = joinTo l i) ∧ (out.length ≤ i) ∧ St H w (row 38 4 v_out out.length c_out :: L) ∧ mm = n_l - i) _ ⟨([] : List GState), (.slice none 0 0), [], 0, rfl, rfl, rfl, (RowOk.knil kState), (Kn.rows_nil _ _), (by omega), rfl, (by omega), hs2, rfl⟩ ?_
  rintro ρ w mm ⟨out, v_out, c_out, i, hρ4, hρ5, hρ6, ok_out, hk_out, hi, hout, hol, hs7, rfl⟩
  refine c_seq ?_
  refine c_seq ?_
  refine c_region ?_
  refine st (v := .int .i64 ((i : Nat) : Int)) (x_move (.tmp rfl hρ6)) ?_
  refine st (v := .slice A_l n_l c_l) (x_move (.tmp rfl hρ4)) ?_
  refine st (v := .int .i64 ((n_l : Nat) : Int)) (x_len (n := n_l) Try.underlying22 (.tmp rfl rfl)) ?_
  refine st (v := .bool (decide ((((i : Nat) : Int) : Int) < ((n_l : Nat) : Int)))) (x_lss (k := .i64) (a := ((i : Nat) : Int)) (b := ((n_l : Nat) : Int)) (.tmp rfl rfl) (.tmp rfl rfl)) ?_
  refine c_nil ?_
  refine n_then ?_
  rcases Bool.eq_false_or_eq_true (decide ((((i : Nat) : Int) : Int) < ((n_l : Nat) : Int))) with hc8 | hc8
  · have hp8 : (((i : Nat) : Int) : Int) < ((n_l : Nat) : Int) := of_decide_eq_true hc8
    refine c_cond_t (t := true) (.tmp rfl (congrArg Value.bool hc8)) rfl ?_
    refine c_skip ?_
    refine n_then ?_
    refine c_seq ?_
    refine c_block ?_
    refine c_seq ?_
    refine c_region ?_
    refine st (v := .slice A_l n_l c_l) (x_move (.tmp rfl hρ4)) ?_
    refine st (v := .int .i64 ((i : Nat) : Int)) (x_move (.tmp rfl hρ6)) ?_
    obtain ⟨e9, b10, o11, cs12, hx13, hA14, hr15, hat16⟩ := h_l.get (i := i) (by omega)
    obtain ⟨A22, n23, c24, rfl, b17, ⟨b18, b19⟩, ⟨b20, b21⟩, hl25⟩ := hr15
    have := hl25.len; have : n23 * 32 ≤ 140737488351232 := hl25.bnd; have := hl25.le
    have hat16x : ∀ {w : World} {L : List Res}, St H w L → At w ⟨b10, o11 + i * 4, none⟩ [.int .u64 ((e9.V.N : Nat) : Int), .int .i64 e9.V.P, .int .i64 e9.Floor, .slice A22 n23 c24] := fun h => hat16 h
    have := hb e9 (List.mem_of_getElem? hx13)
    have hEe9 : sEnd e9 = e9.Floor + (e9.Items.length : Int) := rfl
    refine st (v := .pointer (some ⟨b10, (o11 + i * 4), none⟩)) (ixo22 (.tmp rfl rfl) hA14 (i := ((i : Nat) : Int)) (.tmp rfl rfl) (by omega) (by omega) (by omega)) ?_
    refine st (v := .pointer (some ⟨b10, (o11 + i * 4) + 0, none⟩)) (fa38_0 (.tmp rfl rfl)) ?_
    refine st (v := .pointer (some ⟨b10, (o11 + i * 4) + 0 + 0, none⟩)) (fa25_0 (.tmp rfl rfl)) ?_
    refine st (v := .int .u64 ((e9.V.N : Nat) : Int)) (ld23 (.tmp rfl rfl) ((hat16x hs7).cell 0 rfl)) ?_
    refine st (v := .bool (decide ((0 : Int) < ((e9.V.N : Nat) : Int)))) (x_gtr (k := .u64) (a := ((e9.V.N : Nat) : Int)) (b := 0) (.tmp rfl rfl) .const) ?_
    refine st (v := .bool (decide ((0 : Int) < ((e9.V.N : Nat) : Int)))) (x_assign (.tmp rfl rfl)) ?_
    refine c_nil ?_
    refine n_then ?_
    refine c_seq ?_
    refine c_seq ?_
    refine c_region ?_
    refine st (v := .int .i64 0) (x_assign .const) ?_
    refine c_nil ?_
    refine n_then ?_
    refine c_block ?_
    refine c_loop (fun ρ w mm => ∃ (best : Bool) (k : Nat), ρ 0 = .slice A_l n_l c_l ∧ ρ 3 = v_out ∧ ρ 4 = .int .i64 ((i : Nat) : Int) ∧ ρ 5 = .bool best ∧ ρ 6 = .int .i64 ((k : Nat) : Int) ∧ (k ≤ n_l) ∧ (best = bestTo l e9 i k) ∧ St H w (row 38 4 v_out out.length c_out :: L) ∧ mm = n_l - k) _ ⟨(decide ((0 : Int) < ((e9.V.N : Nat) : Int))), 0, hρ4, hρ5, hρ6, rfl, rfl, (by omega), (decide_eq_decide.2 (by omega)), hs7, rfl⟩ ?_
    rintro ρ w mm ⟨best, k, hρ27, hρ28, hρ29, hρ30, hρ31, hk, hbest, hs32, rfl⟩
    refine c_seq ?_
    refine c_seq ?_
    refine c_region ?_
    refine st (v := .int .i64 ((k : Nat) : Int)) (x_move (.tmp rfl hρ31)) ?_
    refine st (v := .slice A_l n_l c_l) (x_move (.tmp rfl hρ27)) ?_
    refine st (v := .int .i64 ((n_l : Nat) : Int)) (x_len (n := n_l) Try.underlying22 (.tmp rfl rfl)) ?_
    refine st (v := .bool (decide ((((k : Nat) : Int) : Int) < ((n_l : Nat) : Int)))) (x_lss (k := .i64) (a := ((k : Nat) : Int)) (b := ((n_l : Nat) : Int)) (.tmp rfl rfl) (.tmp rfl rfl)) ?_
    refine c_nil ?_
    refine n_then ?_
    rcases Bool.eq_false_or_eq_true (decide ((((k : Nat) : Int) : Int) < ((n_l : Nat) : Int))) with hc33 | hc33
    · have hp33 : (((k : Nat) : Int) : Int) < ((n_l : Nat) : Int) := of_decide_eq_true hc33
      refine c_cond_t (t := true) (.tmp rfl (congrArg Value.bool hc33)) rfl ?_
      refine c_skip ?_
      refine n_then ?_
      refine c_seq ?_
      refine c_block ?_
      refine c_seq ?_
      refine q_region mixed hs32 (by kernel_rfl) ?_
      refine q_st (v := .slice A_l n_l c_l) (fun w hs => (x_move (.tmp rfl hρ27))) ?_
      refine q_st (v := .int .i64 ((k : Nat) : Int)) (fun w hs => (x_move (.tmp rfl hρ31))) ?_
      obtain ⟨e34, b35, o36, cs37, hx38, hA39, hr40, hat41⟩ := h_l.get (i := k) (by omega)
      obtain ⟨A47, n48, c49, rfl, b42, ⟨b43, b44⟩, ⟨b45, b46⟩, hl50⟩ := hr40
      have := hl50.len; have : n48 * 32 ≤ 140737488351232 := hl50.bnd; have := hl50.le
      have hat41x : ∀ {w : World} {L : List Res}, St H w L → At w ⟨b35, o36 + k * 4, none⟩ [.int .u64 ((e34.V.N : Nat) : Int), .int .i64 e34.V.P, .int .i64 e34.Floor, .slice A47 n48 c49] := fun h => hat41 h
      have := hb e34 (List.mem_of_getElem? hx38)
      have hEe34 : sEnd e34 = e34.Floor + (e34.Items.length : Int) := rfl
      refine q_st (v := .pointer (some ⟨b35, (o36 + k * 4), none⟩)) (fun w hs => (ixo22 (.tmp rfl rfl) hA39 (i := ((k : Nat) : Int)) (.tmp rfl rfl) (by omega) (by omega) (by omega))) ?_
      refine q_st (v := .pointer (some ⟨b35, (o36 + k * 4) + 0, none⟩)) (fun w hs => (fa38_0 (.tmp rfl rfl))) ?_
      refine q_st (v := .agg #[.int .u64 ((e34.V.N : Nat) : Int), .int .i64 e34.V.P]) (fun w hs => (ld25 (cs := [.int .u64 ((e34.V.N : Nat) : Int), .int .i64 e34.V.P]) (.tmp rfl rfl) ((hat41x hs).sub 0 rfl) rfl)) ?_
      refine q_st (v := .slice A_l n_l c_l) (fun w hs => (x_move (.tmp rfl hρ27))) ?_
      refine q_st (v := .int .i64 ((i : Nat) : Int)) (fun w hs => (x_move (.tmp rfl hρ29))) ?_
      refine q_st (v := .pointer (some ⟨b10, (o11 + i * 4), none⟩)) (fun w hs => (ixo22 (.tmp rfl rfl) hA14 (i := ((i : Nat) : Int)) (.tmp rfl rfl) (by omega) (by omega) (by omega))) ?_
      refine q_st (v := .pointer (some ⟨b10, (o11 + i * 4) + 0, none⟩)) (fun w hs => (fa38_0 (.tmp rfl rfl))) ?_
      refine q_st (v := .agg #[.int .u64 ((e9.V.N : Nat) : Int), .int .i64 e9.V.P]) (fun w hs => (ld25 (cs := [.int .u64 ((e9.V.N : Nat) : Int), .int .i64 e9.V.P]) (.tmp rfl rfl) ((hat16x hs).sub 0 rfl) rfl)) ?_
      refine q_st (v := .bool ((((e34.V.N : Nat) : Int) == ((e9.V.N : Nat) : Int)) && ((e34.V.P == e9.V.P) && true))) (fun w hs => (x_eqlA eqg25 (.tmp rfl rfl) (.tmp rfl rfl) (fun d => eqs25 (d + 98) _ ((e34.V.N : Nat) : Int) ((e9.V.N : Nat) : Int) e34.V.P e9.V.P))) ?_
      refine q_st (v := .bool (decide (e34.V = e9.V))) (fun w hs => (x_move (.tmp rfl (congrArg Value.bool (GViewID.beq_dec e34.V e9.V))))) ?_
      rcases Bool.eq_false_or_eq_true (decide (e34.V = e9.V)) with hc51 | hc51
      · have hp51 : e34.V = e9.V := of_decide_eq_true hc51
        refine q_yes (yl (dj := 40) (b := true) rfl rfl (congrArg Value.bool hc51)) ?_
        refine q_st (v := .slice A_l n_l c_l) (fun w hs => (x_move (.tmp rfl hρ27))) ?_
        refine q_yes (yl (dj := 40) (b := true) rfl rfl (congrArg Value.bool hc51)) ?_
        refine q_st (v := .int .i64 ((k : Nat) : Int)) (fun w hs => (x_move (.tmp rfl hρ31))) ?_
        refine q_yes (yl (dj := 40) (b := true) rfl rfl (congrArg Value.bool hc51)) ?_
        refine q_st (v := .pointer (some ⟨b35, (o36 + k * 4), none⟩)) (fun w hs => (ixo22 (.tmp rfl rfl) hA39 (i := ((k : Nat) : Int)) (.tmp rfl rfl) (by omega) (by omega) (by omega))) ?_
        refine q_yes (yl (dj := 40) (b := true) rfl rfl (congrArg Value.bool hc51)) ?_
        refine q_st (v := .agg #[.int .u64 ((e34.V.N : Nat) : Int), .int .i64 e34.V.P, .int .i64 e34.Floor, .slice A47 n48 c49]) (fun w hs => (ld38 (cs := [.int .u64 ((e34.V.N : Nat) : Int), .int .i64 e34.V.P, .int .i64 e34.Floor, .slice A47 n48 c49]) (.tmp rfl rfl) ((hat41x hs).sub 0 rfl) rfl)) ?_
        refine q_yes (yl (dj := 40) (b := true) rfl rfl (congrArg Value.bool hc51)) ?_
        refine q_c (v := .int .i64 (sEnd e34)) cb21 .func (evs1 (.tmp rfl rfl)) (fun w hs => rend_spec hs e34 (k_s := [.int .u64 ((e34.V.N : Nat) : Int), .int .i64 e34.V.P, .int .i64 e34.Floor, .slice A47 n48 c49]) ⟨A47, n48, c49, rfl, b42, ⟨b43, b44⟩, ⟨b45, b46⟩, hl50⟩ (show (0 : Int) ≤ e34.Floor from by omega) (show e34.Floor ≤ (1073741824 : Int) from by omega)) ?_
        refine q_yes (yl (dj := 40) (b := true) rfl rfl (congrArg Value.bool hc51)) ?_
        refine q_st (v := .slice A_l n_l c_l) (fun w hs => (x_move (.tmp rfl hρ27))) ?_
        refine q_yes (yl (dj := 40) (b := true) rfl rfl (congrArg Value.bool hc51)) ?_
        refine q_st (v := .int .i64 ((i : Nat) : Int)) (fun w hs => (x_move (.tmp rfl hρ29))) ?_
        refine q_yes (yl (dj := 40) (b := true) rfl rfl (congrArg Value.bool hc51)) ?_
        refine q_st (v := .pointer (some ⟨b10, (o11 + i * 4), none⟩)) (fun w hs => (ixo22 (.tmp rfl rfl) hA14 (i := ((i : Nat) : Int)) (.tmp rfl rfl) (by omega) (by omega) (by omega))) ?_
        refine q_yes (yl (dj := 40) (b := true) rfl rfl (congrArg Value.bool hc51)) ?_
        refine q_st (v := .agg #[.int .u64 ((e9.V.N : Nat) : Int), .int .i64 e9.V.P, .int .i64 e9.Floor, .slice A22 n23 c24]) (fun w hs => (ld38 (cs := [.int .u64 ((e9.V.N : Nat) : Int), .int .i64 e9.V.P, .int .i64 e9.Floor, .slice A22 n23 c24]) (.tmp rfl rfl) ((hat16x hs).sub 0 rfl) rfl)) ?_
        refine q_yes (yl (dj := 40) (b := true) rfl rfl (congrArg Value.bool hc51)) ?_
        refine q_c (v := .int .i64 (sEnd e9)) cb21 .func (evs1 (.tmp rfl rfl)) (fun w hs => rend_spec hs e9 (k_s := [.int .u64 ((e9.V.N : Nat) : Int), .int .i64 e9.V.P, .int .i64 e9.Floor, .slice A22 n23 c24]) ⟨A22, n23, c24, rfl, b17, ⟨b18, b19⟩, ⟨b20, b21⟩, hl25⟩ (show (0 : Int) ≤ e9.Floor from by omega) (show e9.Floor ≤ (1073741824 : Int) from by omega)) ?_
        refine q_yes (yl (dj := 40) (b := true) rfl rfl (congrArg Value.bool hc51)) ?_
        refine q_st (v := .bool (decide (((sEnd e9) : Int) < (sEnd e34)))) (fun w hs => (x_gtr (k := .i64) (a := (sEnd e34)) (b := (sEnd e9)) (.tmp rfl rfl) (.tmp rfl rfl))) ?_
        refine q_yes (yl (dj := 40) (b := true) rfl rfl (congrArg Value.bool hc51)) ?_
        refine q_st (v := .bool (decide (((sEnd e9) : Int) < (sEnd e34)))) (fun w hs => (x_move (.tmp rfl rfl))) ?_
        rcases Bool.eq_false_or_eq_true (decide (((sEnd e9) : Int) < (sEnd e34))) with hc54 | hc54
        · have hp54 : ((sEnd e9) : Int) < (sEnd e34) := of_decide_eq_true hc54
          refine q_no (yl (dj := 52) (b := true) rfl rfl (congrArg Value.bool hc54)) rfl ?_
          refine q_no (yl (dj := 52) (b := true) rfl rfl (congrArg Value.bool hc54)) rfl ?_
          refine q_no (yl (dj := 52) (b := true) rfl rfl (congrArg Value.bool hc54)) rfl ?_
          refine q_no (yl (dj := 52) (b := true) rfl rfl (congrArg Value.bool hc54)) rfl ?_
          refine q_no (yl (dj := 52) (b := true) rfl rfl (congrArg Value.bool hc54)) rfl ?_
          refine q_no (yl (dj := 52) (b := true) rfl rfl (congrArg Value.bool hc54)) rfl ?_
          refine q_no (yl (dj := 52) (b := true) rfl rfl (congrArg Value.bool hc54)) rfl ?_
          refine q_no (yl (dj := 52) (b := true) rfl rfl (congrArg Value.bool hc54)) rfl ?_
          refine q_no (yl (dj := 52) (b := true) rfl rfl (congrArg Value.bool hc54)) rfl ?_
          refine q_no (yl (dj := 52) (b := true) rfl rfl (congrArg Value.bool hc54)) rfl ?_
          refine q_no (yl (dj := 52) (b := true) rfl rfl (congrArg Value.bool hc54)) rfl ?_
          refine q_no (yl (dj := 52) (b := true) rfl rfl (congrArg Value.bool hc54)) rfl ?_
          refine q_no0 (yn (dj := 64) rfl rfl) ?_
          refine q_no0 (yn (dj := 64) rfl rfl) ?_
          refine q_no0 (yn (dj := 64) rfl rfl) ?_
          refine q_no (yl (dj := 52) (b := true) rfl rfl (congrArg Value.bool hc54)) rfl ?_
          refine q_yes (yl (dj := 40) (b := true) rfl rfl (congrArg Value.bool hc51)) ?_
          refine q_st (v := .bool true) (fun w hs => (x_pick_t (.tmp rfl (congrArg Value.bool hc54)) .const)) ?_
          refine q_st (v := .bool true) (fun w hs => (x_pick_t (.tmp rfl (congrArg Value.bool hc51)) (.tmp rfl rfl))) ?_
          refine q_nil ?_
          intro w hs55
          refine n_then ?_
          refine c_cond_t (t := true) (.tmp rfl rfl) rfl ?_
          refine c_region ?_
          refine st (v := .bool false) (x_assign .const) ?_
          refine c_nil ?_
          refine n_block ?_
          refine n_then ?_
          refine c_region ?_
          refine st (v := .int .i64 ((k : Nat) : Int)) (x_move (.tmp rfl hρ31)) ?_
          refine st (v := .int .i64 (((k + 1) : Nat) : Int)) (x_add (k := .i64) (a := ((k : Nat) : Int)) (b := 1) (.tmp rfl rfl) .const ((w64 (by omega) (by omega)).trans (by omega))) ?_
          refine st (v := .int .i64 (((k + 1) : Nat) : Int)) (x_assign (.tmp rfl rfl)) ?_
          refine c_nil ?_
          refine n_then ⟨_, _, rfl, ?_, false, (k + 1), hρ27, hρ28, hρ29, rfl, rfl, (by omega), (bestTo_lost (i := i) hx38 ⟨by first | assumption | rfl, by omega⟩), hs55, rfl⟩
          omega
        · have hp54 : ¬ (((sEnd e9) : Int) < (sEnd e34)) := of_decide_eq_false hc54
          refine q_yes (yl (dj := 52) (b := false) rfl rfl (congrArg Value.bool hc54)) ?_
          refine q_st (v := .slice A_l n_l c_l) (fun w hs => (x_move (.tmp rfl hρ27))) ?_
          refine q_yes (yl (dj := 52) (b := false) rfl rfl (congrArg Value.bool hc54)) ?_
          refine q_st (v := .int .i64 ((k : Nat) : Int)) (fun w hs => (x_move (.tmp rfl hρ31))) ?_
          refine q_yes (yl (dj := 52) (b := false) rfl rfl (congrArg Value.bool hc54)) ?_
          refine q_st (v := .pointer (some ⟨b35, (o36 + k * 4), none⟩)) (fun w hs => (ixo22 (.tmp rfl rfl) hA39 (i := ((k : Nat) : Int)) (.tmp rfl rfl) (by omega) (by omega) (by omega))) ?_
          refine q_yes (yl (dj := 52) (b := false) rfl rfl (congrArg Value.bool hc54)) ?_
          refine q_st (v := .agg #[.int .u64 ((e34.V.N : Nat) : Int), .int .i64 e34.V.P, .int .i64 e34.Floor, .slice A47 n48 c49]) (fun w hs => (ld38 (cs := [.int .u64 ((e34.V.N : Nat) : Int), .int .i64 e34.V.P, .int .i64 e34.Floor, .slice A47 n48 c49]) (.tmp rfl rfl) ((hat41x hs).sub 0 rfl) rfl)) ?_
          refine q_yes (yl (dj := 52) (b := false) rfl rfl (congrArg Value.bool hc54)) ?_
          refine q_c (v := .int .i64 (sEnd e34)) cb21 .func (evs1 (.tmp rfl rfl)) (fun w hs => rend_spec hs e34 (k_s := [.int .u64 ((e34.V.N : Nat) : Int), .int .i64 e34.V.P, .int .i64 e34.Floor, .slice A47 n48 c49]) ⟨A47, n48, c49, rfl, b42, ⟨b43, b44⟩, ⟨b45, b46⟩, hl50⟩ (show (0 : Int) ≤ e34.Floor from by omega) (show e34.Floor ≤ (1073741824 : Int) from by omega)) ?_
          refine q_yes (yl (dj := 52) (b := false) rfl rfl (congrArg Value.bool hc54)) ?_
          refine q_st (v := .slice A_l n_l c_l) (fun w hs => (x_move (.tmp rfl hρ27))) ?_
          refine q_yes (yl (dj := 52) (b := false) rfl rfl (congrArg Value.bool hc54)) ?_
          refine q_st (v := .int .i64 ((i : Nat) : Int)) (fun w hs => (x_move (.tmp rfl hρ29))) ?_
          refine q_yes (yl (dj := 52) (b := false) rfl rfl (congrArg Value.bool hc54)) ?_
          refine q_st (v := .pointer (some ⟨b10, (o11 + i * 4), none⟩)) (fun w hs => (ixo22 (.tmp rfl rfl) hA14 (i := ((i : Nat) : Int)) (.tmp rfl rfl) (by omega) (by omega) (by omega))) ?_
          refine q_yes (yl (dj := 52) (b := false) rfl rfl (congrArg Value.bool hc54)) ?_
          refine q_st (v := .agg #[.int .u64 ((e9.V.N : Nat) : Int), .int .i64 e9.V.P, .int .i64 e9.Floor, .slice A22 n23 c24]) (fun w hs => (ld38 (cs := [.int .u64 ((e9.V.N : Nat) : Int), .int .i64 e9.V.P, .int .i64 e9.Floor, .slice A22 n23 c24]) (.tmp rfl rfl) ((hat16x hs).sub 0 rfl) rfl)) ?_
          refine q_yes (yl (dj := 52) (b := false) rfl rfl (congrArg Value.bool hc54)) ?_
          refine q_c (v := .int .i64 (sEnd e9)) cb21 .func (evs1 (.tmp rfl rfl)) (fun w hs => rend_spec hs e9 (k_s := [.int .u64 ((e9.V.N : Nat) : Int), .int .i64 e9.V.P, .int .i64 e9.Floor, .slice A22 n23 c24]) ⟨A22, n23, c24, rfl, b17, ⟨b18, b19⟩, ⟨b20, b21⟩, hl25⟩ (show (0 : Int) ≤ e9.Floor from by omega) (show e9.Floor ≤ (1073741824 : Int) from by omega)) ?_
          refine q_yes (yl (dj := 52) (b := false) rfl rfl (congrArg Value.bool hc54)) ?_
          refine q_st (v := .bool (decide (((sEnd e34) : Int) = (sEnd e9)))) (fun w hs => (x_eql (k := .i64) (a := (sEnd e34)) (b := (sEnd e9)) (.tmp rfl rfl) (.tmp rfl rfl))) ?_
          refine q_yes (yl (dj := 52) (b := false) rfl rfl (congrArg Value.bool hc54)) ?_
          refine q_st (v := .bool (decide (((sEnd e34) : Int) = (sEnd e9)))) (fun w hs => (x_move (.tmp rfl rfl))) ?_
          rcases Bool.eq_false_or_eq_true (decide (((sEnd e34) : Int) = (sEnd e9))) with hc58 | hc58
          · have hp58 : ((sEnd e34) : Int) = (sEnd e9) := of_decide_eq_true hc58
            refine q_yes (yl (dj := 64) (b := true) rfl rfl (congrArg Value.bool hc58)) ?_
            refine q_st (v := .int .i64 ((k : Nat) : Int)) (fun w hs => (x_move (.tmp rfl hρ31))) ?_
            refine q_yes (yl (dj := 64) (b := true) rfl rfl (congrArg Value.bool hc58)) ?_
            refine q_st (v := .int .i64 ((i : Nat) : Int)) (fun w hs => (x_move (.tmp rfl hρ29))) ?_
            refine q_yes (yl (dj := 64) (b := true) rfl rfl (congrArg Value.bool hc58)) ?_
            refine q_st (v := .bool (decide ((((k : Nat) : Int) : Int) < ((i : Nat) : Int)))) (fun w hs => (x_lss (k := .i64) (a := ((k : Nat) : Int)) (b := ((i : Nat) : Int)) (.tmp rfl rfl) (.tmp rfl rfl))) ?_
            refine q_yes (yl (dj := 52) (b := false) rfl rfl (congrArg Value.bool hc54)) ?_
            refine q_st (v := .bool (decide ((((k : Nat) : Int) : Int) < ((i : Nat) : Int)))) (fun w hs => (x_pick_t (.tmp rfl (congrArg Value.bool hc58)) (.tmp rfl rfl))) ?_
            refine q_yes (yl (dj := 40) (b := true) rfl rfl (congrArg Value.bool hc51)) ?_
            refine q_st (v := .bool (decide ((((k : Nat) : Int) : Int) < ((i : Nat) : Int)))) (fun w hs => (x_pick_f (.tmp rfl (congrArg Value.bool hc54)) (.tmp rfl rfl))) ?_
            refine q_st (v := .bool (decide ((((k : Nat) : Int) : Int) < ((i : Nat) : Int)))) (fun w hs => (x_pick_t (.tmp rfl (congrArg Value.bool hc51)) (.tmp rfl rfl))) ?_
            refine q_nil ?_
            intro w hs59
            refine n_then ?_
            rcases Bool.eq_false_or_eq_true (decide ((((k : Nat) : Int) : Int) < ((i : Nat) : Int))) with hc60 | hc60
            · have hp60 : (((k : Nat) : Int) : Int) < ((i : Nat) : Int) := of_decide_eq_true hc60
              refine c_cond_t (t := true) (.tmp rfl (congrArg Value.bool hc60)) rfl ?_
              refine c_region ?_
              refine st (v := .bool false) (x_assign .const) ?_
              refine c_nil ?_
              refine n_block ?_
              refine n_then ?_
              refine c_region ?_
              refine st (v := .int .i64 ((k : Nat) : Int)) (x_move (.tmp rfl hρ31)) ?_
              refine st (v := .int .i64 (((k + 1) : Nat) : Int)) (x_add (k := .i64) (a := ((k : Nat) : Int)) (b := 1) (.tmp rfl rfl) .const ((w64 (by omega) (by omega)).trans (by omega))) ?_
              refine st (v := .int .i64 (((k + 1) : Nat) : Int)) (x_assign (.tmp rfl rfl)) ?_
              refine c_nil ?_
              refine n_then ⟨_, _, rfl, ?_, false, (k + 1), hρ27, hρ28, hρ29, rfl, rfl, (by omega), (bestTo_lost (i := i) hx38 ⟨by first | assumption | rfl, by omega⟩), hs59, rfl⟩
              omega
            · have hp60 : ¬ ((((k : Nat) : Int) : Int) < ((i : Nat) : Int)) := of_decide_eq_false hc60
              refine c_cond_f (t := false) (.tmp rfl (congrArg Value.bool hc60)) rfl ?_
              refine c_skip ?_
              refine n_block ?_
              refine n_then ?_
              refine c_region ?_
              refine st (v := .int .i64 ((k : Nat) : Int)) (x_move (.tmp rfl hρ31)) ?_
              refine st (v := .int .i64 (((k + 1) : Nat) : Int)) (x_add (k := .i64) (a := ((k : Nat) : Int)) (b := 1) (.tmp rfl rfl) .const ((w64 (by omega) (by omega)).trans (by omega))) ?_
              refine st (v := .int .i64 (((k + 1) : Nat) : Int)) (x_assign (.tmp rfl rfl)) ?_
              refine c_nil ?_
              refine n_then ⟨_, _, rfl, ?_, best, (k + 1), hρ27, hρ28, hρ29, hρ30, rfl, (by omega), (bestTo_stay hbest hx38 (by intro ⟨h1, h2⟩; first | exact absurd h1 (by assumption) | omega)), hs59, rfl⟩
              omega
          · have hp58 : ¬ (((sEnd e34) : Int) = (sEnd e9)) := of_decide_eq_false hc58
            refine q_no (yl (dj := 64) (b := false) rfl rfl (congrArg Value.bool hc58)) rfl ?_
            refine q_no (yl (dj := 64) (b := false) rfl rfl (congrArg Value.bool hc58)) rfl ?_
            refine q_no (yl (dj := 64) (b := false) rfl rfl (congrArg Value.bool hc58)) rfl ?_
            refine q_yes (yl (dj := 52) (b := false) rfl rfl (congrArg Value.bool hc54)) ?_
            refine q_st (v := .bool false) (fun w hs => (x_pick_f (.tmp rfl (congrArg Value.bool hc58)) .const)) ?_
            refine q_yes (yl (dj := 40) (b := true) rfl rfl (congrArg Value.bool hc51)) ?_
            refine q_st (v := .bool false) (fun w hs => (x_pick_f (.tmp rfl (congrArg Value.bool hc54)) (.tmp rfl rfl))) ?_
            refine q_st (v := .bool false) (fun w hs => (x_pick_t (.tmp rfl (congrArg Value.bool hc51)) (.tmp rfl rfl))) ?_
            refine q_nil ?_
            intro w hs61
            refine n_then ?_
            refine c_cond_f (t := false) (.tmp rfl rfl) rfl ?_
            refine c_skip ?_
            refine n_block ?_
            refine n_then ?_
            refine c_region ?_
            refine st (v := .int .i64 ((k : Nat) : Int)) (x_move (.tmp rfl hρ31)) ?_
            refine st (v := .int .i64 (((k + 1) : Nat) : Int)) (x_add (k := .i64) (a := ((k : Nat) : Int)) (b := 1) (.tmp rfl rfl) .const ((w64 (by omega) (by omega)).trans (by omega))) ?_
            refine st (v := .int .i64 (((k + 1) : Nat) : Int)) (x_assign (.tmp rfl rfl)) ?_
            refine c_nil ?_
            refine n_then ⟨_, _, rfl, ?_, best, (k + 1), hρ27, hρ28, hρ29, hρ30, rfl, (by omega), (bestTo_stay hbest hx38 (by intro ⟨h1, h2⟩; first | exact absurd h1 (by assumption) | omega)), hs61, rfl⟩
            omega
      · have hp51 : ¬ (e34.V = e9.V) := of_decide_eq_false hc51
        refine q_no (yl (dj := 40) (b := false) rfl rfl (congrArg Value.bool hc51)) rfl ?_
        refine q_no (yl (dj := 40) (b := false) rfl rfl (congrArg Value.bool hc51)) rfl ?_
        refine q_no (yl (dj := 40) (b := false) rfl rfl (congrArg Value.bool hc51)) rfl ?_
        refine q_no (yl (dj := 40) (b := false) rfl rfl (congrArg Value.bool hc51)) rfl ?_
        refine q_no (yl (dj := 40) (b := false) rfl rfl (congrArg Value.bool hc51)) rfl ?_
        refine q_no (yl (dj := 40) (b := false) rfl rfl (congrArg Value.bool hc51)) rfl ?_
        refine q_no (yl (dj := 40) (b := false) rfl rfl (congrArg Value.bool hc51)) rfl ?_
        refine q_no (yl (dj := 40) (b := false) rfl rfl (congrArg Value.bool hc51)) rfl ?_
        refine q_no (yl (dj := 40) (b := false) rfl rfl (congrArg Value.bool hc51)) rfl ?_
        refine q_no (yl (dj := 40) (b := false) rfl rfl (congrArg Value.bool hc51)) rfl ?_
        refine q_no (yl (dj := 40) (b := false) rfl rfl (congrArg Value.bool hc51)) rfl ?_
        refine q_no (yl (dj := 40) (b := false) rfl rfl (congrArg Value.bool hc51)) rfl ?_
        refine q_no0 (yn (dj := 52) rfl rfl) ?_
        refine q_no0 (yn (dj := 52) rfl rfl) ?_
        refine q_no0 (yn (dj := 52) rfl rfl) ?_
        refine q_no0 (yn (dj := 52) rfl rfl) ?_
        refine q_no0 (yn (dj := 52) rfl rfl) ?_
        refine q_no0 (yn (dj := 52) rfl rfl) ?_
        refine q_no0 (yn (dj := 52) rfl rfl) ?_
        refine q_no0 (yn (dj := 52) rfl rfl) ?_
        refine q_no0 (yn (dj := 52) rfl rfl) ?_
        refine q_no0 (yn (dj := 52) rfl rfl) ?_
        refine q_no0 (yn (dj := 52) rfl rfl) ?_
        refine q_no0 (yn (dj := 52) rfl rfl) ?_
        refine q_no0 (yn (dj := 64) rfl rfl) ?_
        refine q_no0 (yn (dj := 64) rfl rfl) ?_
        refine q_no0 (yn (dj := 64) rfl rfl) ?_
        refine q_no0 (yn (dj := 52) rfl rfl) ?_
        refine q_no (yl (dj := 40) (b := false) rfl rfl (congrArg Value.bool hc51)) rfl ?_
        refine q_st (v := .bool false) (fun w hs => (x_pick_f (.tmp rfl (congrArg Value.bool hc51)) .const)) ?_
        refine q_nil ?_
        intro w hs62
        refine n_then ?_
        refine c_cond_f (t := false) (.tmp rfl rfl) rfl ?_
        refine c_skip ?_
        refine n_block ?_
        refine n_then ?_
        refine c_region ?_
        refine st (v := .int .i64 ((k : Nat) : Int)) (x_move (.tmp rfl hρ31)) ?_
        refine st (v := .int .i64 (((k + 1) : Nat) : Int)) (x_add (k := .i64) (a := ((k : Nat) : Int)) (b := 1) (.tmp rfl rfl) .const ((w64 (by omega) (by omega)).trans (by omega))) ?_
        refine st (v := .int .i64 (((k + 1) : Nat) : Int)) (x_assign (.tmp rfl rfl)) ?_
        refine c_nil ?_
        refine n_then ⟨_, _, rfl, ?_, best, (k + 1), hρ27, hρ28, hρ29, hρ30, rfl, (by omega), (bestTo_stay hbest hx38 (by intro ⟨h1, h2⟩; first | exact absurd h1 (by assumption) | omega)), hs62, rfl⟩
        omega
    · have hp33 : ¬ ((((k : Nat) : Int) : Int) < ((n_l : Nat) : Int)) := of_decide_eq_false hc33
      refine c_cond_f (t := false) (.tmp rfl (congrArg Value.bool hc33)) rfl ?_
      refine c_exit ?_
      refine x_then ?_
      refine x_then ?_
      refine x_here ?_
      refine n_then ?_
      refine c_seq ?_
      refine c_seq ?_
      refine c_region ?_
      refine st (v := .bool best) (x_move (.tmp rfl hρ30)) ?_
      refine st (v := .bool (!best)) (x_not (.tmp rfl rfl)) ?_
      refine c_nil ?_
      refine n_then ?_
      rcases Bool.eq_false_or_eq_true best with hc63 | hc63
      · refine c_cond_f (t := false) (.tmp rfl (congrArg Value.bool (by rw [hc63]; rfl))) rfl ?_
        refine c_skip ?_
        refine n_then ?_
        refine c_seq ?_
        refine c_region ?_
        refine st (v := .slice none 0 0) (x_assign .const) ?_
        refine c_nil ?_
        refine n_then ?_
        refine c_seq ?_
        refine c_region ?_
        refine st (v := .bool false) (x_assign .const) ?_
        refine c_nil ?_
        refine n_then ?_
        refine c_seq ?_
        refine c_seq ?_
        refine c_region ?_
        refine st (v := .int .i64 0) (x_assign .const) ?_
        refine c_nil ?_
        refine n_then ?_
        refine c_block ?_
        have hs65 : St H _ (row 38 4 (.slice none 0 0) (([] : List GState).length) [] :: row 38 4 v_out out.length c_out :: L) := hs32.krowNil 38 kState
        have : ([] : List GState).length = 0 := rfl
        refine c_loop (fun ρ w mm => ∃ (m : List GState) (v_m : Value) (c_m : List Value) (dn : Bool) (q : Nat), ρ 0 = .slice A_l n_l c_l ∧ ρ 3 = v_out ∧ ρ 4 = .int .i64 ((i : Nat) : Int) ∧ ρ 7 = v_m ∧ ρ 8 = .bool dn ∧ ρ 9 = .int .i64 ((q : Nat) : Int) ∧ (RowOk kState.sz v_m m.length c_m) ∧ (kState.toKn.rows H m c_m) ∧ (q ≤ out.length) ∧ (insTo e9 out q = (m, dn)) ∧ (m.length ≤ q + 1) ∧ St H w (row 38 4 v_m m.length c_m :: row 38 4 v_out out.length c_out :: L) ∧ mm = out.length - q) _ ⟨([] : List GState), (.slice none 0 0), [], false, 0, hρ27, hρ28, hρ29, rfl, rfl, rfl, (RowOk.knil kState), (Kn.rows_nil _ _), (by omega), (insTo_zero _ _), (by omega), ((hs65.pick 1 rfl rfl).pick 1 rfl rfl), rfl⟩ ?_
        rintro ρ w mm ⟨m, v_m, c_m, dn, q, hρ67, hρ68, hρ69, hρ70, hρ71, hρ72, ok_m, hk_m, hq, hm, hml, hs73, rfl⟩
        refine c_seq ?_
        refine c_seq ?_
        refine c_region ?_
        refine st (v := .int .i64 ((q : Nat) : Int)) (x_move (.tmp rfl hρ72)) ?_
        refine st (v := v_out) (x_move (.tmp rfl hρ68)) ?_
        obtain ⟨A74, c75, hv76, hc77⟩ := ok_out.slice
        refine st (v := .int .i64 ((out.length : Nat) : Int)) (x_len (n := out.length) Try.underlying22 (.tmp rfl hv76)) ?_
        refine st (v := .bool (decide ((((q : Nat) : Int) : Int) < ((out.length : Nat) : Int)))) (x_lss (k := .i64) (a := ((q : Nat) : Int)) (b := ((out.length : Nat) : Int)) (.tmp rfl rfl) (.tmp rfl rfl)) ?_
        refine c_nil ?_
        refine n_then ?_
        rcases Bool.eq_false_or_eq_true (decide ((((q : Nat) : Int) : Int) < ((out.length : Nat) : Int))) with hc78 | hc78
        · have hp78 : (((q : Nat) : Int) : Int) < ((out.length : Nat) : Int) := of_decide_eq_true hc78
          refine c_cond_t (t := true) (.tmp rfl (congrArg Value.bool hc78)) rfl ?_
          refine c_skip ?_
          refine n_then ?_
          refine c_seq ?_
          refine c_block ?_
          refine c_seq ?_
          refine c_seq ?_
          refine q_region mixed hs73 (by kernel_rfl) ?_
          refine q_st (v := .bool dn) (fun w hs => (x_move (.tmp rfl hρ71))) ?_
          refine q_st (v := .bool (!dn)) (fun w hs => (x_not (.tmp rfl rfl))) ?_
          refine q_st (v := .bool (!dn)) (fun w hs => (x_move (.tmp rfl rfl))) ?_
          rcases Bool.eq_false_or_eq_true dn with hc79 | hc79
          · refine q_no (yl (dj := 81) (b := false) rfl rfl (congrArg Value.bool (by rw [hc79]; rfl))) rfl ?_
            refine q_no (yl (dj := 81) (b := false) rfl rfl (congrArg Value.bool (by rw [hc79]; rfl))) rfl ?_
            refine q_no (yl (dj := 81) (b := false) rfl rfl (congrArg Value.bool (by rw [hc79]; rfl))) rfl ?_
            refine q_no (yl (dj := 81) (b := false) rfl rfl (congrArg Value.bool (by rw [hc79]; rfl))) rfl ?_
            refine q_no (yl (dj := 81) (b := false) rfl rfl (congrArg Value.bool (by rw [hc79]; rfl))) rfl ?_
            refine q_no (yl (dj := 81) (b := false) rfl rfl (congrArg Value.bool (by rw [hc79]; rfl))) rfl ?_
            refine q_no (yl (dj := 81) (b := false) rfl rfl (congrArg Value.bool (by rw [hc79]; rfl))) rfl ?_
            refine q_no (yl (dj := 81) (b := false) rfl rfl (congrArg Value.bool (by rw [hc79]; rfl))) rfl ?_
            refine q_no (yl (dj := 81) (b := false) rfl rfl (congrArg Value.bool (by rw [hc79]; rfl))) rfl ?_
            refine q_no (yl (dj := 81) (b := false) rfl rfl (congrArg Value.bool (by rw [hc79]; rfl))) rfl ?_
            refine q_no (yl (dj := 81) (b := false) rfl rfl (congrArg Value.bool (by rw [hc79]; rfl))) rfl ?_
            refine q_no (yl (dj := 81) (b := false) rfl rfl (congrArg Value.bool (by rw [hc79]; rfl))) rfl ?_
            refine q_st (v := .bool false) (fun w hs => (x_pick_f (.tmp rfl (congrArg Value.bool (by rw [hc79]; rfl))) .const)) ?_
            refine q_nil ?_
            intro w hs80
            refine n_then ?_
            refine c_cond_f (t := false) (.tmp rfl rfl) rfl ?_
            refine c_skip ?_
            refine n_then ?_
            refine c_region ?_
            refine st (v := v_m) (x_move (.tmp rfl hρ70)) ?_
            refine st (v := v_out) (x_move (.tmp rfl hρ68)) ?_
            refine st (v := .int .i64 ((q : Nat) : Int)) (x_move (.tmp rfl hρ72)) ?_
            obtain ⟨g81, c82, hv83⟩ := ok_out.pos (by omega)
            obtain ⟨e84, cs85, hx86, hr87, hsub88⟩ := Kn.rows_get (i := q) hk_out (by omega)
            obtain ⟨A94, n95, c96, rfl, b89, ⟨b90, b91⟩, ⟨b92, b93⟩, hl97⟩ := hr87
            have := hl97.len; have : n95 * 32 ≤ 140737488351232 := hl97.bnd; have := hl97.le
            refine st (v := .pointer (some ⟨g81, (q * 4), none⟩)) (ixo22 (.tmp rfl hv83) rfl (i := ((q : Nat) : Int)) (.tmp rfl rfl) (by omega) (by omega) (by omega)) ?_
            refine st (v := .agg #[.int .u64 ((e84.V.N : Nat) : Int), .int .i64 e84.V.P, .int .i64 e84.Floor, .slice A94 n95 c96]) (ld38 (cs := [.int .u64 ((e84.V.N : Nat) : Int), .int .i64 e84.V.P, .int .i64 e84.Floor, .slice A94 n95 c96]) (.tmp rfl rfl) ((hs80.rowAt 1 rfl hv83 (q * 4) hsub88).sub 0 rfl) rfl) ?_
            refine st_m (m_lit (n := 1) (ps := [(0, .agg #[.int .u64 ((e84.V.N : Nat) : Int), .int .i64 e84.V.P, .int .i64 e84.Floor, .slice A94 n95 c96])]) (cs := [.int .u64 ((e84.V.N : Nat) : Int), .int .i64 e84.V.P, .int .i64 e84.Floor, .slice A94 n95 c96]) Try.underlying22 inf38 (.cons (.tmp rfl rfl) Evp.nil) (by decide) (by decide) rfl rfl hs80) ?_
            rintro _ w99 ⟨g98, rfl, hs101⟩
            have hs102 : St H _ (row 38 4 v_m m.length c_m :: obj g98 38 [.int .u64 ((e84.V.N : Nat) : Int), .int .i64 e84.V.P, .int .i64 e84.Floor, .slice A94 n95 c96] :: row 38 4 v_out out.length c_out :: L) := hs101.pick 1 rfl rfl
            have hr110 : kState.rep H e84 [.int .u64 ((e84.V.N : Nat) : Int), .int .i64 e84.V.P, .int .i64 e84.Floor, .slice A94 n95 c96] := ⟨A94, n95, c96, rfl, b89, ⟨b90, b91⟩, ⟨b92, b93⟩, hl97⟩
            refine st_m (m_appK (d := kState) (ys := [e84]) (news := [.int .u64 ((e84.V.N : Nat) : Int), .int .i64 e84.V.P, .int .i64 e84.Floor, .slice A94 n95 c96]) Try.underlying22 inf38 rfl hs102 ok_m hk_m (.tmp rfl rfl) (.tmp rfl rfl) (Kn.rows_one hr110) rfl (hs102.at_ 1 rfl 0 rfl) (by have : ([e84] : List GState).length = 1 := rfl; omega) (by decide)) ?_
            rintro v103 w104 ⟨cs105, ok106, hk107, hs108⟩
            have hn109 : (m ++ [e84]).length = m.length + 1 := by simp
            refine st (v := v103) (x_assign (.tmp rfl rfl)) ?_
            refine c_nil ?_
            refine n_block ?_
            refine n_then ?_
            refine c_region ?_
            refine st (v := .int .i64 ((q : Nat) : Int)) (x_move (.tmp rfl hρ72)) ?_
            refine st (v := .int .i64 (((q + 1) : Nat) : Int)) (x_add (k := .i64) (a := ((q : Nat) : Int)) (b := 1) (.tmp rfl rfl) .const ((w64 (by omega) (by omega)).trans (by omega))) ?_
            refine st (v := .int .i64 (((q + 1) : Nat) : Int)) (x_assign (.tmp rfl rfl)) ?_
            refine c_nil ?_
            have hq111 := insTo_next_d hx86 (by rw [hm, hc79])
            refine n_then ⟨_, _, rfl, ?_, (m ++ [e84]), v103, cs105, true, (q + 1), hρ67, hρ68, hρ69, rfl, (hρ71.trans (congrArg Value.bool hc79)), rfl, ok106, hk107, (by omega), hq111, (by have := insTo_len hq111; omega), (((hs108.pick 1 rfl rfl).drop.pick 1 rfl rfl).pick 1 rfl rfl), rfl⟩
            omega
          · refine q_yes (yl (dj := 81) (b := true) rfl rfl (congrArg Value.bool (by rw [hc79]; rfl))) ?_
            refine q_st (v := v_out) (fun w hs => (x_move (.tmp rfl hρ68))) ?_
            refine q_yes (yl (dj := 81) (b := true) rfl rfl (congrArg Value.bool (by rw [hc79]; rfl))) ?_
            refine q_st (v := .int .i64 ((q : Nat) : Int)) (fun w hs => (x_move (.tmp rfl hρ72))) ?_
            refine q_yes (yl (dj := 81) (b := true) rfl rfl (congrArg Value.bool (by rw [hc79]; rfl))) ?_
            obtain ⟨g112, c113, hv114⟩ := ok_out.pos (by omega)
            obtain ⟨e115, cs116, hx117, hr118, hsub119⟩ := Kn.rows_get (i := q) hk_out (by omega)
            obtain ⟨A125, n126, c127, rfl, b120, ⟨b121, b122⟩, ⟨b123, b124⟩, hl128⟩ := hr118
            have := hl128.len; have : n126 * 32 ≤ 140737488351232 := hl128.bnd; have := hl128.le
            refine q_st (v := .pointer (some ⟨g112, (q * 4), none⟩)) (fun w hs => (ixo22 (.tmp rfl hv114) rfl (i := ((q : Nat) : Int)) (.tmp rfl rfl) (by omega) (by omega) (by omega))) ?_
            refine q_yes (yl (dj := 81) (b := true) rfl rfl (congrArg Value.bool (by rw [hc79]; rfl))) ?_
            refine q_st (v := .pointer (some ⟨g112, (q * 4) + 0, none⟩)) (fun w hs => (fa38_0 (.tmp rfl rfl))) ?_
            refine q_yes (yl (dj := 81) (b := true) rfl rfl (congrArg Value.bool (by rw [hc79]; rfl))) ?_
            refine q_st (v := .agg #[.int .u64 ((e115.V.N : Nat) : Int), .int .i64 e115.V.P]) (fun w hs => (ld25 (cs := [.int .u64 ((e115.V.N : Nat) : Int), .int .i64 e115.V.P]) (.tmp rfl rfl) ((hs.rowAt 1 rfl hv114 (q * 4) hsub119).sub 0 rfl) rfl)) ?_
            refine q_yes (yl (dj := 81) (b := true) rfl rfl (congrArg Value.bool (by rw [hc79]; rfl))) ?_
            refine q_st (v := .slice A_l n_l c_l) (fun w hs => (x_move (.tmp rfl hρ67))) ?_
            refine q_yes (yl (dj := 81) (b := true) rfl rfl (congrArg Value.bool (by rw [hc79]; rfl))) ?_
            refine q_st (v := .int .i64 ((i : Nat) : Int)) (fun w hs => (x_move (.tmp rfl hρ69))) ?_
            refine q_yes (yl (dj := 81) (b := true) rfl rfl (congrArg Value.bool (by rw [hc79]; rfl))) ?_
            refine q_st (v := .pointer (some ⟨b10, (o11 + i * 4), none⟩)) (fun w hs => (ixo22 (.tmp rfl rfl) hA14 (i := ((i : Nat) : Int)) (.tmp rfl rfl) (by omega) (by omega) (by omega))) ?_
            refine q_yes (yl (dj := 81) (b := true) rfl rfl (congrArg Value.bool (by rw [hc79]; rfl))) ?_
            refine q_st (v := .pointer (some ⟨b10, (o11 + i * 4) + 0, none⟩)) (fun w hs => (fa38_0 (.tmp rfl rfl))) ?_
            refine q_yes (yl (dj := 81) (b := true) rfl rfl (congrArg Value.bool (by rw [hc79]; rfl))) ?_
            refine q_st (v := .agg #[.int .u64 ((e9.V.N : Nat) : Int), .int .i64 e9.V.P]) (fun w hs => (ld25 (cs := [.int .u64 ((e9.V.N : Nat) : Int), .int .i64 e9.V.P]) (.tmp rfl rfl) ((hat16x hs).sub 0 rfl) rfl)) ?_
            refine q_yes (yl (dj := 81) (b := true) rfl rfl (congrArg Value.bool (by rw [hc79]; rfl))) ?_
            refine q_c (v := .int .i64 (cmpV e115.V.N e115.V.P e9.V.N e9.V.P)) cb22 .func (evs2 (.tmp rfl rfl) (.tmp rfl rfl)) (fun w hs => rcompare_spec hs e115.V.N e115.V.P e9.V.N e9.V.P) ?_
            refine q_yes (yl (dj := 81) (b := true) rfl rfl (congrArg Value.bool (by rw [hc79]; rfl))) ?_
            refine q_st (v := .bool (decide ((0 : Int) < (cmpV e115.V.N e115.V.P e9.V.N e9.V.P)))) (fun w hs => (x_gtr (k := .i64) (a := (cmpV e115.V.N e115.V.P e9.V.N e9.V.P)) (b := 0) (.tmp rfl rfl) .const)) ?_
            refine q_st (v := .bool (decide ((0 : Int) < (cmpV e115.V.N e115.V.P e9.V.N e9.V.P)))) (fun w hs => (x_pick_t (.tmp rfl (congrArg Value.bool (by rw [hc79]; rfl))) (.tmp rfl rfl))) ?_
            refine q_nil ?_
            intro w hs129
            refine n_then ?_
            rcases Bool.eq_false_or_eq_true (decide ((0 : Int) < (cmpV e115.V.N e115.V.P e9.V.N e9.V.P))) with hc130 | hc130
            · have hp130 : (0 : Int) < (cmpV e115.V.N e115.V.P e9.V.N e9.V.P) := of_decide_eq_true hc130
              refine c_cond_t (t := true) (.tmp rfl (congrArg Value.bool hc130)) rfl ?_
              refine c_seq ?_
              refine c_region ?_
              refine st (v := v_m) (x_move (.tmp rfl hρ70)) ?_
              refine st (v := .slice A_l n_l c_l) (x_move (.tmp rfl hρ67)) ?_
              refine st (v := .int .i64 ((i : Nat) : Int)) (x_move (.tmp rfl hρ69)) ?_
              refine st (v := .pointer (some ⟨b10, (o11 + i * 4), none⟩)) (ixo22 (.tmp rfl rfl) hA14 (i := ((i : Nat) : Int)) (.tmp rfl rfl) (by omega) (by omega) (by omega)) ?_
              refine st (v := .agg #[.int .u64 ((e9.V.N : Nat) : Int), .int .i64 e9.V.P, .int .i64 e9.Floor, .slice A22 n23 c24]) (ld38 (cs := [.int .u64 ((e9.V.N : Nat) : Int), .int .i64 e9.V.P, .int .i64 e9.Floor, .slice A22 n23 c24]) (.tmp rfl rfl) ((hat16x hs129).sub 0 rfl) rfl) ?_
              refine st_m (m_lit (n := 1) (ps := [(0, .agg #[.int .u64 ((e9.V.N : Nat) : Int), .int .i64 e9.V.P, .int .i64 e9.Floor, .slice A22 n23 c24])]) (cs := [.int .u64 ((e9.V.N : Nat) : Int), .int .i64 e9.V.P, .int .i64 e9.Floor, .slice A22 n23 c24]) Try.underlying22 inf38 (.cons (.tmp rfl rfl) Evp.nil) (by decide) (by decide) rfl rfl hs129) ?_
              rintro _ w132 ⟨g131, rfl, hs134⟩
              have hs135 : St H _ (row 38 4 v_m m.length c_m :: obj g131 38 [.int .u64 ((e9.V.N : Nat) : Int), .int .i64 e9.V.P, .int .i64 e9.Floor, .slice A22 n23 c24] :: row 38 4 v_out out.length c_out :: L) := hs134.pick 1 rfl rfl
              have hr143 : kState.rep H e9 [.int .u64 ((e9.V.N : Nat) : Int), .int .i64 e9.V.P, .int .i64 e9.Floor, .slice A22 n23 c24] := ⟨A22, n23, c24, rfl, b17, ⟨b18, b19⟩, ⟨b20, b21⟩, hl25⟩
              refine st_m (m_appK (d := kState) (ys := [e9]) (news := [.int .u64 ((e9.V.N : Nat) : Int), .int .i64 e9.V.P, .int .i64 e9.Floor, .slice A22 n23 c24]) Try.underlying22 inf38 rfl hs135 ok_m hk_m (.tmp rfl rfl) (.tmp rfl rfl) (Kn.rows_one hr143) rfl (hs135.at_ 1 rfl 0 rfl) (by have : ([e9] : List GState).length = 1 := rfl; omega) (by decide)) ?_
              rintro v136 w137 ⟨cs138, ok139, hk140, hs141⟩
              have hn142 : (m ++ [e9]).length = m.length + 1 := by simp
              refine st (v := v136) (x_assign (.tmp rfl rfl)) ?_
              refine c_nil ?_
              refine n_then ?_
              refine c_region ?_
              refine st (v := .bool true) (x_assign .const) ?_
              refine c_nil ?_
              refine n_then ?_
              refine c_region ?_
              refine st (v := v136) (x_move (.tmp rfl rfl)) ?_
              refine st (v := v_out) (x_move (.tmp rfl hρ68)) ?_
              refine st (v := .int .i64 ((q : Nat) : Int)) (x_move (.tmp rfl hρ72)) ?_
              obtain ⟨g144, c145, hv146⟩ := ok_out.pos (by omega)
              refine st (v := .pointer (some ⟨g144, (q * 4), none⟩)) (ixo22 (.tmp rfl hv146) rfl (i := ((q : Nat) : Int)) (.tmp rfl rfl) (by omega) (by omega) (by omega)) ?_
              refine st (v := .agg #[.int .u64 ((e115.V.N : Nat) : Int), .int .i64 e115.V.P, .int .i64 e115.Floor, .slice A125 n126 c127]) (ld38 (cs := [.int .u64 ((e115.V.N : Nat) : Int), .int .i64 e115.V.P, .int .i64 e115.Floor, .slice A125 n126 c127]) (.tmp rfl rfl) ((hs141.rowAt 2 rfl hv146 (q * 4) hsub119).sub 0 rfl) rfl) ?_
              refine st_m (m_lit (n := 1) (ps := [(0, .agg #[.int .u64 ((e115.V.N : Nat) : Int), .int .i64 e115.V.P, .int .i64 e115.Floor, .slice A125 n126 c127])]) (cs := [.int .u64 ((e115.V.N : Nat) : Int), .int .i64 e115.V.P, .int .i64 e115.Floor, .slice A125 n126 c127]) Try.underlying22 inf38 (.cons (.tmp rfl rfl) Evp.nil) (by decide) (by decide) rfl rfl hs141) ?_
              rintro _ w148 ⟨g147, rfl, hs150⟩
              have hs151 : St H _ (row 38 4 v136 ((m ++ [e9]).length) cs138 :: obj g147 38 [.int .u64 ((e115.V.N : Nat) : Int), .int .i64 e115.V.P, .int .i64 e115.Floor, .slice A125 n126 c127] :: obj g131 38 [.int .u64 ((e9.V.N : Nat) : Int), .int .i64 e9.V.P, .int .i64 e9.Floor, .slice A22 n23 c24] :: row 38 4 v_out out.length c_out :: L) := hs150.pick 1 rfl rfl
              have hr159 : kState.rep H e115 [.int .u64 ((e115.V.N : Nat) : Int), .int .i64 e115.V.P, .int .i64 e115.Floor, .slice A125 n126 c127] := ⟨A125, n126, c127, rfl, b120, ⟨b121, b122⟩, ⟨b123, b124⟩, hl128⟩
              refine st_m (m_appK (d := kState) (ys := [e115]) (news := [.int .u64 ((e115.V.N : Nat) : Int), .int .i64 e115.V.P, .int .i64 e115.Floor, .slice A125 n126 c127]) Try.underlying22 inf38 rfl hs151 ok139 hk140 (.tmp rfl rfl) (.tmp rfl rfl) (Kn.rows_one hr159) rfl (hs151.at_ 1 rfl 0 rfl) (by have : ([e115] : List GState).length = 1 := rfl; omega) (by decide)) ?_
              rintro v152 w153 ⟨cs154, ok155, hk156, hs157⟩
              have hn158 : ((m ++ [e9]) ++ [e115]).length = (m ++ [e9]).length + 1 := by simp
              refine st (v := v152) (x_assign (.tmp rfl rfl)) ?_
              refine c_nil ?_
              refine n_block ?_
              refine n_then ?_
              refine c_region ?_
              refine st (v := .int .i64 ((q : Nat) : Int)) (x_move (.tmp rfl hρ72)) ?_
              refine st (v := .int .i64 (((q + 1) : Nat) : Int)) (x_add (k := .i64) (a := ((q : Nat) : Int)) (b := 1) (.tmp rfl rfl) .const ((w64 (by omega) (by omega)).trans (by omega))) ?_
              refine st (v := .int .i64 (((q + 1) : Nat) : Int)) (x_assign (.tmp rfl rfl)) ?_
              refine c_nil ?_
              have hq160 := insTo_next_y hx117 (by rw [hm, hc79]) hp130
              refine n_then ⟨_, _, rfl, ?_, ((m ++ [e9]) ++ [e115]), v152, cs154, true, (q + 1), hρ67, hρ68, hρ69, rfl, rfl, rfl, ok155, hk156, (by omega), hq160, (by have := insTo_len hq160; omega), ((((hs157.pick 1 rfl rfl).drop.pick 1 rfl rfl).drop.pick 1 rfl rfl).pick 1 rfl rfl), rfl⟩
              omega
            · have hp130 : ¬ ((0 : Int) < (cmpV e115.V.N e115.V.P e9.V.N e9.V.P)) := of_decide_eq_false hc130
              refine c_cond_f (t := false) (.tmp rfl (congrArg Value.bool hc130)) rfl ?_
              refine c_skip ?_
              refine n_then ?_
              refine c_region ?_
              refine st (v := v_m) (x_move (.tmp rfl hρ70)) ?_
              refine st (v := v_out) (x_move (.tmp rfl hρ68)) ?_
              refine st (v := .int .i64 ((q : Nat) : Int)) (x_move (.tmp rfl hρ72)) ?_
              obtain ⟨g161, c162, hv163⟩ := ok_out.pos (by omega)
              refine st (v := .pointer (some ⟨g161, (q * 4), none⟩)) (ixo22 (.tmp rfl hv163) rfl (i := ((q : Nat) : Int)) (.tmp rfl rfl) (by omega) (by omega) (by omega)) ?_
              refine st (v := .agg #[.int .u64 ((e115.V.N : Nat) : Int), .int .i64 e115.V.P, .int .i64 e115.Floor, .slice A125 n126 c127]) (ld38 (cs := [.int .u64 ((e115.V.N : Nat) : Int), .int .i64 e115.V.P, .int .i64 e115.Floor, .slice A125 n126 c127]) (.tmp rfl rfl) ((hs129.rowAt 1 rfl hv163 (q * 4) hsub119).sub 0 rfl) rfl) ?_
              refine st_m (m_lit (n := 1) (ps := [(0, .agg #[.int .u64 ((e115.V.N : Nat) : Int), .int .i64 e115.V.P, .int .i64 e115.Floor, .slice A125 n126 c127])]) (cs := [.int .u64 ((e115.V.N : Nat) : Int), .int .i64 e115.V.P, .int .i64 e115.Floor, .slice A125 n126 c127]) Try.underlying22 inf38 (.cons (.tmp rfl rfl) Evp.nil) (by decide) (by decide) rfl rfl hs129) ?_
              rintro _ w165 ⟨g164, rfl, hs167⟩
              have hs168 : St H _ (row 38 4 v_m m.length c_m :: obj g164 38 [.int .u64 ((e115.V.N : Nat) : Int), .int .i64 e115.V.P, .int .i64 e115.Floor, .slice A125 n126 c127] :: row 38 4 v_out out.length c_out :: L) := hs167.pick 1 rfl rfl
              have hr176 : kState.rep H e115 [.int .u64 ((e115.V.N : Nat) : Int), .int .i64 e115.V.P, .int .i64 e115.Floor, .slice A125 n126 c127] := ⟨A125, n126, c127, rfl, b120, ⟨b121, b122⟩, ⟨b123, b124⟩, hl128⟩
              refine st_m (m_appK (d := kState) (ys := [e115]) (news := [.int .u64 ((e115.V.N : Nat) : Int), .int .i64 e115.V.P, .int .i64 e115.Floor, .slice A125 n126 c127]) Try.underlying22 inf38 rfl hs168 ok_m hk_m (.tmp rfl rfl) (.tmp rfl rfl) (Kn.rows_one hr176) rfl (hs168.at_ 1 rfl 0 rfl) (by have : ([e115] : List GState).length = 1 := rfl; omega) (by decide)) ?_
              rintro v169 w170 ⟨cs171, ok172, hk173, hs174⟩
              have hn175 : (m ++ [e115]).length = m.length + 1 := by simp
              refine st (v := v169) (x_assign (.tmp rfl rfl)) ?_
              refine c_nil ?_
              refine n_block ?_
              refine n_then ?_
              refine c_region ?_
              refine st (v := .int .i64 ((q : Nat) : Int)) (x_move (.tmp rfl hρ72)) ?_
              refine st (v := .int .i64 (((q + 1) : Nat) : Int)) (x_add (k := .i64) (a := ((q : Nat) : Int)) (b := 1) (.tmp rfl rfl) .const ((w64 (by omega) (by omega)).trans (by omega))) ?_
              refine st (v := .int .i64 (((q + 1) : Nat) : Int)) (x_assign (.tmp rfl rfl)) ?_
              refine c_nil ?_
              have hq177 := insTo_next_n hx117 (by rw [hm, hc79]) hp130
              refine n_then ⟨_, _, rfl, ?_, (m ++ [e115]), v169, cs171, false, (q + 1), hρ67, hρ68, hρ69, rfl, (hρ71.trans (congrArg Value.bool hc79)), rfl, ok172, hk173, (by omega), hq177, (by have := insTo_len hq177; omega), (((hs174.pick 1 rfl rfl).drop.pick 1 rfl rfl).pick 1 rfl rfl), rfl⟩
              omega
        · have hp78 : ¬ ((((q : Nat) : Int) : Int) < ((out.length : Nat) : Int)) := of_decide_eq_false hc78
          refine c_cond_f (t := false) (.tmp rfl (congrArg Value.bool hc78)) rfl ?_
          refine c_exit ?_
          refine x_then ?_
          refine x_then ?_
          refine x_here ?_
          refine n_then ?_
          refine c_seq ?_
          refine c_seq ?_
          refine c_region ?_
          refine st (v := .bool dn) (x_move (.tmp rfl hρ71)) ?_
          refine st (v := .bool (!dn)) (x_not (.tmp rfl rfl)) ?_
          refine c_nil ?_
          refine n_then ?_
          rcases Bool.eq_false_or_eq_true dn with hc178 | hc178
          · refine c_cond_f (t := false) (.tmp rfl (congrArg Value.bool (by rw [hc178]; rfl))) rfl ?_
            refine c_skip ?_
            refine n_then ?_
            refine c_region ?_
            refine st (v := v_m) (x_move (.tmp rfl hρ70)) ?_
            refine st (v := v_m) (x_assign (.tmp rfl rfl)) ?_
            refine c_nil ?_
            refine n_block ?_
            refine n_then ?_
            refine c_region ?_
            refine st (v := .int .i64 ((i : Nat) : Int)) (x_move (.tmp rfl hρ69)) ?_
            refine st (v := .int .i64 (((i + 1) : Nat) : Int)) (x_add (k := .i64) (a := ((i : Nat) : Int)) (b := 1) (.tmp rfl rfl) .const ((w64 (by omega) (by omega)).trans (by omega))) ?_
            refine st (v := .int .i64 (((i + 1) : Nat) : Int)) (x_assign (.tmp rfl rfl)) ?_
            refine c_nil ?_
            have hm2 : m = insS e9 out := insTo_end_d (k := q) (by omega) (by rw [hm, hc178])
            have hln := insS_length e9 out
            rw [← hm2] at hln
            refine n_then ⟨_, _, rfl, ?_, m, v_m, c_m, (i + 1), hρ67, rfl, rfl, ok_m, hk_m, (by omega), (by rw [joinTo_yes hx13 hbest hc63 (by omega), ← hout]; exact hm2), (by omega), (hs73.pick 1 rfl rfl).drop, rfl⟩
            omega
          · refine c_cond_t (t := true) (.tmp rfl (congrArg Value.bool (by rw [hc178]; rfl))) rfl ?_
            refine c_region ?_
            refine st (v := v_m) (x_move (.tmp rfl hρ70)) ?_
            refine st (v := .slice A_l n_l c_l) (x_move (.tmp rfl hρ67)) ?_
            refine st (v := .int .i64 ((i : Nat) : Int)) (x_move (.tmp rfl hρ69)) ?_
            refine st (v := .pointer (some ⟨b10, (o11 + i * 4), none⟩)) (ixo22 (.tmp rfl rfl) hA14 (i := ((i : Nat) : Int)) (.tmp rfl rfl) (by omega) (by omega) (by omega)) ?_
            refine st (v := .agg #[.int .u64 ((e9.V.N : Nat) : Int), .int .i64 e9.V.P, .int .i64 e9.Floor, .slice A22 n23 c24]) (ld38 (cs := [.int .u64 ((e9.V.N : Nat) : Int), .int .i64 e9.V.P, .int .i64 e9.Floor, .slice A22 n23 c24]) (.tmp rfl rfl) ((hat16x hs73).sub 0 rfl) rfl) ?_
            refine st_m (m_lit (n := 1) (ps := [(0, .agg #[.int .u64 ((e9.V.N : Nat) : Int), .int .i64 e9.V.P, .int .i64 e9.Floor, .slice A22 n23 c24])]) (cs := [.int .u64 ((e9.V.N : Nat) : Int), .int .i64 e9.V.P, .int .i64 e9.Floor, .slice A22 n23 c24]) Try.underlying22 inf38 (.cons (.tmp rfl rfl) Evp.nil) (by decide) (by decide) rfl rfl hs73) ?_
            rintro _ w180 ⟨g179, rfl, hs182⟩
            have hs183 : St H _ (row 38 4 v_m m.length c_m :: obj g179 38 [.int .u64 ((e9.V.N : Nat) : Int), .int .i64 e9.V.P, .int .i64 e9.Floor, .slice A22 n23 c24] :: row 38 4 v_out out.length c_out :: L) := hs182.pick 1 rfl rfl
            have hr191 : kState.rep H e9 [.int .u64 ((e9.V.N : Nat) : Int), .int .i64 e9.V.P, .int .i64 e9.Floor, .slice A22 n23 c24] := ⟨A22, n23, c24, rfl, b17, ⟨b18, b19⟩, ⟨b20, b21⟩, hl25⟩
            refine st_m (m_appK (d := kState) (ys := [e9]) (news := [.int .u64 ((e9.V.N : Nat) : Int), .int .i64 e9.V.P, .int .i64 e9.Floor, .slice A22 n23 c24]) Try.underlying22 inf38 rfl hs183 ok_m hk_m (.tmp rfl rfl) (.tmp rfl rfl) (Kn.rows_one hr191) rfl (hs183.at_ 1 rfl 0 rfl) (by have : ([e9] : List GState).length = 1 := rfl; omega) (by decide)) ?_
            rintro v184 w185 ⟨cs186, ok187, hk188, hs189⟩
            have hn190 : (m ++ [e9]).length = m.length + 1 := by simp
            refine st (v := v184) (x_assign (.tmp rfl rfl)) ?_
            refine c_nil ?_
            refine n_then ?_
            refine c_region ?_
            refine st (v := v184) (x_move (.tmp rfl rfl)) ?_
            refine st (v := v184) (x_assign (.tmp rfl rfl)) ?_
            refine c_nil ?_
            refine n_block ?_
            refine n_then ?_
            refine c_region ?_
            refine st (v := .int .i64 ((i : Nat) : Int)) (x_move (.tmp rfl hρ69)) ?_
            refine st (v := .int .i64 (((i + 1) : Nat) : Int)) (x_add (k := .i64) (a := ((i : Nat) : Int)) (b := 1) (.tmp rfl rfl) .const ((w64 (by omega) (by omega)).trans (by omega))) ?_
            refine st (v := .int .i64 (((i + 1) : Nat) : Int)) (x_assign (.tmp rfl rfl)) ?_
            refine c_nil ?_
            have hm2 : m ++ [e9] = insS e9 out := insTo_end_n (k := q) (by omega) (by rw [hm, hc178])
            have hln := insS_length e9 out
            rw [← hm2] at hln
            refine n_then ⟨_, _, rfl, ?_, (m ++ [e9]), v184, cs186, (i + 1), hρ67, rfl, rfl, ok187, hk188, (by omega), (by rw [joinTo_yes hx13 hbest hc63 (by omega), ← hout]; exact hm2), (by omega), ((hs189.pick 1 rfl rfl).drop.pick 1 rfl rfl).drop, rfl⟩
            omega
      · refine c_cond_t (t := true) (.tmp rfl (congrArg Value.bool (by rw [hc63]; rfl))) rfl ?_
        refine c_exit ?_
        refine x_then ?_
        refine x_here ?_
        refine n_then ?_
        refine c_region ?_
        refine st (v := .int .i64 ((i : Nat) : Int)) (x_move (.tmp rfl hρ29)) ?_
        refine st (v := .int .i64 (((i + 1) : Nat) : Int)) (x_add (k := .i64) (a := ((i : Nat) : Int)) (b := 1) (.tmp rfl rfl) .const ((w64 (by omega) (by omega)).trans (by omega))) ?_
        refine st (v := .int .i64 (((i + 1) : Nat) : Int)) (x_assign (.tmp rfl rfl)) ?_
        refine c_nil ?_
        refine n_then ⟨_, _, rfl, ?_, out, v_out, c_out, (i + 1), hρ27, hρ28, rfl, ok_out, hk_out, (by omega), (by rw [joinTo_no hx13 hbest hc63 (by omega)]; exact hout), (by omega), hs32, rfl⟩
        omega
  · have hp8 : ¬ ((((i : Nat) : Int) : Int) < ((n_l : Nat) : Int)) := of_decide_eq_false hc8
    refine c_cond_f (t := false) (.tmp rfl (congrArg Value.bool hc8)) rfl ?_
    refine c_exit ?_
    refine x_then ?_
    refine x_then ?_
    refine x_here ?_
    refine n_then ?_
    refine c_seq ?_
    refine c_region ?_
    refine st (v := v_out) (x_move (.tmp rfl hρ5)) ?_
    refine st (v := v_out) (x_assign (.tmp rfl rfl)) ?_
    refine c_nil ?_
    refine n_then ?_
    refine c_ret ?_
    refine leave_ret (res_one (v := v_out) rfl (.mk rfl rfl)) ?_
    have hans : joinS l = out := by rw [hout, show i = l.length by omega]; rfl
    rw [hans]
    exact ⟨v_out, c_out, rfl, ok_out, hk_out, hs7⟩

end Go.Proofs.Ytkbllbphkdnmbaa
