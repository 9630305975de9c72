/- Steps of the proofs over the functions of this seat, printed by a program (gen.py) and checked by Lean. -/
import Derived.Test.YtkbllbphkdnmbaaTy
import Derived.Test.YtkbllbphkdnmbaaFmM6
import Derived.Test.YtkbllbphkdnmbaaU6i
set_option linter.unusedVariables false
set_option linter.unusedSimpArgs false
namespace Go.Proofs.Ytkbllbphkdnmbaa
open Go Go.FM Go.Proofs
attribute [local irreducible] wpList wpQuiet wpS Code.wp Calls
set_option maxHeartbeats 8000000 in
theorem cutJoins_spec {H : Hp} {w : World} {L : List Res} (hs : St H w (L)) {A_l : Option Addr} {n_l c_l : Nat} (l : (List GState)) (h_l : Sl kState H A_l n_l c_l l) : Calls Try.prog 9 #[.slice A_l n_l c_l] w (fun e w' => e = .returned (.bool true) ∧ St H w' (L)) := by
  have := h_l.len; have := h_l.le; have : n_l * 48 ≤ 140737488351232 := h_l.bnd
  refine enter (args := [.slice A_l n_l c_l]) (N := 47) Try.func9 rfl rfl rfl ?_
  refine c_seq ?_
  refine c_region ?_
  refine st (v := .bool false) (x_assign .const) ?_
  refine c_nil ?_
  refine n_then ?_
  refine c_seq ?_
  refine c_seq ?_
  refine c_region ?_
  refine st_c cb10 .func (evs0 ) (awake_spec hs  ) ?_
  rintro e w1 ⟨rfl, hs2⟩
  refine ⟨_, rfl, ?_⟩
  refine st (v := .bool false) (x_not (b := true) (.tmp rfl rfl)) ?_
  refine st (v := .bool false) (x_move (.tmp rfl rfl)) ?_
  refine g_yes (yl (dj := 6) (b := false) rfl rfl rfl) ?_
  refine st (v := .slice A_l n_l c_l) (x_move (.tmp rfl rfl)) ?_
  refine g_yes (yl (dj := 6) (b := false) rfl rfl rfl) ?_
  refine st_c cb11 .func (evs1 (.tmp rfl rfl)) (right_spec hs2 l h_l ) ?_
  rintro e w3 ⟨rfl, hs4⟩
  refine ⟨_, rfl, ?_⟩
  refine g_yes (yl (dj := 6) (b := false) rfl rfl rfl) ?_
  refine st (v := .bool (!(rightS l))) (x_not (.tmp rfl rfl)) ?_
  refine st (v := .bool (!(rightS l))) (x_pick_f (.tmp rfl rfl) (.tmp rfl rfl)) ?_
  refine c_nil ?_
  refine n_then ?_
  rcases Bool.eq_false_or_eq_true (rightS l) with hc5 | hc5
  · refine c_cond_f (t := false) (.tmp rfl (congrArg Value.bool (by rw [hc5]; rfl))) rfl ?_
    refine c_skip ?_
    refine n_then ?_
    refine c_seq ?_
    refine c_seq ?_
    refine c_region ?_
    have hrt := rightS_spec hc5; have hl40 := hrt.2; have hjl : (joinS l).length ≤ 40 := Nat.le_trans (joinTo_length l l.length) hrt.2
    refine st (v := .int .i64 0) (x_assign .const) ?_
    refine c_nil ?_
    refine n_then ?_
    refine c_block ?_
    refine c_loop (fun ρ w mm => ∃ (i : Nat), ρ 0 = .slice A_l n_l c_l ∧ ρ 3 = .int .i64 ((i : Nat) : Int) ∧ (i ≤ n_l) ∧ St H w (L) ∧ mm = n_l - i) _ ⟨0, rfl, rfl, (by omega), hs4, rfl⟩ ?_
    rintro ρ w mm ⟨i, hρ7, hρ8, hi, hs9, rfl⟩
    refine c_seq ?_
    refine c_seq ?_
    refine c_region ?_
    refine st (v := .int .i64 ((i : Nat) : Int)) (x_move (.tmp rfl hρ8)) ?_
    refine st (v := .slice A_l n_l c_l) (x_move (.tmp rfl hρ7)) ?_
    refine st (v := .int .i64 ((n_l : Nat) : Int)) (x_len (n := n_l) Try.underlying22 (.tmp rfl rfl)) ?_
    refine st (v := .bool (decide ((((i : Nat) : Int) : Int) < ((n_l : Nat) : Int)))) (x_lss (k := .i64) (a := ((i : Nat) : Int)) (b := ((n_l : Nat) : Int)) (.tmp rfl rfl) (.tmp rfl rfl)) ?_
    refine c_nil ?_
    refine n_then ?_
    rcases Bool.eq_false_or_eq_true (decide ((((i : Nat) : Int) : Int) < ((n_l : Nat) : Int))) with hc10 | hc10
    · have hp10 : (((i : Nat) : Int) : Int) < ((n_l : Nat) : Int) := of_decide_eq_true hc10
      refine c_cond_t (t := true) (.tmp rfl (congrArg Value.bool hc10)) rfl ?_
      refine c_skip ?_
      refine n_then ?_
      refine c_seq ?_
      refine c_block ?_
      refine c_seq ?_
      refine q_region mixed hs9 (by kernel_rfl) ?_
      refine q_st (v := .slice A_l n_l c_l) (fun w hs => (x_move (.tmp rfl hρ7))) ?_
      refine q_st (v := .int .i64 ((i : Nat) : Int)) (fun w hs => (x_move (.tmp rfl hρ8))) ?_
      obtain ⟨e11, b12, o13, cs14, hx15, hA16, hr17, hat18⟩ := h_l.get (i := i) (by omega)
      obtain ⟨A24, n25, c26, rfl, b19, ⟨b20, b21⟩, ⟨b22, b23⟩, hl27⟩ := hr17
      have := hl27.len; have : n25 * 32 ≤ 140737488351232 := hl27.bnd; have := hl27.le
      have hat18x : ∀ {w : World} {L : List Res}, St H w L → At w ⟨b12, o13 + i * 4, none⟩ [.int .u64 ((e11.V.N : Nat) : Int), .int .i64 e11.V.P, .int .i64 e11.Floor, .slice A24 n25 c26] := fun h => hat18 h
      have := hrt.1 e11 (List.mem_of_getElem? hx15)
      refine q_st (v := .pointer (some ⟨b12, (o13 + i * 4), none⟩)) (fun w hs => (ixo22 (.tmp rfl rfl) hA16 (i := ((i : Nat) : Int)) (.tmp rfl rfl) (by omega) (by omega) (by omega))) ?_
      refine q_st (v := .agg #[.int .u64 ((e11.V.N : Nat) : Int), .int .i64 e11.V.P, .int .i64 e11.Floor, .slice A24 n25 c26]) (fun w hs => (ld38 (cs := [.int .u64 ((e11.V.N : Nat) : Int), .int .i64 e11.V.P, .int .i64 e11.Floor, .slice A24 n25 c26]) (.tmp rfl rfl) ((hat18x hs).sub 0 rfl) rfl)) ?_
      refine q_c (v := .bool (sForm e11)) cb19 .func (evs1 (.tmp rfl rfl)) (fun w hs => cform_spec hs e11 (k_s := [.int .u64 ((e11.V.N : Nat) : Int), .int .i64 e11.V.P, .int .i64 e11.Floor, .slice A24 n25 c26]) ⟨A24, n25, c26, rfl, b19, ⟨b20, b21⟩, ⟨b22, b23⟩, hl27⟩ ) ?_
      refine q_st (v := .slice A_l n_l c_l) (fun w hs => (x_move (.tmp rfl hρ7))) ?_
      refine q_st (v := .int .i64 ((i : Nat) : Int)) (fun w hs => (x_move (.tmp rfl hρ8))) ?_
      refine q_st (v := .pointer (some ⟨b12, (o13 + i * 4), none⟩)) (fun w hs => (ixo22 (.tmp rfl rfl) hA16 (i := ((i : Nat) : Int)) (.tmp rfl rfl) (by omega) (by omega) (by omega))) ?_
      refine q_st (v := .agg #[.int .u64 ((e11.V.N : Nat) : Int), .int .i64 e11.V.P, .int .i64 e11.Floor, .slice A24 n25 c26]) (fun w hs => (ld38 (cs := [.int .u64 ((e11.V.N : Nat) : Int), .int .i64 e11.V.P, .int .i64 e11.Floor, .slice A24 n25 c26]) (.tmp rfl rfl) ((hat18x hs).sub 0 rfl) rfl)) ?_
      refine q_c (v := .bool (sForm e11)) cb20 .func (evs1 (.tmp rfl rfl)) (fun w hs => rcform_spec hs e11 (k_s := [.int .u64 ((e11.V.N : Nat) : Int), .int .i64 e11.V.P, .int .i64 e11.Floor, .slice A24 n25 c26]) ⟨A24, n25, c26, rfl, b19, ⟨b20, b21⟩, ⟨b22, b23⟩, hl27⟩ ) ?_
      refine q_st (v := .bool ((sForm e11) != (sForm e11))) (fun w hs => (x_neqB Try.underlying4 (.tmp rfl rfl) (.tmp rfl rfl))) ?_
      refine q_st (v := .bool false) (fun w hs => (x_move (.tmp rfl (congrArg Value.bool (show ((sForm e11) != (sForm e11)) = false from by simp))))) ?_
      refine q_yes (yl (dj := 29) (b := false) rfl rfl rfl) ?_
      refine q_st (v := .slice A_l n_l c_l) (fun w hs => (x_move (.tmp rfl hρ7))) ?_
      refine q_yes (yl (dj := 29) (b := false) rfl rfl rfl) ?_
      refine q_st (v := .int .i64 ((i : Nat) : Int)) (fun w hs => (x_move (.tmp rfl hρ8))) ?_
      refine q_yes (yl (dj := 29) (b := false) rfl rfl rfl) ?_
      refine q_st (v := .pointer (some ⟨b12, (o13 + i * 4), none⟩)) (fun w hs => (ixo22 (.tmp rfl rfl) hA16 (i := ((i : Nat) : Int)) (.tmp rfl rfl) (by omega) (by omega) (by omega))) ?_
      refine q_yes (yl (dj := 29) (b := false) rfl rfl rfl) ?_
      refine q_st (v := .agg #[.int .u64 ((e11.V.N : Nat) : Int), .int .i64 e11.V.P, .int .i64 e11.Floor, .slice A24 n25 c26]) (fun w hs => (ld38 (cs := [.int .u64 ((e11.V.N : Nat) : Int), .int .i64 e11.V.P, .int .i64 e11.Floor, .slice A24 n25 c26]) (.tmp rfl rfl) ((hat18x hs).sub 0 rfl) rfl)) ?_
      refine q_yes (yl (dj := 29) (b := false) rfl rfl rfl) ?_
      refine q_c (v := .int .i64 (sEnd e11)) cb16 .func (evs1 (.tmp rfl rfl)) (fun w hs => end_spec hs e11 (k_s := [.int .u64 ((e11.V.N : Nat) : Int), .int .i64 e11.V.P, .int .i64 e11.Floor, .slice A24 n25 c26]) ⟨A24, n25, c26, rfl, b19, ⟨b20, b21⟩, ⟨b22, b23⟩, hl27⟩ (show (0 : Int) ≤ e11.Floor from by omega) (show e11.Floor ≤ (1073741824 : Int) from by omega)) ?_
      refine q_yes (yl (dj := 29) (b := false) rfl rfl rfl) ?_
      refine q_st (v := .slice A_l n_l c_l) (fun w hs => (x_move (.tmp rfl hρ7))) ?_
      refine q_yes (yl (dj := 29) (b := false) rfl rfl rfl) ?_
      refine q_st (v := .int .i64 ((i : Nat) : Int)) (fun w hs => (x_move (.tmp rfl hρ8))) ?_
      refine q_yes (yl (dj := 29) (b := false) rfl rfl rfl) ?_
      refine q_st (v := .pointer (some ⟨b12, (o13 + i * 4), none⟩)) (fun w hs => (ixo22 (.tmp rfl rfl) hA16 (i := ((i : Nat) : Int)) (.tmp rfl rfl) (by omega) (by omega) (by omega))) ?_
      refine q_yes (yl (dj := 29) (b := false) rfl rfl rfl) ?_
      refine q_st (v := .agg #[.int .u64 ((e11.V.N : Nat) : Int), .int .i64 e11.V.P, .int .i64 e11.Floor, .slice A24 n25 c26]) (fun w hs => (ld38 (cs := [.int .u64 ((e11.V.N : Nat) : Int), .int .i64 e11.V.P, .int .i64 e11.Floor, .slice A24 n25 c26]) (.tmp rfl rfl) ((hat18x hs).sub 0 rfl) rfl)) ?_
      refine q_yes (yl (dj := 29) (b := false) rfl rfl rfl) ?_
      refine q_c (v := .int .i64 (sEnd e11)) cb21 .func (evs1 (.tmp rfl rfl)) (fun w hs => rend_spec hs e11 (k_s := [.int .u64 ((e11.V.N : Nat) : Int), .int .i64 e11.V.P, .int .i64 e11.Floor, .slice A24 n25 c26]) ⟨A24, n25, c26, rfl, b19, ⟨b20, b21⟩, ⟨b22, b23⟩, hl27⟩ (show (0 : Int) ≤ e11.Floor from by omega) (show e11.Floor ≤ (1073741824 : Int) from by omega)) ?_
      refine q_yes (yl (dj := 29) (b := false) rfl rfl rfl) ?_
      refine q_st (v := .bool (decide (((sEnd e11) : Int) ≠ (sEnd e11)))) (fun w hs => (x_neq (k := .i64) (a := (sEnd e11)) (b := (sEnd e11)) (.tmp rfl rfl) (.tmp rfl rfl))) ?_
      refine q_st (v := .bool false) (fun w hs => (x_pick_f (.tmp rfl rfl) (.tmp rfl (congrArg Value.bool (show (decide (((sEnd e11) : Int) ≠ (sEnd e11))) = false from by simp))))) ?_
      refine q_nil ?_
      intro w hs32
      refine n_then ?_
      refine c_cond_f (t := false) (.tmp rfl rfl) rfl ?_
      refine c_skip ?_
      refine n_block ?_
      refine n_then ?_
      refine c_region ?_
      refine st (v := .int .i64 ((i : Nat) : Int)) (x_move (.tmp rfl hρ8)) ?_
      refine st (v := .int .i64 (((i + 1) : Nat) : Int)) (x_add (k := .i64) (a := ((i : Nat) : Int)) (b := 1) (.tmp rfl rfl) .const ((w64 (by omega) (by omega)).trans (by omega))) ?_
      refine st (v := .int .i64 (((i + 1) : Nat) : Int)) (x_assign (.tmp rfl rfl)) ?_
      refine c_nil ?_
      refine n_then ⟨_, _, rfl, ?_, (i + 1), hρ7, rfl, (by omega), hs32, rfl⟩
      omega
    · have hp10 : ¬ ((((i : Nat) : Int) : Int) < ((n_l : Nat) : Int)) := of_decide_eq_false hc10
      refine c_cond_f (t := false) (.tmp rfl (congrArg Value.bool hc10)) rfl ?_
      refine c_exit ?_
      refine x_then ?_
      refine x_then ?_
      refine x_here ?_
      refine n_then ?_
      refine c_seq ?_
      refine c_region ?_
      refine st (v := .slice A_l n_l c_l) (x_move (.tmp rfl hρ7)) ?_
      refine st_c cb17 .func (evs1 (.tmp rfl rfl)) (join_spec hs9 l h_l hrt.1) ?_
      rintro e w33 ⟨v35, cs38, rfl, ok36, hk39, hs34⟩
      have := h_l.len
      refine ⟨_, rfl, ?_⟩
      refine st (v := .slice A_l n_l c_l) (x_move (.tmp rfl hρ7)) ?_
      refine st_c cb12 .func (evs1 (.tmp rfl rfl)) (rjoin_spec hs34 l h_l hrt.1) ?_
      rintro e w40 ⟨v42, cs45, rfl, ok43, hk46, hs41⟩
      have := h_l.len
      refine ⟨_, rfl, ?_⟩
      have hs47 : St H _ (row 38 4 v35 ((joinS l).length) cs38 :: row 38 4 v42 ((joinS l).length) cs45 :: L) := hs41.pick 1 rfl rfl
      have : (joinS l).length * 48 ≤ 140737488351232 := by omega
      obtain ⟨H48, A49, c50, hle51, hs52, rfl, sp53⟩ := hs47.freezeSl (d := kState) ok36 hk39 this
      have := sp53.len; have := sp53.le
      have : (joinS l).length * 48 ≤ 140737488351232 := by omega
      obtain ⟨H54, A55, c56, hle57, hs58, rfl, sp59⟩ := hs52.freezeSl (d := kState) ok43 (Kn.rows_mono hk46 hle51) this
      have := sp59.len; have := sp59.le
      refine st_c cb18 .func (evs2 (.tmp rfl rfl) (.tmp rfl rfl)) (same_spec hs58 (joinS l) (sp53.mono hle57) (joinS l) sp59 ) ?_
      rintro e w60 ⟨rfl, hs61⟩
      refine ⟨_, rfl, ?_⟩
      refine st (v := .bool (decide ((joinS l) = (joinS l)))) (x_assign (.tmp rfl rfl)) ?_
      refine c_nil ?_
      refine n_then ?_
      refine c_ret ?_
      refine leave_ret (res_one (v := .bool (decide ((joinS l) = (joinS l)))) rfl (.mk rfl rfl)) ?_
      have hyes : (decide ((joinS l) = (joinS l))) = true := (by simp)
      rw [hyes]
      exact ⟨rfl, (hs61.weaken (hle51.trans hle57))⟩
  · refine c_cond_t (t := true) (.tmp rfl (congrArg Value.bool (by rw [hc5]; rfl))) rfl ?_
    refine c_seq ?_
    refine c_region ?_
    refine st_c cb10 .func (evs0 ) (awake_spec hs4  ) ?_
    rintro e w62 ⟨rfl, hs63⟩
    refine ⟨_, rfl, ?_⟩
    refine st (v := .bool true) (x_assign (.tmp rfl rfl)) ?_
    refine c_nil ?_
    refine n_then ?_
    refine c_ret ?_
    refine r_then ?_
    refine leave_ret (res_one (v := .bool true) rfl (.mk rfl rfl)) ?_
    exact ⟨rfl, hs63⟩

end Go.Proofs.Ytkbllbphkdnmbaa
