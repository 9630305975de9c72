/- Steps of the proofs over the functions of this seat, printed by a program (gen.py) and checked by Lean. -/
import Derived.Test.YtkbllbphkdnmbaaUty
import Derived.Test.YtkbllbphkdnmbaaFmM6
import Derived.Test.YtkbllbphkdnmbaaFmV
import Derived.Test.YtkbllbphkdnmbaaFmX
import Derived.Test.YtkbllbphkdnmbaaU6e
set_option linter.unusedVariables false
set_option linter.unusedSimpArgs false
namespace Go.Proofs.Ytkbllbphkdnmbaa
open Go Go.FM Go.Proofs
attribute [local irreducible] wpList wpQuiet wpS Code.wp Calls
theorem e_overlaps38 : Extern.find Try.f38 = some (Extern.SlicesOverlaps.overlaps #[22, 22] #[4]) := by kernel_rfl
set_option maxHeartbeats 8000000 in
theorem insert_state {H : Hp} {w : World} {L : List Res} {v_s : Value} {c_s : List Value} {s : (List GState)}  {g_v : Nat} {k_v : List Value} {v : GState} (hs : St H w (row 38 4 v_s s.length c_s :: obj g_v 38 k_v :: L)) (ok_s : RowOk kState.sz v_s s.length c_s) (hk_s : kState.toKn.rows H s c_s) (i : Nat) (h_v : kState.rep H v k_v) (hi : i ≤ s.length) (hsz : (s.length + 1) * 48 ≤ 140737488355328) : Calls Try.prog 29 #[v_s, .int .i64 ((i : Nat) : Int), .slice (some ⟨g_v, 0, none⟩) 1 1] w (fun e w' => ∃ (v0 : Value) (cs0 : List Value), e = .returned (v0) ∧ RowOk kState.sz v0 (s.take i ++ [v] ++ s.drop i).length cs0 ∧ kState.toKn.rows H (s.take i ++ [v] ++ s.drop i) cs0 ∧ St H w' (row 38 kState.sz v0 (s.take i ++ [v] ++ s.drop i).length cs0 :: L)) := by
  have : s.length ≤ 9223372036854775807 := ok_s.2.1
  obtain ⟨A6, n7, c8, rfl, b1, ⟨b2, b3⟩, ⟨b4, b5⟩, hl9⟩ := h_v
  have := hl9.len; have : n7 * 32 ≤ 140737488351232 := hl9.bnd; have := hl9.le
  refine enter (args := [v_s, .int .i64 ((i : Nat) : Int), .slice (some ⟨g_v, 0, none⟩) 1 1]) (N := 95) Try.func29 rfl rfl rfl ?_
  refine c_seq ?_
  refine c_region ?_
  refine st (v := .slice none 0 0) (x_assign .const) ?_
  refine c_nil ?_
  refine n_then ?_
  refine c_seq ?_
  refine c_region ?_
  refine st (v := v_s) (x_move (.tmp rfl rfl)) ?_
  refine st (v := .int .i64 ((i : Nat) : Int)) (x_move (.tmp rfl rfl)) ?_
  obtain ⟨A10, c11, hv12, hc13⟩ := ok_s.slice
  refine st (v := .slice (cutA A10 c11 (((i : Nat) : Int)).toNat kState.sz) (s.length - (((i : Nat) : Int)).toNat) (c11 - (((i : Nat) : Int)).toNat)) (sl_l (d := kState) Try.underlying22 inf38 (a := ((i : Nat) : Int)) (.tmp rfl hv12) (.tmp rfl rfl) (by omega) (by omega) (by omega)) ?_
  refine c_nil ?_
  refine n_then ?_
  refine c_seq ?_
  refine c_region ?_
  refine st (v := .slice (some ⟨g_v, 0, none⟩) 1 1) (x_move (.tmp rfl rfl)) ?_
  refine st (v := .int .i64 ((1 : Nat) : Int)) (x_len (n := 1) Try.underlying22 (.tmp rfl rfl)) ?_
  refine st (v := .int .i64 ((1 : Nat) : Int)) (x_assign (.tmp rfl rfl)) ?_
  refine c_nil ?_
  refine n_then ?_
  refine c_seq ?_
  refine c_seq ?_
  refine c_region ?_
  refine st (v := .int .i64 ((1 : Nat) : Int)) (x_move (.tmp rfl rfl)) ?_
  refine st (v := .bool false) (x_eql (k := .i64) (a := ((1 : Nat) : Int)) (b := 0) (.tmp rfl rfl) .const) ?_
  refine c_nil ?_
  refine n_then ?_
  refine c_cond_f (t := false) (.tmp rfl rfl) rfl ?_
  refine c_skip ?_
  refine n_then ?_
  refine c_seq ?_
  refine c_region ?_
  refine st (v := v_s) (x_move (.tmp rfl rfl)) ?_
  obtain ⟨A14, c15, hv16, hc17⟩ := ok_s.slice
  refine st (v := .int .i64 ((s.length : Nat) : Int)) (x_len (n := s.length) Try.underlying22 (.tmp rfl hv16)) ?_
  refine st (v := .int .i64 ((s.length : Nat) : Int)) (x_assign (.tmp rfl rfl)) ?_
  refine c_nil ?_
  refine n_then ?_
  refine c_seq ?_
  refine c_seq ?_
  refine c_region ?_
  refine st (v := .int .i64 ((i : Nat) : Int)) (x_move (.tmp rfl rfl)) ?_
  refine st (v := .int .i64 ((s.length : Nat) : Int)) (x_move (.tmp rfl rfl)) ?_
  refine st (v := .bool (decide ((((i : Nat) : Int) : Int) = ((s.length : Nat) : Int)))) (x_eql (k := .i64) (a := ((i : Nat) : Int)) (b := ((s.length : Nat) : Int)) (.tmp rfl rfl) (.tmp rfl rfl)) ?_
  refine c_nil ?_
  refine n_then ?_
  rcases Bool.eq_false_or_eq_true (decide ((((i : Nat) : Int) : Int) = ((s.length : Nat) : Int))) with hc18 | hc18
  · have hp18 : (((i : Nat) : Int) : Int) = ((s.length : Nat) : Int) := of_decide_eq_true hc18
    refine c_cond_t (t := true) (.tmp rfl (congrArg Value.bool hc18)) rfl ?_
    refine c_seq ?_
    refine c_region ?_
    refine st (v := v_s) (x_move (.tmp rfl rfl)) ?_
    refine st (v := .slice (some ⟨g_v, 0, none⟩) 1 1) (x_move (.tmp rfl rfl)) ?_
    have hr26 : kState.rep H v [.int .u64 ((v.V.N : Nat) : Int), .int .i64 v.V.P, .int .i64 v.Floor, .slice A6 n7 c8] := ⟨A6, n7, c8, rfl, b1, ⟨b2, b3⟩, ⟨b4, b5⟩, hl9⟩
    refine st_m (m_appK (d := kState) (ys := [v]) (news := [.int .u64 ((v.V.N : Nat) : Int), .int .i64 v.V.P, .int .i64 v.Floor, .slice A6 n7 c8]) Try.underlying22 inf38 rfl hs ok_s hk_s (.tmp rfl rfl) (.tmp rfl rfl) (Kn.rows_one hr26) rfl (hs.at_ 1 rfl 0 rfl) (by have : ([v] : List GState).length = 1 := rfl; omega) (by decide)) ?_
    rintro v19 w20 ⟨cs21, ok22, hk23, hs24⟩
    have hn25 : (s ++ [v]).length = s.length + 1 := by simp
    refine st (v := v19) (x_assign (.tmp rfl rfl)) ?_
    refine c_nil ?_
    refine n_then ?_
    refine c_ret ?_
    refine r_then ?_
    refine leave_ret (res_one (v := v19) rfl (.mk rfl rfl)) ?_
    have hin : i = s.length := by omega
    have hans : s.take i ++ [v] ++ s.drop i = s ++ [v] := by rw [hin, List.take_length, List.drop_length, List.append_nil]
    rw [hans]
    exact ⟨v19, cs21, rfl, ok22, hk23, (hs24.pick 1 rfl rfl).drop⟩
  · have hp18 : ¬ ((((i : Nat) : Int) : Int) = ((s.length : Nat) : Int)) := of_decide_eq_false hc18
    refine c_cond_f (t := false) (.tmp rfl (congrArg Value.bool hc18)) rfl ?_
    refine c_skip ?_
    refine n_then ?_
    refine c_seq ?_
    refine c_seq ?_
    refine c_region ?_
    obtain ⟨g27, cap28, rfl⟩ := ok_s.pos (by omega)
    have hcl : c_s.length = s.length * 4 := ok_s.1
    have hcp : s.length ≤ cap28 := by obtain ⟨A, c, h1, h2⟩ := ok_s.slice; injection h1 with _ _ h1; rw [h1]; exact h2
    have h1s : ∀ u ∈ c_s, u.oneCell' = true := Kn.rows_one_cell hk_s
    have hmx := ok_s.2.1
    have hyl : ([.int .u64 ((v.V.N : Nat) : Int), .int .i64 v.V.P, .int .i64 v.Floor, .slice A6 n7 c8] : List Value).length = 1 * 4 := rfl
    skip
    refine st (v := .int .i64 ((s.length : Nat) : Int)) (x_move (.tmp rfl rfl)) ?_
    refine st (v := .int .i64 ((1 : Nat) : Int)) (x_move (.tmp rfl rfl)) ?_
    refine st (v := .int .i64 (((s.length + 1) : Nat) : Int)) (x_add (k := .i64) (a := ((s.length : Nat) : Int)) (b := ((1 : Nat) : Int)) (.tmp rfl rfl) (.tmp rfl rfl) ((w64 (by omega) (by omega)).trans (by omega))) ?_
    refine st (v := .slice (some ⟨g27, 0, none⟩) s.length cap28) (x_move (.tmp rfl rfl)) ?_
    refine st (v := .int .i64 ((cap28 : Nat) : Int)) (x_cap (c := cap28) Try.underlying22 (.tmp rfl rfl)) ?_
    refine st (v := .bool (decide ((((cap28 : Nat) : Int) : Int) < (((s.length + 1) : Nat) : Int)))) (x_gtr (k := .i64) (a := (((s.length + 1) : Nat) : Int)) (b := ((cap28 : Nat) : Int)) (.tmp rfl rfl) (.tmp rfl rfl)) ?_
    refine c_nil ?_
    refine n_then ?_
    rcases Bool.eq_false_or_eq_true (decide ((((cap28 : Nat) : Int) : Int) < (((s.length + 1) : Nat) : Int))) with hc29 | hc29
    · have hp29 : (((cap28 : Nat) : Int) : Int) < (((s.length + 1) : Nat) : Int) := of_decide_eq_true hc29
      refine c_cond_t (t := true) (.tmp rfl (congrArg Value.bool hc29)) rfl ?_
      refine c_seq ?_
      refine c_region ?_
      refine st (v := .slice (some ⟨g27, 0, none⟩) s.length cap28) (x_move (.tmp rfl rfl)) ?_
      refine st (v := .int .i64 ((i : Nat) : Int)) (x_move (.tmp rfl rfl)) ?_
      refine st (v := .slice (some ⟨g27, 0, none⟩) i cap28) (sl_h (d := kState) Try.underlying22 inf38 (a := ((i : Nat) : Int)) (.tmp rfl rfl) (.tmp rfl rfl) (by omega) (by omega)) ?_
      refine st (v := .int .i64 ((s.length : Nat) : Int)) (x_move (.tmp rfl rfl)) ?_
      refine st (v := .int .i64 ((1 : Nat) : Int)) (x_move (.tmp rfl rfl)) ?_
      refine st (v := .int .i64 (((s.length + 1) : Nat) : Int)) (x_add (k := .i64) (a := ((s.length : Nat) : Int)) (b := ((1 : Nat) : Int)) (.tmp rfl rfl) (.tmp rfl rfl) ((w64 (by omega) (by omega)).trans (by omega))) ?_
      refine st (v := .int .i64 ((i : Nat) : Int)) (x_move (.tmp rfl rfl)) ?_
      refine st (v := .int .i64 ((((s.length + 1) - i) : Nat) : Int)) (x_sub (k := .i64) (a := (((s.length + 1) : Nat) : Int)) (b := ((i : Nat) : Int)) (.tmp rfl rfl) (.tmp rfl rfl) ((w64 (by omega) (by omega)).trans (by omega))) ?_
      refine st_m (m_appZeros (xs := c_s.take (i * 4)) (k := s.length + 1 - i) Try.underlying22 Try.underlying3 inf38 rfl (by decide) hs (.tmp rfl rfl) (.inr ⟨_, rfl, hs.rowAt 0 rfl rfl 0 (take_self _ _)⟩) (by rw [List.length_take, hcl]; exact Nat.min_eq_left (Nat.mul_le_mul_right _ (by omega))) (.tmp rfl rfl) (by omega) (by omega) (by omega) (by decide)) ?_
      rintro v30 w31 ⟨ok32, hs33⟩
      obtain ⟨g34, cap35, rfl⟩ := ok32.pos (by omega)
      have hc2 : i + (s.length + 1 - i) ≤ cap35 := by obtain ⟨A, c, h1, h2⟩ := ok32.slice; injection h1 with _ _ h1; rw [h1]; exact h2
      have ok32 : RowOk 4 (.slice (some ⟨g34, 0, none⟩) (i + (s.length + 1 - i)) cap35) (i + (s.length + 1 - i)) (c_s.take (i * 4) ++ (List.replicate (s.length + 1 - i) ([.int .u64 0, .int .i64 0, .int .i64 0, .slice none 0 0] : List Value)).flatten) := ok32
      have hs33 : St H _ (row 38 4 (.slice (some ⟨g34, 0, none⟩) (i + (s.length + 1 - i)) cap35) (i + (s.length + 1 - i)) (c_s.take (i * 4) ++ (List.replicate (s.length + 1 - i) ([.int .u64 0, .int .i64 0, .int .i64 0, .slice none 0 0] : List Value)).flatten) :: row 38 4 (.slice (some ⟨g27, 0, none⟩) s.length cap28) s.length c_s :: obj g_v 38 [.int .u64 ((v.V.N : Nat) : Int), .int .i64 v.V.P, .int .i64 v.Floor, .slice A6 n7 c8] :: L) := hs33
      refine st (v := .slice (some ⟨g34, 0, none⟩) (i + (s.length + 1 - i)) cap35) (x_assign (.tmp rfl rfl)) ?_
      refine c_nil ?_
      refine n_then ?_
      refine c_seq ?_
      refine c_region ?_
      refine st (v := .slice (some ⟨g34, 0, none⟩) (i + (s.length + 1 - i)) cap35) (x_move (.tmp rfl rfl)) ?_
      refine st (v := .int .i64 ((i : Nat) : Int)) (x_move (.tmp rfl rfl)) ?_
      refine st (v := .slice (cutA (some ⟨g34, 0, none⟩) cap35 i kState.sz) ((i + (s.length + 1 - i)) - i) (cap35 - i)) (sl_l (d := kState) Try.underlying22 inf38 (a := ((i : Nat) : Int)) (.tmp rfl rfl) (.tmp rfl rfl) (by omega) (by omega) (by omega)) ?_
      refine st (v := .slice (some ⟨g_v, 0, none⟩) 1 1) (x_move (.tmp rfl rfl)) ?_
      have hx38 : ((c_s.take (i * 4) ++ (List.replicate (s.length + 1 - i) ([.int .u64 0, .int .i64 0, .int .i64 0, .slice none 0 0] : List Value)).flatten)).length = (i + (s.length + 1 - i)) * 4 := by exact ok32.1
      refine st_m (m_copyRow (news := ([.int .u64 ((v.V.N : Nat) : Int), .int .i64 v.V.P, .int .i64 v.Floor, .slice A6 n7 c8] : List Value)) (k := 1) (o := i * 4) Try.underlying22 inf38 hs33 rfl (.tmp rfl (congrArg (fun A => Value.slice A ((i + (s.length + 1 - i)) - i) (cap35 - i)) (cutA_some (size := 4) (by omega)))) (.tmp rfl rfl) (by simp only [Nat.min_def]; split <;> omega) (hs33.at_ 2 rfl 0 rfl) hyl (by rw [hx38]; omega) (by simp [Value.oneCell'])) ?_
      rintro _ w36 ⟨rfl, hs37⟩
      refine c_nil ?_
      refine n_then ?_
      refine c_seq ?_
      refine s_region (L := row 38 4 (.slice (some ⟨g34, 0, none⟩) (i + (s.length + 1 - i)) cap35) (i + (s.length + 1 - i)) (splice (c_s.take (i * 4) ++ (List.replicate (s.length + 1 - i) ([.int .u64 0, .int .i64 0, .int .i64 0, .slice none 0 0] : List Value)).flatten) (i * 4) ([.int .u64 ((v.V.N : Nat) : Int), .int .i64 v.V.P, .int .i64 v.Floor, .slice A6 n7 c8] : List Value)) :: row 38 4 (.slice (some ⟨g27, 0, none⟩) s.length cap28) s.length c_s :: obj g_v 38 [.int .u64 ((v.V.N : Nat) : Int), .int .i64 v.V.P, .int .i64 v.Floor, .slice A6 n7 c8] :: L) (L' := row 38 4 (.slice (some ⟨g27, 0, none⟩) s.length cap28) s.length c_s :: obj g_v 38 [.int .u64 ((v.V.N : Nat) : Int), .int .i64 v.V.P, .int .i64 v.Floor, .slice A6 n7 c8] :: L) none [(0, true), (1, true), (2, true), (3, true), (4, true), (5, true), (6, true), (7, true), (8, false)] mixed hs37 (fun u hu => hu.drop) (by kernel_rfl) ?_
      intro w39 hs40
      refine s_st (k := 0) (v := .slice (some ⟨g34, 0, none⟩) (i + (s.length + 1 - i)) cap35) rfl (fun w hs => (x_move (.tmp rfl rfl))) ?_
      refine s_st (k := 1) (v := .int .i64 ((i : Nat) : Int)) rfl (fun w hs => (x_move (.tmp rfl rfl))) ?_
      refine s_st (k := 2) (v := .int .i64 ((1 : Nat) : Int)) rfl (fun w hs => (x_move (.tmp rfl rfl))) ?_
      refine s_st (k := 3) (v := .int .i64 (((i + 1) : Nat) : Int)) rfl (fun w hs => (x_add (k := .i64) (a := ((i : Nat) : Int)) (b := ((1 : Nat) : Int)) (.tmp rfl rfl) (.tmp rfl rfl) ((w64 (by omega) (by omega)).trans (by omega)))) ?_
      refine s_st (k := 4) (v := .slice (cutA (some ⟨g34, 0, none⟩) cap35 (i + 1) kState.sz) ((i + (s.length + 1 - i)) - (i + 1)) (cap35 - (i + 1))) rfl (fun w hs => (sl_l (d := kState) Try.underlying22 inf38 (a := (((i + 1) : Nat) : Int)) (.tmp rfl rfl) (.tmp rfl rfl) (by omega) (by omega) (by omega))) ?_
      refine s_st (k := 5) (v := .slice (some ⟨g27, 0, none⟩) s.length cap28) rfl (fun w hs => (x_move (.tmp rfl rfl))) ?_
      refine s_st (k := 6) (v := .int .i64 ((i : Nat) : Int)) rfl (fun w hs => (x_move (.tmp rfl rfl))) ?_
      refine s_st (k := 7) (v := .slice (cutA (some ⟨g27, 0, none⟩) cap28 i kState.sz) (s.length - i) (cap28 - i)) rfl (fun w hs => (sl_l (d := kState) Try.underlying22 inf38 (a := ((i : Nat) : Int)) (.tmp rfl rfl) (.tmp rfl rfl) (by omega) (by omega) (by omega))) ?_
      refine s_eff (k := 8) rfl ?_
      have hdl : (c_s.drop (i * 4)).length = (s.length - i) * 4 := by rw [List.length_drop, hcl, Nat.sub_mul]
      have hx43 : ((splice (c_s.take (i * 4) ++ (List.replicate (s.length + 1 - i) ([.int .u64 0, .int .i64 0, .int .i64 0, .slice none 0 0] : List Value)).flatten) (i * 4) ([.int .u64 ((v.V.N : Nat) : Int), .int .i64 v.V.P, .int .i64 v.Floor, .slice A6 n7 c8] : List Value))).length = (i + (s.length + 1 - i)) * 4 := by rw [splice_length (by rw [hx38, hyl]; omega), hx38]
      refine st_m (m_copyRow (news := (c_s.drop (i * 4))) (k := s.length - i) (o := (i + 1) * 4) Try.underlying22 inf38 hs40 rfl (.tmp rfl (congrArg (fun A => Value.slice A ((i + (s.length + 1 - i)) - (i + 1)) (cap35 - (i + 1))) (cutA_some (size := 4) (by omega)))) (.tmp rfl (congrArg (fun A => Value.slice A (s.length - i) (cap28 - i)) (cutA_some (size := 4) (by omega)))) (by simp only [Nat.min_def]; split <;> omega) (hs40.rowAt 1 rfl rfl (i * 4) (drop_self _ _)) hdl (by rw [hx43]; omega) (fun u hu => h1s u (List.mem_of_mem_drop hu))) ?_
      rintro _ w41 ⟨rfl, hs42⟩
      refine s_on (S' := fun u => St H u (row 38 4 (.slice (some ⟨g27, 0, none⟩) s.length cap28) s.length c_s :: obj g_v 38 [.int .u64 ((v.V.N : Nat) : Int), .int .i64 v.V.P, .int .i64 v.Floor, .slice A6 n7 c8] :: L)) (fun u hu => hu) hs42.drop ?_
      refine s_nil ?_
      refine n_then ?_
      refine c_seq ?_
      refine c_region ?_
      refine st (v := .slice (some ⟨g34, 0, none⟩) (i + (s.length + 1 - i)) cap35) (x_move (.tmp rfl rfl)) ?_
      refine st (v := .slice (some ⟨g34, 0, none⟩) (i + (s.length + 1 - i)) cap35) (x_assign (.tmp rfl rfl)) ?_
      refine c_nil ?_
      refine n_then ?_
      refine c_ret ?_
      refine r_then ?_
      refine leave_ret (res_one (v := .slice (some ⟨g34, 0, none⟩) (i + (s.length + 1 - i)) cap35) rfl (.mk rfl rfl)) ?_
      have hce : (splice (splice (c_s.take (i * 4) ++ (List.replicate (s.length + 1 - i) ([.int .u64 0, .int .i64 0, .int .i64 0, .slice none 0 0] : List Value)).flatten) (i * 4) ([.int .u64 ((v.V.N : Nat) : Int), .int .i64 v.V.P, .int .i64 v.Floor, .slice A6 n7 c8] : List Value)) ((i + 1) * 4) (c_s.drop (i * 4))) = (c_s.take (i * 4) ++ ([.int .u64 ((v.V.N : Nat) : Int), .int .i64 v.V.P, .int .i64 v.Floor, .slice A6 n7 c8] : List Value) ++ c_s.drop (i * 4)) := ins_grow hcl rfl (by rw [List.length_flatten]; simp) (by omega)
      have hrw := rows_insert (i := i) hk_s (show kState.rep H v ([.int .u64 ((v.V.N : Nat) : Int), .int .i64 v.V.P, .int .i64 v.Floor, .slice A6 n7 c8] : List Value) from ⟨A6, n7, c8, rfl, b1, ⟨b2, b3⟩, ⟨b4, b5⟩, hl9⟩) (by omega)
      have hlen9 : (s.take i ++ [v] ++ s.drop i).length = s.length + 1 := by simp; omega
      have hs9 := ((hs42.pick 1 rfl rfl).drop.pick 1 rfl rfl).drop
      rw [hce] at hs9
      rw [show i + (s.length + 1 - i) = s.length + 1 from by omega, ← hlen9] at hs9
      have ok9 : RowOk kState.sz (.slice (some ⟨g34, 0, none⟩) (s.take i ++ [v] ++ s.drop i).length cap35) (s.take i ++ [v] ++ s.drop i).length (c_s.take (i * 4) ++ ([.int .u64 ((v.V.N : Nat) : Int), .int .i64 v.V.P, .int .i64 v.Floor, .slice A6 n7 c8] : List Value) ++ c_s.drop (i * 4)) := ⟨hrw.1, by rw [hlen9]; have := ok32.2.1; omega, .inr ⟨_, _, rfl, by rw [hlen9]; omega⟩⟩
      have hv9 : ((.slice (some ⟨g34, 0, none⟩) (i + (s.length + 1 - i)) cap35) : Value) = .slice (some ⟨g34, 0, none⟩) (s.take i ++ [v] ++ s.drop i).length cap35 := by rw [hlen9]; congr 1; omega
      rw [hv9]
      exact ⟨_, _, rfl, ok9, hrw, hs9⟩
    · have hp29 : ¬ ((((cap28 : Nat) : Int) : Int) < (((s.length + 1) : Nat) : Int)) := of_decide_eq_false hc29
      refine c_cond_f (t := false) (.tmp rfl (congrArg Value.bool hc29)) rfl ?_
      refine c_skip ?_
      refine n_then ?_
      refine c_seq ?_
      refine c_region ?_
      refine st (v := .slice (some ⟨g27, 0, none⟩) s.length cap28) (x_move (.tmp rfl rfl)) ?_
      refine st (v := .int .i64 ((s.length : Nat) : Int)) (x_move (.tmp rfl rfl)) ?_
      refine st (v := .int .i64 ((1 : Nat) : Int)) (x_move (.tmp rfl rfl)) ?_
      refine st (v := .int .i64 (((s.length + 1) : Nat) : Int)) (x_add (k := .i64) (a := ((s.length : Nat) : Int)) (b := ((1 : Nat) : Int)) (.tmp rfl rfl) (.tmp rfl rfl) ((w64 (by omega) (by omega)).trans (by omega))) ?_
      refine st (v := .slice (some ⟨g27, 0, none⟩) (s.length + 1) cap28) (sl_h (d := kState) Try.underlying22 inf38 (a := (((s.length + 1) : Nat) : Int)) (.tmp rfl rfl) (.tmp rfl rfl) (by omega) (by omega)) ?_
      obtain ⟨junk44, hj45, ok46, hs47⟩ := hs.stretch (k := s.length + 1) (by omega) (by omega)
      refine st (v := .slice (some ⟨g27, 0, none⟩) (s.length + 1) cap28) (x_assign (.tmp rfl rfl)) ?_
      refine c_nil ?_
      refine n_then ?_
      refine c_seq ?_
      refine c_seq ?_
      refine c_region ?_
      refine st (v := .slice (some ⟨g_v, 0, none⟩) 1 1) (x_move (.tmp rfl rfl)) ?_
      refine st (v := .slice (some ⟨g27, 0, none⟩) (s.length + 1) cap28) (x_move (.tmp rfl rfl)) ?_
      refine st (v := .int .i64 ((i : Nat) : Int)) (x_move (.tmp rfl rfl)) ?_
      refine st (v := .int .i64 ((1 : Nat) : Int)) (x_move (.tmp rfl rfl)) ?_
      refine st (v := .int .i64 (((i + 1) : Nat) : Int)) (x_add (k := .i64) (a := ((i : Nat) : Int)) (b := ((1 : Nat) : Int)) (.tmp rfl rfl) (.tmp rfl rfl) ((w64 (by omega) (by omega)).trans (by omega))) ?_
      refine st (v := .slice (cutA (some ⟨g27, 0, none⟩) cap28 (i + 1) kState.sz) ((s.length + 1) - (i + 1)) (cap28 - (i + 1))) (sl_l (d := kState) Try.underlying22 inf38 (a := (((i + 1) : Nat) : Int)) (.tmp rfl rfl) (.tmp rfl rfl) (by omega) (by omega) (by omega)) ?_
      refine st (v := .bool false) (x_overlaps (i := 1) (j := 0) Try.func38 (by kernel_rfl) (by kernel_rfl) (by kernel_rfl) (e_overlaps38) Try.underlying22 inf38 hs47 rfl rfl (by decide) (by omega) .func (.tmp rfl rfl) (.tmp rfl (congrArg (fun A => Value.slice A ((s.length + 1) - (i + 1)) (cap28 - (i + 1))) (cutA_some (size := 4) (by omega))))) ?_
      refine st (v := .bool true) (x_not (b := false) (.tmp rfl rfl)) ?_
      refine c_nil ?_
      refine n_then ?_
      refine c_cond_t (t := true) (.tmp rfl rfl) rfl ?_
      refine c_seq ?_
      refine s_region (L := row 38 4 (.slice (some ⟨g27, 0, none⟩) (s.length + 1) cap28) (s.length + 1) (c_s ++ junk44) :: obj g_v 38 [.int .u64 ((v.V.N : Nat) : Int), .int .i64 v.V.P, .int .i64 v.Floor, .slice A6 n7 c8] :: L) (L' := obj g_v 38 [.int .u64 ((v.V.N : Nat) : Int), .int .i64 v.V.P, .int .i64 v.Floor, .slice A6 n7 c8] :: L) none [(0, true), (1, true), (2, true), (3, true), (4, true), (5, true), (6, true), (7, true), (8, false)] mixed hs47 (fun u hu => hu.drop) (by kernel_rfl) ?_
      intro w48 hs49
      refine s_st (k := 0) (v := .slice (some ⟨g27, 0, none⟩) (s.length + 1) cap28) rfl (fun w hs => (x_move (.tmp rfl rfl))) ?_
      refine s_st (k := 1) (v := .int .i64 ((i : Nat) : Int)) rfl (fun w hs => (x_move (.tmp rfl rfl))) ?_
      refine s_st (k := 2) (v := .int .i64 ((1 : Nat) : Int)) rfl (fun w hs => (x_move (.tmp rfl rfl))) ?_
      refine s_st (k := 3) (v := .int .i64 (((i + 1) : Nat) : Int)) rfl (fun w hs => (x_add (k := .i64) (a := ((i : Nat) : Int)) (b := ((1 : Nat) : Int)) (.tmp rfl rfl) (.tmp rfl rfl) ((w64 (by omega) (by omega)).trans (by omega)))) ?_
      refine s_st (k := 4) (v := .slice (cutA (some ⟨g27, 0, none⟩) cap28 (i + 1) kState.sz) ((s.length + 1) - (i + 1)) (cap28 - (i + 1))) rfl (fun w hs => (sl_l (d := kState) Try.underlying22 inf38 (a := (((i + 1) : Nat) : Int)) (.tmp rfl rfl) (.tmp rfl rfl) (by omega) (by omega) (by omega))) ?_
      refine s_st (k := 5) (v := .slice (some ⟨g27, 0, none⟩) (s.length + 1) cap28) rfl (fun w hs => (x_move (.tmp rfl rfl))) ?_
      refine s_st (k := 6) (v := .int .i64 ((i : Nat) : Int)) rfl (fun w hs => (x_move (.tmp rfl rfl))) ?_
      refine s_st (k := 7) (v := .slice (cutA (some ⟨g27, 0, none⟩) cap28 i kState.sz) ((s.length + 1) - i) (cap28 - i)) rfl (fun w hs => (sl_l (d := kState) Try.underlying22 inf38 (a := ((i : Nat) : Int)) (.tmp rfl rfl) (.tmp rfl rfl) (by omega) (by omega) (by omega))) ?_
      refine s_eff (k := 8) rfl ?_
      have hdl : (c_s.drop (i * 4)).length = (s.length - i) * 4 := by rw [List.length_drop, hcl, Nat.sub_mul]
      have hx52 : ((c_s ++ junk44)).length = (s.length + 1) * 4 := by exact ok46.1
      refine st_m (m_copyRow (news := (c_s.drop (i * 4))) (k := s.length - i) (o := (i + 1) * 4) Try.underlying22 inf38 hs49 rfl (.tmp rfl (congrArg (fun A => Value.slice A ((s.length + 1) - (i + 1)) (cap28 - (i + 1))) (cutA_some (size := 4) (by omega)))) (.tmp rfl (congrArg (fun A => Value.slice A ((s.length + 1) - i) (cap28 - i)) (cutA_some (size := 4) (by omega)))) (by simp only [Nat.min_def]; split <;> omega) (hs49.rowAt 0 rfl rfl (i * 4) (drop_app _ _ _ (by rw [hcl]; exact Nat.mul_le_mul_right _ (by omega)))) hdl (by rw [hx52]; omega) (fun u hu => h1s u (List.mem_of_mem_drop hu))) ?_
      rintro _ w50 ⟨rfl, hs51⟩
      refine s_on (S' := fun u => St H u (obj g_v 38 [.int .u64 ((v.V.N : Nat) : Int), .int .i64 v.V.P, .int .i64 v.Floor, .slice A6 n7 c8] :: L)) (fun u hu => hu) hs51.drop ?_
      refine s_nil ?_
      refine n_then ?_
      refine c_seq ?_
      refine c_region ?_
      refine st (v := .slice (some ⟨g27, 0, none⟩) (s.length + 1) cap28) (x_move (.tmp rfl rfl)) ?_
      refine st (v := .int .i64 ((i : Nat) : Int)) (x_move (.tmp rfl rfl)) ?_
      refine st (v := .slice (cutA (some ⟨g27, 0, none⟩) cap28 i kState.sz) ((s.length + 1) - i) (cap28 - i)) (sl_l (d := kState) Try.underlying22 inf38 (a := ((i : Nat) : Int)) (.tmp rfl rfl) (.tmp rfl rfl) (by omega) (by omega) (by omega)) ?_
      refine st (v := .slice (some ⟨g_v, 0, none⟩) 1 1) (x_move (.tmp rfl rfl)) ?_
      have hx55 : ((splice (c_s ++ junk44) ((i + 1) * 4) (c_s.drop (i * 4)))).length = (s.length + 1) * 4 := by rw [splice_length (by rw [hx52, hdl]; omega), hx52]
      refine st_m (m_copyRow (news := ([.int .u64 ((v.V.N : Nat) : Int), .int .i64 v.V.P, .int .i64 v.Floor, .slice A6 n7 c8] : List Value)) (k := 1) (o := i * 4) Try.underlying22 inf38 hs51 rfl (.tmp rfl (congrArg (fun A => Value.slice A ((s.length + 1) - i) (cap28 - i)) (cutA_some (size := 4) (by omega)))) (.tmp rfl rfl) (by simp only [Nat.min_def]; split <;> omega) (hs51.at_ 1 rfl 0 rfl) hyl (by rw [hx55]; omega) (by simp [Value.oneCell'])) ?_
      rintro _ w53 ⟨rfl, hs54⟩
      refine c_nil ?_
      refine n_then ?_
      refine c_seq ?_
      refine c_region ?_
      refine st (v := .slice (some ⟨g27, 0, none⟩) (s.length + 1) cap28) (x_move (.tmp rfl rfl)) ?_
      refine st (v := .slice (some ⟨g27, 0, none⟩) (s.length + 1) cap28) (x_assign (.tmp rfl rfl)) ?_
      refine c_nil ?_
      refine n_then ?_
      refine c_ret ?_
      refine r_then ?_
      refine leave_ret (res_one (v := .slice (some ⟨g27, 0, none⟩) (s.length + 1) cap28) rfl (.mk rfl rfl)) ?_
      have hce : (splice (splice (c_s ++ junk44) ((i + 1) * 4) (c_s.drop (i * 4))) (i * 4) ([.int .u64 ((v.V.N : Nat) : Int), .int .i64 v.V.P, .int .i64 v.Floor, .slice A6 n7 c8] : List Value)) = (c_s.take (i * 4) ++ ([.int .u64 ((v.V.N : Nat) : Int), .int .i64 v.V.P, .int .i64 v.Floor, .slice A6 n7 c8] : List Value) ++ c_s.drop (i * 4)) := ins_shift hcl rfl (by simpa using hj45) (by omega)
      have hrw := rows_insert (i := i) hk_s (show kState.rep H v ([.int .u64 ((v.V.N : Nat) : Int), .int .i64 v.V.P, .int .i64 v.Floor, .slice A6 n7 c8] : List Value) from ⟨A6, n7, c8, rfl, b1, ⟨b2, b3⟩, ⟨b4, b5⟩, hl9⟩) (by omega)
      have hlen9 : (s.take i ++ [v] ++ s.drop i).length = s.length + 1 := by simp; omega
      have hs9 := (hs54.pick 1 rfl rfl).drop
      rw [hce] at hs9
      rw [← hlen9] at hs9
      have ok9 : RowOk kState.sz (.slice (some ⟨g27, 0, none⟩) (s.take i ++ [v] ++ s.drop i).length cap28) (s.take i ++ [v] ++ s.drop i).length (c_s.take (i * 4) ++ ([.int .u64 ((v.V.N : Nat) : Int), .int .i64 v.V.P, .int .i64 v.Floor, .slice A6 n7 c8] : List Value) ++ c_s.drop (i * 4)) := ⟨hrw.1, by rw [hlen9]; have := ok46.2.1; omega, .inr ⟨_, _, rfl, by rw [hlen9]; omega⟩⟩
      have hv9 : ((.slice (some ⟨g27, 0, none⟩) (s.length + 1) cap28) : Value) = .slice (some ⟨g27, 0, none⟩) (s.take i ++ [v] ++ s.drop i).length cap28 := by rw [hlen9]
      rw [hv9]
      exact ⟨_, _, rfl, ok9, hrw, hs9⟩

set_option maxHeartbeats 8000000 in
theorem index_row {H : Hp} {w : World} {L : List Res} {v_l : Value} {c_l : List Value} {l : (List GState)} (hs : St H w (row 38 4 v_l l.length c_l :: L)) (ok_l : RowOk kState.sz v_l l.length c_l) (hk_l : kState.toKn.rows H l c_l) {f_p : Nat} {cap_p : Array Value} (p : GState → Bool) (cb_p : Cb Try.prog f_p) (h_p : ∀ {w : World} {L : List Res} (hs : St H w L) (x0_ : GState) {k_x0_ : List Value} (h_x0_ : kState.rep H x0_ k_x0_), Calls Try.prog f_p (#[.agg k_x0_.toArray] ++ cap_p) w (fun e w' => e = .returned (.bool (p x0_)) ∧ St H w' L)) : Calls Try.prog 23 #[v_l, .func (.func f_p) #[] cap_p] w (fun e w' => e = .returned (.int .i64 (idxP p l)) ∧ St H w' (row 38 4 v_l l.length c_l :: L)) := by
  have : l.length ≤ 9223372036854775807 := ok_l.2.1
  refine enter (args := [v_l, .func (.func f_p) #[] cap_p]) (N := 19) Try.func23 rfl rfl rfl ?_
  refine c_seq ?_
  refine c_region ?_
  refine st (v := .int .i64 0) (x_assign .const) ?_
  refine c_nil ?_
  refine n_then ?_
  refine c_seq ?_
  refine c_seq ?_
  refine c_region ?_
  refine st (v := v_l) (x_move (.tmp rfl rfl)) ?_
  obtain ⟨A1, c2, hv3, hc4⟩ := ok_l.slice
  refine st (v := .int .i64 ((l.length : Nat) : Int)) (x_len (n := l.length) Try.underlying22 (.tmp rfl hv3)) ?_
  refine st (v := .int .i64 0) (x_move .const) ?_
  refine c_nil ?_
  refine n_then ?_
  refine c_block ?_
  refine c_loop (fun ρ w mm => ∃ (i : Nat), ρ 0 = v_l ∧ ρ 1 = .func (.func f_p) #[] cap_p ∧ ρ 7 = .int .i64 ((l.length : Nat) : Int) ∧ ρ 8 = .int .i64 ((i : Nat) : Int) ∧ (i ≤ l.length) ∧ (∀ (j : Nat) (y : GState), j < i → l[j]? = some y → p y = false) ∧ St H w (row 38 4 v_l l.length c_l :: L) ∧ mm = l.length - i) _ ⟨0, rfl, rfl, rfl, rfl, (by omega), (fun j y h _ => absurd h (Nat.not_lt_zero _)), hs, rfl⟩ ?_
  rintro ρ w mm ⟨i, hρ6, hρ7, hρ8, hρ9, hi, ha, hs10, rfl⟩
  refine c_seq ?_
  refine c_region ?_
  refine st (v := .bool (decide ((((i : Nat) : Int) : Int) < ((l.length : Nat) : Int)))) (x_lss (k := .i64) (a := ((i : Nat) : Int)) (b := ((l.length : Nat) : Int)) (.tmp rfl hρ9) (.tmp rfl hρ8)) ?_
  refine c_nil ?_
  refine n_then ?_
  refine c_seq ?_
  rcases Bool.eq_false_or_eq_true (decide ((((i : Nat) : Int) : Int) < ((l.length : Nat) : Int))) with hc11 | hc11
  · have hp11 : (((i : Nat) : Int) : Int) < ((l.length : Nat) : Int) := of_decide_eq_true hc11
    refine c_cond_t (t := true) (.tmp rfl (congrArg Value.bool hc11)) rfl ?_
    refine c_skip ?_
    refine n_then ?_
    refine c_seq ?_
    refine c_block ?_
    refine c_seq ?_
    refine c_region ?_
    refine st (v := .int .i64 ((i : Nat) : Int)) (x_move (.tmp rfl hρ9)) ?_
    refine st (v := .int .i64 ((i : Nat) : Int)) (x_assign (.tmp rfl rfl)) ?_
    refine c_nil ?_
    refine n_then ?_
    refine c_seq ?_
    refine c_region ?_
    refine st (v := .func (.func f_p) #[] cap_p) (x_move (.tmp rfl hρ7)) ?_
    refine st (v := v_l) (x_move (.tmp rfl hρ6)) ?_
    refine st (v := .int .i64 ((i : Nat) : Int)) (x_move (.tmp rfl rfl)) ?_
    obtain ⟨g12, c13, hv14⟩ := ok_l.pos (by omega)
    obtain ⟨e15, cs16, hx17, hr18, hsub19⟩ := Kn.rows_get (i := i) hk_l (by omega)
    obtain ⟨A25, n26, c27, rfl, b20, ⟨b21, b22⟩, ⟨b23, b24⟩, hl28⟩ := hr18
    have := hl28.len; have : n26 * 32 ≤ 140737488351232 := hl28.bnd; have := hl28.le
    refine st (v := .pointer (some ⟨g12, (i * 4), none⟩)) (ixo22 (.tmp rfl hv14) rfl (i := ((i : Nat) : Int)) (.tmp rfl rfl) (by omega) (by omega) (by omega)) ?_
    refine st (v := .agg #[.int .u64 ((e15.V.N : Nat) : Int), .int .i64 e15.V.P, .int .i64 e15.Floor, .slice A25 n26 c27]) (ld38 (cs := [.int .u64 ((e15.V.N : Nat) : Int), .int .i64 e15.V.P, .int .i64 e15.Floor, .slice A25 n26 c27]) (.tmp rfl rfl) ((hs10.rowAt 0 rfl hv14 (i * 4) hsub19).sub 0 rfl) rfl) ?_
    have hr29 : kState.rep H e15 [.int .u64 ((e15.V.N : Nat) : Int), .int .i64 e15.V.P, .int .i64 e15.Floor, .slice A25 n26 c27] := ⟨A25, n26, c27, rfl, b20, ⟨b21, b22⟩, ⟨b23, b24⟩, hl28⟩
    refine st_cc cb_p (.tmp rfl rfl) (evs1 (.tmp rfl rfl)) rfl (h_p hs10 e15 hr29) ?_
    rintro e w30 ⟨rfl, hs31⟩
    refine ⟨_, rfl, ?_⟩
    refine c_nil ?_
    refine n_then ?_
    rcases Bool.eq_false_or_eq_true (p e15) with hc32 | hc32
    · refine c_cond_t (t := true) (.tmp rfl (congrArg Value.bool hc32)) rfl ?_
      refine c_seq ?_
      refine c_region ?_
      refine st (v := .int .i64 ((i : Nat) : Int)) (x_move (.tmp rfl rfl)) ?_
      refine st (v := .int .i64 ((i : Nat) : Int)) (x_assign (.tmp rfl rfl)) ?_
      refine c_nil ?_
      refine n_then ?_
      refine c_ret ?_
      refine r_block ?_
      refine r_then ?_
      refine r_then ?_
      refine r_block ?_
      refine r_then ?_
      refine leave_ret (res_one (v := .int .i64 ((i : Nat) : Int)) rfl (.mk rfl rfl)) ?_
      have hans33 : idxP p l = ((i : Nat) : Int) := idxP_at p l i _ hx17 hc32 ha
      rw [hans33]
      exact ⟨rfl, hs31⟩
    · refine c_cond_f (t := false) (.tmp rfl (congrArg Value.bool hc32)) rfl ?_
      refine c_skip ?_
      refine n_block ?_
      refine n_then ?_
      refine c_region ?_
      refine st (v := .int .i64 (((i + 1) : Nat) : Int)) (x_add (k := .i64) (a := ((i : Nat) : Int)) (b := 1) (.tmp rfl hρ9) .const ((w64 (by omega) (by omega)).trans (by omega))) ?_
      refine st (v := .int .i64 (((i + 1) : Nat) : Int)) (x_move (.tmp rfl rfl)) ?_
      refine c_nil ?_
      refine n_then ⟨_, _, rfl, ?_, (i + 1), hρ6, hρ7, hρ8, rfl, (by omega), (before_next ha hx17 hc32), hs31, rfl⟩
      omega
  · have hp11 : ¬ ((((i : Nat) : Int) : Int) < ((l.length : Nat) : Int)) := of_decide_eq_false hc11
    refine c_cond_f (t := false) (.tmp rfl (congrArg Value.bool hc11)) rfl ?_
    refine c_exit ?_
    refine x_then ?_
    refine x_then ?_
    refine x_here ?_
    refine n_then ?_
    refine c_seq ?_
    refine c_region ?_
    refine st (v := .int .i64 (-1)) (x_assign .const) ?_
    refine c_nil ?_
    refine n_then ?_
    refine c_ret ?_
    refine leave_ret (res_one (v := .int .i64 (-1)) rfl (.mk rfl rfl)) ?_
    have hans34 : idxP p l = -1 := idxP_none p l (fun j y hy => ha j y (by have := (List.getElem?_eq_some_iff.1 hy).1; omega) hy)
    rw [hans34]
    exact ⟨rfl, hs10⟩

set_option maxHeartbeats 8000000 in
theorem binary_state {H : Hp} {w : World} {L : List Res} {v_x : Value} {c_x : List Value} {x : (List GState)} (hs : St H w (row 38 4 v_x x.length c_x :: L)) (ok_x : RowOk kState.sz v_x x.length c_x) (hk_x : kState.toKn.rows H x c_x) (t : GViewID) {k_t : List Value} (h_t : kViewID.rep H t k_t) {f_f : Nat} {cap_f : Array Value} (f : GState → GViewID → Int) (cb_f : Cb Try.prog f_f) (h_f : ∀ {w : World} {L : List Res} (hs : St H w L) (x0_ : GState) {k_x0_ : List Value} (h_x0_ : kState.rep H x0_ k_x0_) (x1_ : GViewID) {k_x1_ : List Value} (h_x1_ : kViewID.rep H x1_ k_x1_), Calls Try.prog f_f (#[.agg k_x0_.toArray, .agg k_x1_.toArray] ++ cap_f) w (fun e w' => e = .returned (.int .i64 (f x0_ x1_)) ∧ St H w' L)) (hn : x.length ≤ 4611686018427387903) : Calls Try.prog 26 #[v_x, .agg k_t.toArray, .func (.func f_f) #[] cap_f] w (fun e w' => e = .returned (.tuple #[.int .i64 ((bsIx f x t : Nat) : Int), .bool (bsOk f x t)]) ∧ St H w' (row 38 4 v_x x.length c_x :: L)) := by
  have : x.length ≤ 9223372036854775807 := ok_x.2.1
  obtain ⟨rfl, b1, ⟨b2, b3⟩⟩ := h_t
  refine enter (args := [v_x, .agg #[.int .u64 ((t.N : Nat) : Int), .int .i64 t.P], .func (.func f_f) #[] cap_f]) (N := 49) Try.func26 rfl rfl rfl ?_
  refine c_seq ?_
  refine c_region ?_
  refine st_m (m_box (cs := [.int .u64 ((t.N : Nat) : Int), .int .i64 t.P]) hs (v := .agg #[.int .u64 ((t.N : Nat) : Int), .int .i64 t.P]) (.tmp rfl rfl) rfl) ?_
  rintro _ w5 ⟨g4, rfl, hs7⟩
  refine st (v := .int .i64 0) (x_assign .const) ?_
  refine st (v := .bool false) (x_assign .const) ?_
  refine c_nil ?_
  refine n_then ?_
  refine c_seq ?_
  refine c_region ?_
  refine st (v := v_x) (x_move (.tmp rfl rfl)) ?_
  obtain ⟨A8, c9, hv10, hc11⟩ := ok_x.slice
  refine st (v := .int .i64 ((x.length : Nat) : Int)) (x_len (n := x.length) Try.underlying22 (.tmp rfl hv10)) ?_
  refine st (v := .int .i64 ((x.length : Nat) : Int)) (x_assign (.tmp rfl rfl)) ?_
  refine c_nil ?_
  refine n_then ?_
  refine c_seq ?_
  refine c_region ?_
  refine st (v := .int .i64 ((x.length : Nat) : Int)) (x_move (.tmp rfl rfl)) ?_
  refine st (v := .int .i64 0) (x_assign .const) ?_
  refine st (v := .int .i64 ((x.length : Nat) : Int)) (x_assign (.tmp rfl rfl)) ?_
  refine c_nil ?_
  refine n_then ?_
  refine c_seq ?_
  refine c_block ?_
  refine c_loop (fun ρ w mm => ∃ (i : Nat) (j : Nat), ρ 0 = v_x ∧ ρ 2 = .func (.func f_f) #[] cap_f ∧ ρ 4 = .pointer (some ⟨g4, 0, none⟩) ∧ ρ 8 = .int .i64 ((x.length : Nat) : Int) ∧ ρ 9 = .int .i64 ((i : Nat) : Int) ∧ ρ 10 = .int .i64 ((j : Nat) : Int) ∧ (i ≤ j) ∧ (j ≤ x.length) ∧ (bsGo (lessAt f x t) i j = bsGo (lessAt f x t) 0 x.length) ∧ St H w (obj g4 25 [.int .u64 ((t.N : Nat) : Int), .int .i64 t.P] :: row 38 4 v_x x.length c_x :: L) ∧ mm = j - i) _ ⟨0, x.length, rfl, rfl, rfl, rfl, rfl, rfl, (by omega), (by omega), rfl, ((hs7.pick 1 rfl rfl).pick 1 rfl rfl), rfl⟩ ?_
  rintro ρ w mm ⟨i, j, hρ13, hρ14, hρ15, hρ16, hρ17, hρ18, hij, hj, hgo, hs19, rfl⟩
  refine c_seq ?_
  refine c_seq ?_
  refine c_region ?_
  refine st (v := .int .i64 ((i : Nat) : Int)) (x_move (.tmp rfl hρ17)) ?_
  refine st (v := .int .i64 ((j : Nat) : Int)) (x_move (.tmp rfl hρ18)) ?_
  refine st (v := .bool (decide ((((i : Nat) : Int) : Int) < ((j : Nat) : Int)))) (x_lss (k := .i64) (a := ((i : Nat) : Int)) (b := ((j : Nat) : Int)) (.tmp rfl rfl) (.tmp rfl rfl)) ?_
  refine c_nil ?_
  refine n_then ?_
  rcases Bool.eq_false_or_eq_true (decide ((((i : Nat) : Int) : Int) < ((j : Nat) : Int))) with hc20 | hc20
  · have hp20 : (((i : Nat) : Int) : Int) < ((j : Nat) : Int) := of_decide_eq_true hc20
    refine c_cond_t (t := true) (.tmp rfl (congrArg Value.bool hc20)) rfl ?_
    refine c_skip ?_
    refine n_then ?_
    refine c_block ?_
    refine c_seq ?_
    refine c_region ?_
    refine st (v := .int .i64 ((i : Nat) : Int)) (x_move (.tmp rfl hρ17)) ?_
    refine st (v := .int .i64 ((j : Nat) : Int)) (x_move (.tmp rfl hρ18)) ?_
    refine st (v := .int .i64 (((i + j) : Nat) : Int)) (x_add (k := .i64) (a := ((i : Nat) : Int)) (b := ((j : Nat) : Int)) (.tmp rfl rfl) (.tmp rfl rfl) ((w64 (by omega) (by omega)).trans (by omega))) ?_
    have hb21 : (i + j) < 18446744073709551616 := by omega
    refine st (v := .int .u64 (((i + j) : Nat) : Int)) (x_conv (k := .i64) (a := (((i + j) : Nat) : Int)) Try.underlying3 Try.underlying59 (.tmp rfl rfl) (wU rfl rfl hb21)) ?_
    have hb22 : ((i + j) / 2 ^ 1) < 18446744073709551616 := Nat.lt_of_le_of_lt (Nat.div_le_self _ _) hb21
    refine st (v := .int .u64 ((((i + j) / 2 ^ 1) : Nat) : Int)) (x_shr (k := .u64) (m := (i + j)) (b := 1) rfl (.tmp rfl rfl) .const (by omega) (show _ < 2 ^ 64 from hb21)) ?_
    refine st (v := .int .i64 ((((i + j) / 2 ^ 1) : Nat) : Int)) (x_conv (k := .u64) (a := ((((i + j) / 2 ^ 1) : Nat) : Int)) Try.underlying59 Try.underlying3 (.tmp rfl rfl) (w64 (by omega) (by omega))) ?_
    refine st (v := .int .i64 ((((i + j) / 2 ^ 1) : Nat) : Int)) (x_assign (.tmp rfl rfl)) ?_
    refine c_nil ?_
    refine n_then ?_
    refine c_seq ?_
    refine s_region (L := obj g4 25 [.int .u64 ((t.N : Nat) : Int), .int .i64 t.P] :: row 38 4 v_x x.length c_x :: L) (L' := obj g4 25 [.int .u64 ((t.N : Nat) : Int), .int .i64 t.P] :: row 38 4 v_x x.length c_x :: L) none [(0, true), (1, true), (2, true), (3, true), (4, true), (5, true), (6, false), (7, true)] mixed hs19 (fun u hu => hu) (by kernel_rfl) ?_
    intro w23 hs24
    refine s_st (k := 0) (v := .func (.func f_f) #[] cap_f) rfl (fun w hs => (x_move (.tmp rfl hρ14))) ?_
    refine s_st (k := 1) (v := v_x) rfl (fun w hs => (x_move (.tmp rfl hρ13))) ?_
    refine s_st (k := 2) (v := .int .i64 ((((i + j) / 2 ^ 1) : Nat) : Int)) rfl (fun w hs => (x_move (.tmp rfl rfl))) ?_
    obtain ⟨g25, c26, hv27⟩ := ok_x.pos (by omega)
    obtain ⟨e28, cs29, hx30, hr31, hsub32⟩ := Kn.rows_get (i := ((i + j) / 2 ^ 1)) hk_x (by omega)
    obtain ⟨A38, n39, c40, rfl, b33, ⟨b34, b35⟩, ⟨b36, b37⟩, hl41⟩ := hr31
    have := hl41.len; have : n39 * 32 ≤ 140737488351232 := hl41.bnd; have := hl41.le
    refine s_st (k := 3) (v := .pointer (some ⟨g25, (((i + j) / 2 ^ 1) * 4), none⟩)) rfl (fun w hs => (ixo22 (.tmp rfl hv27) rfl (i := ((((i + j) / 2 ^ 1) : Nat) : Int)) (.tmp rfl rfl) (by omega) (by omega) (by omega))) ?_
    refine s_st (k := 4) (v := .agg #[.int .u64 ((e28.V.N : Nat) : Int), .int .i64 e28.V.P, .int .i64 e28.Floor, .slice A38 n39 c40]) rfl (fun w hs => (ld38 (cs := [.int .u64 ((e28.V.N : Nat) : Int), .int .i64 e28.V.P, .int .i64 e28.Floor, .slice A38 n39 c40]) (.tmp rfl rfl) ((hs.rowAt 1 rfl hv27 (((i + j) / 2 ^ 1) * 4) hsub32).sub 0 rfl) rfl)) ?_
    refine s_st (k := 5) (v := .agg #[.int .u64 ((t.N : Nat) : Int), .int .i64 t.P]) rfl (fun w hs => (ld25 (cs := [.int .u64 ((t.N : Nat) : Int), .int .i64 t.P]) (.tmp rfl hρ15) (hs.at_ 0 rfl (0) rfl) rfl)) ?_
    refine s_eff (k := 6) rfl ?_
    have hr42 : kState.rep H e28 [.int .u64 ((e28.V.N : Nat) : Int), .int .i64 e28.V.P, .int .i64 e28.Floor, .slice A38 n39 c40] := ⟨A38, n39, c40, rfl, b33, ⟨b34, b35⟩, ⟨b36, b37⟩, hl41⟩
    have hr43 : kViewID.rep H t [.int .u64 ((t.N : Nat) : Int), .int .i64 t.P] := ⟨rfl, b1, ⟨b2, b3⟩⟩
    refine st_cc cb_f (.tmp rfl rfl) (evs2 (.tmp rfl rfl) (.tmp rfl rfl)) rfl (h_f hs24 e28 hr42 t hr43) ?_
    rintro e w44 ⟨rfl, hs45⟩
    refine ⟨_, rfl, ?_⟩
    refine s_on (S' := fun u => St H u (obj g4 25 [.int .u64 ((t.N : Nat) : Int), .int .i64 t.P] :: row 38 4 v_x x.length c_x :: L)) (fun u hu => hu) hs45 ?_
    refine s_st (k := 7) (v := .bool (decide (((f e28 t) : Int) < 0))) rfl (fun w hs => (x_lss (k := .i64) (a := (f e28 t)) (b := 0) (.tmp rfl rfl) .const)) ?_
    refine s_nil ?_
    refine n_then ?_
    rcases Bool.eq_false_or_eq_true (decide (((f e28 t) : Int) < 0)) with hc46 | hc46
    · have hp46 : ((f e28 t) : Int) < 0 := of_decide_eq_true hc46
      refine c_cond_t (t := true) (.tmp rfl (congrArg Value.bool hc46)) rfl ?_
      refine c_region ?_
      refine st (v := .int .i64 ((((i + j) / 2 ^ 1) : Nat) : Int)) (x_move (.tmp rfl rfl)) ?_
      refine st (v := .int .i64 (((((i + j) / 2 ^ 1) + 1) : Nat) : Int)) (x_add (k := .i64) (a := ((((i + j) / 2 ^ 1) : Nat) : Int)) (b := 1) (.tmp rfl rfl) .const ((w64 (by omega) (by omega)).trans (by omega))) ?_
      refine st (v := .int .i64 (((((i + j) / 2 ^ 1) + 1) : Nat) : Int)) (x_assign (.tmp rfl rfl)) ?_
      refine c_nil ?_
      refine n_block ?_
      refine n_then ⟨_, _, rfl, ?_, (((i + j) / 2 ^ 1) + 1), j, hρ13, hρ14, hρ15, hρ16, rfl, hρ18, (by omega), (by omega), ((bsGo_yes (by omega) (by rw [lessAt_some hx30]; exact hc46)).trans hgo), ((hs45.pick 1 rfl rfl).pick 1 rfl rfl), rfl⟩
      omega
    · have hp46 : ¬ (((f e28 t) : Int) < 0) := of_decide_eq_false hc46
      refine c_cond_f (t := false) (.tmp rfl (congrArg Value.bool hc46)) rfl ?_
      refine c_region ?_
      refine st (v := .int .i64 ((((i + j) / 2 ^ 1) : Nat) : Int)) (x_move (.tmp rfl rfl)) ?_
      refine st (v := .int .i64 ((((i + j) / 2 ^ 1) : Nat) : Int)) (x_assign (.tmp rfl rfl)) ?_
      refine c_nil ?_
      refine n_block ?_
      refine n_then ⟨_, _, rfl, ?_, i, ((i + j) / 2 ^ 1), hρ13, hρ14, hρ15, hρ16, hρ17, rfl, (by omega), (by omega), ((bsGo_no (by omega) (by rw [lessAt_some hx30]; exact hc46)).trans hgo), ((hs45.pick 1 rfl rfl).pick 1 rfl rfl), rfl⟩
      omega
  · have hp20 : ¬ ((((i : Nat) : Int) : Int) < ((j : Nat) : Int)) := of_decide_eq_false hc20
    refine c_cond_f (t := false) (.tmp rfl (congrArg Value.bool hc20)) rfl ?_
    refine c_exit ?_
    refine x_then ?_
    refine x_then ?_
    refine x_here ?_
    refine n_then ?_
    refine c_seq ?_
    refine s_region (L := obj g4 25 [.int .u64 ((t.N : Nat) : Int), .int .i64 t.P] :: row 38 4 v_x x.length c_x :: L) (L' := obj g4 25 [.int .u64 ((t.N : Nat) : Int), .int .i64 t.P] :: row 38 4 v_x x.length c_x :: L) none [(0, true), (1, true), (2, true), (3, true), (4, true), (5, true), (6, true), (7, true), (8, true), (9, true), (10, true), (11, false), (12, true), (13, true), (14, true), (15, true)] mixed hs19 (fun u hu => hu) (by kernel_rfl) ?_
    intro w47 hs48
    refine s_st (k := 0) (v := .int .i64 ((i : Nat) : Int)) rfl (fun w hs => (x_move (.tmp rfl hρ17))) ?_
    refine s_st (k := 1) (v := .int .i64 ((i : Nat) : Int)) rfl (fun w hs => (x_move (.tmp rfl hρ17))) ?_
    refine s_st (k := 2) (v := .int .i64 ((x.length : Nat) : Int)) rfl (fun w hs => (x_move (.tmp rfl hρ16))) ?_
    refine s_st (k := 3) (v := .bool (decide ((((i : Nat) : Int) : Int) < ((x.length : Nat) : Int)))) rfl (fun w hs => (x_lss (k := .i64) (a := ((i : Nat) : Int)) (b := ((x.length : Nat) : Int)) (.tmp rfl rfl) (.tmp rfl rfl))) ?_
    refine s_st (k := 4) (v := .bool (decide ((((i : Nat) : Int) : Int) < ((x.length : Nat) : Int)))) rfl (fun w hs => (x_move (.tmp rfl rfl))) ?_
    rcases Bool.eq_false_or_eq_true (decide ((((i : Nat) : Int) : Int) < ((x.length : Nat) : Int))) with hc49 | hc49
    · have hp49 : (((i : Nat) : Int) : Int) < ((x.length : Nat) : Int) := of_decide_eq_true hc49
      refine s_yes (k := 5) (v := .func (.func f_f) #[] cap_f) rfl (yl (dj := 39) (b := true) rfl rfl (congrArg Value.bool hc49)) (fun w hs => (x_move (.tmp rfl hρ14))) ?_
      refine s_yes (k := 6) (v := v_x) rfl (yl (dj := 39) (b := true) rfl rfl (congrArg Value.bool hc49)) (fun w hs => (x_move (.tmp rfl hρ13))) ?_
      refine s_yes (k := 7) (v := .int .i64 ((i : Nat) : Int)) rfl (yl (dj := 39) (b := true) rfl rfl (congrArg Value.bool hc49)) (fun w hs => (x_move (.tmp rfl hρ17))) ?_
      obtain ⟨g50, c51, hv52⟩ := ok_x.pos (by omega)
      obtain ⟨e53, cs54, hx55, hr56, hsub57⟩ := Kn.rows_get (i := i) hk_x (by omega)
      obtain ⟨A63, n64, c65, rfl, b58, ⟨b59, b60⟩, ⟨b61, b62⟩, hl66⟩ := hr56
      have := hl66.len; have : n64 * 32 ≤ 140737488351232 := hl66.bnd; have := hl66.le
      refine s_yes (k := 8) (v := .pointer (some ⟨g50, (i * 4), none⟩)) rfl (yl (dj := 39) (b := true) rfl rfl (congrArg Value.bool hc49)) (fun w hs => (ixo22 (.tmp rfl hv52) rfl (i := ((i : Nat) : Int)) (.tmp rfl rfl) (by omega) (by omega) (by omega))) ?_
      refine s_yes (k := 9) (v := .agg #[.int .u64 ((e53.V.N : Nat) : Int), .int .i64 e53.V.P, .int .i64 e53.Floor, .slice A63 n64 c65]) rfl (yl (dj := 39) (b := true) rfl rfl (congrArg Value.bool hc49)) (fun w hs => (ld38 (cs := [.int .u64 ((e53.V.N : Nat) : Int), .int .i64 e53.V.P, .int .i64 e53.Floor, .slice A63 n64 c65]) (.tmp rfl rfl) ((hs.rowAt 1 rfl hv52 (i * 4) hsub57).sub 0 rfl) rfl)) ?_
      refine s_yes (k := 10) (v := .agg #[.int .u64 ((t.N : Nat) : Int), .int .i64 t.P]) rfl (yl (dj := 39) (b := true) rfl rfl (congrArg Value.bool hc49)) (fun w hs => (ld25 (cs := [.int .u64 ((t.N : Nat) : Int), .int .i64 t.P]) (.tmp rfl hρ15) (hs.at_ 0 rfl (0) rfl) rfl)) ?_
      refine s_eff (k := 11) rfl ?_
      refine g_yes (yl (dj := 39) (b := true) rfl rfl (congrArg Value.bool hc49)) ?_
      have hr67 : kState.rep H e53 [.int .u64 ((e53.V.N : Nat) : Int), .int .i64 e53.V.P, .int .i64 e53.Floor, .slice A63 n64 c65] := ⟨A63, n64, c65, rfl, b58, ⟨b59, b60⟩, ⟨b61, b62⟩, hl66⟩
      have hr68 : kViewID.rep H t [.int .u64 ((t.N : Nat) : Int), .int .i64 t.P] := ⟨rfl, b1, ⟨b2, b3⟩⟩
      refine st_cc cb_f (.tmp rfl rfl) (evs2 (.tmp rfl rfl) (.tmp rfl rfl)) rfl (h_f hs48 e53 hr67 t hr68) ?_
      rintro e w69 ⟨rfl, hs70⟩
      refine ⟨_, rfl, ?_⟩
      refine s_on (S' := fun u => St H u (obj g4 25 [.int .u64 ((t.N : Nat) : Int), .int .i64 t.P] :: row 38 4 v_x x.length c_x :: L)) (fun u hu => hu) hs70 ?_
      refine s_yes (k := 12) (v := .bool (decide (((f e53 t) : Int) = 0))) rfl (yl (dj := 39) (b := true) rfl rfl (congrArg Value.bool hc49)) (fun w hs => (x_eql (k := .i64) (a := (f e53 t)) (b := 0) (.tmp rfl rfl) .const)) ?_
      refine s_st (k := 13) (v := .bool (decide (((f e53 t) : Int) = 0))) rfl (fun w hs => (x_pick_t (.tmp rfl (congrArg Value.bool hc49)) (.tmp rfl rfl))) ?_
      refine s_st (k := 14) (v := .int .i64 ((i : Nat) : Int)) rfl (fun w hs => (x_assign (.tmp rfl rfl))) ?_
      refine s_st (k := 15) (v := .bool (decide (((f e53 t) : Int) = 0))) rfl (fun w hs => (x_assign (.tmp rfl rfl))) ?_
      refine s_nil ?_
      refine n_then ?_
      refine c_ret ?_
      refine leave_ret (res_two (v := .int .i64 ((i : Nat) : Int)) (u := .bool (decide (((f e53 t) : Int) = 0))) rfl (.mk rfl rfl) (.mk rfl rfl)) ?_
      have hb : bsIx f x t = i := by unfold bsIx; rw [← hgo, bsGo_end (by omega)]
      have hok : bsOk f x t = (decide (((f e53 t) : Int) = 0)) := bsOk_some hb hx55
      rw [hok, hb]
      exact ⟨rfl, hs70.drop⟩
    · have hp49 : ¬ ((((i : Nat) : Int) : Int) < ((x.length : Nat) : Int)) := of_decide_eq_false hc49
      refine s_no (k := 5) rfl (yl (dj := 39) (b := false) rfl rfl (congrArg Value.bool hc49)) rfl ?_
      refine s_no (k := 6) rfl (yl (dj := 39) (b := false) rfl rfl (congrArg Value.bool hc49)) rfl ?_
      refine s_no (k := 7) rfl (yl (dj := 39) (b := false) rfl rfl (congrArg Value.bool hc49)) rfl ?_
      refine s_no (k := 8) rfl (yl (dj := 39) (b := false) rfl rfl (congrArg Value.bool hc49)) rfl ?_
      refine s_no (k := 9) rfl (yl (dj := 39) (b := false) rfl rfl (congrArg Value.bool hc49)) rfl ?_
      refine s_no (k := 10) rfl (yl (dj := 39) (b := false) rfl rfl (congrArg Value.bool hc49)) rfl ?_
      refine s_eff (k := 11) rfl ?_
      refine g_no (yl (dj := 39) (b := false) rfl rfl (congrArg Value.bool hc49)) rfl ?_
      refine s_on (S' := fun u => St H u (obj g4 25 [.int .u64 ((t.N : Nat) : Int), .int .i64 t.P] :: row 38 4 v_x x.length c_x :: L)) (fun u hu => hu) hs48 ?_
      refine s_no (k := 12) rfl (yl (dj := 39) (b := false) rfl rfl (congrArg Value.bool hc49)) rfl ?_
      refine s_st (k := 13) (v := .bool false) rfl (fun w hs => (x_pick_f (.tmp rfl (congrArg Value.bool hc49)) .const)) ?_
      refine s_st (k := 14) (v := .int .i64 ((i : Nat) : Int)) rfl (fun w hs => (x_assign (.tmp rfl rfl))) ?_
      refine s_st (k := 15) (v := .bool false) rfl (fun w hs => (x_assign (.tmp rfl rfl))) ?_
      refine s_nil ?_
      refine n_then ?_
      refine c_ret ?_
      refine leave_ret (res_two (v := .int .i64 ((i : Nat) : Int)) (u := .bool false) rfl (.mk rfl rfl) (.mk rfl rfl)) ?_
      have hb : bsIx f x t = i := by unfold bsIx; rw [← hgo, bsGo_end (by omega)]
      have hok := bsOk_none hb (by omega)
      rw [hok, hb]
      exact ⟨rfl, hs48.drop⟩

set_option maxHeartbeats 8000000 in
theorem delete_state {H : Hp} {w : World} {L : List Res} {v_s : Value} {c_s : List Value} {s : (List GState)} (hs : St H w (row 38 4 v_s s.length c_s :: L)) (ok_s : RowOk kState.sz v_s s.length c_s) (hk_s : kState.toKn.rows H s c_s) {f_p : Nat} {cap_p : Array Value} (p : GState → Bool) (cb_p : Cb Try.prog f_p) (h_p : ∀ {w : World} {L : List Res} (hs : St H w L) (x0_ : GState) {k_x0_ : List Value} (h_x0_ : kState.rep H x0_ k_x0_), Calls Try.prog f_p (#[.agg k_x0_.toArray] ++ cap_p) w (fun e w' => e = .returned (.bool (p x0_)) ∧ St H w' L)) : Calls Try.prog 30 #[v_s, .func (.func f_p) #[] cap_p] w (fun e w' => ∃ (v0 : Value) (cs0 : List Value), e = .returned (v0) ∧ RowOk kState.sz v0 (s.filter (fun x => !p x)).length cs0 ∧ kState.toKn.rows H (s.filter (fun x => !p x)) cs0 ∧ St H w' (row 38 kState.sz v0 (s.filter (fun x => !p x)).length cs0 :: L)) := by
  have : s.length ≤ 9223372036854775807 := ok_s.2.1
  refine enter (args := [v_s, .func (.func f_p) #[] cap_p]) (N := 42) Try.func30 rfl rfl rfl ?_
  refine c_seq ?_
  refine c_region ?_
  refine st (v := .slice none 0 0) (x_assign .const) ?_
  refine c_nil ?_
  refine n_then ?_
  refine c_seq ?_
  refine c_region ?_
  refine st (v := v_s) (x_move (.tmp rfl rfl)) ?_
  refine st (v := .func (.func f_p) #[] cap_p) (x_move (.tmp rfl rfl)) ?_
  refine st_c cb23 .func (evs2 (.tmp rfl rfl) (.tmp rfl rfl)) (index_row hs ok_s hk_s p cb_p h_p ) ?_
  rintro e w1 ⟨rfl, hs2⟩
  refine ⟨_, rfl, ?_⟩
  refine st (v := .int .i64 (idxP p s)) (x_assign (.tmp rfl rfl)) ?_
  refine c_nil ?_
  refine n_then ?_
  refine c_seq ?_
  refine c_seq ?_
  refine c_region ?_
  refine st (v := .int .i64 (idxP p s)) (x_move (.tmp rfl rfl)) ?_
  refine st (v := .bool (decide (((idxP p s) : Int) = (-1)))) (x_eql (k := .i64) (a := (idxP p s)) (b := (-1)) (.tmp rfl rfl) .const) ?_
  refine c_nil ?_
  refine n_then ?_
  rcases Bool.eq_false_or_eq_true (decide (((idxP p s) : Int) = (-1))) with hc3 | hc3
  · have hp3 : ((idxP p s) : Int) = (-1) := of_decide_eq_true hc3
    refine c_cond_t (t := true) (.tmp rfl (congrArg Value.bool hc3)) rfl ?_
    refine c_seq ?_
    refine c_region ?_
    refine st (v := v_s) (x_move (.tmp rfl rfl)) ?_
    refine st (v := v_s) (x_assign (.tmp rfl rfl)) ?_
    refine c_nil ?_
    refine n_then ?_
    refine c_ret ?_
    refine r_then ?_
    refine leave_ret (res_one (v := v_s) rfl (.mk rfl rfl)) ?_
    have hans := del_none (p := p) (s := s) (by omega)
    rw [hans]
    exact ⟨v_s, c_s, rfl, ok_s, hk_s, hs2⟩
  · have hp3 : ¬ (((idxP p s) : Int) = (-1)) := of_decide_eq_false hc3
    refine c_cond_f (t := false) (.tmp rfl (congrArg Value.bool hc3)) rfl ?_
    refine c_skip ?_
    refine n_then ?_
    refine c_seq ?_
    refine c_seq ?_
    refine c_region ?_
    obtain ⟨i0, hi0⟩ : ∃ i0 : Nat, idxP p s = (i0 : Int) := by have := idxP_ge p s; exact ⟨(idxP p s).toNat, by omega⟩
    have hd := del_start (p := p) (s := s) (by omega)
    rw [hi0, Int.toNat_natCast] at hd
    have hd2 := hd.2
    have hmx := ok_s.2.1
    refine st (v := .int .i64 ((i0 : Nat) : Int)) (x_move (.tmp rfl (congrArg (Value.int .i64) hi0))) ?_
    refine st (v := .int .i64 (((i0 + 1) : Nat) : Int)) (x_add (k := .i64) (a := ((i0 : Nat) : Int)) (b := 1) (.tmp rfl rfl) .const ((w64 (by omega) (by omega)).trans (by omega))) ?_
    refine st (v := .int .i64 (((i0 + 1) : Nat) : Int)) (x_assign (.tmp rfl rfl)) ?_
    refine c_nil ?_
    refine n_then ?_
    refine c_block ?_
    refine c_loop (fun ρ w mm => ∃ (ys : List GState) (v_ys : Value) (c_ys : List Value) (i : Nat) (j : Nat), ρ 0 = v_ys ∧ ρ 1 = .func (.func f_p) #[] cap_p ∧ ρ 5 = .int .i64 ((i : Nat) : Int) ∧ ρ 6 = .int .i64 ((j : Nat) : Int) ∧ (RowOk kState.sz v_ys ys.length c_ys) ∧ (kState.toKn.rows H ys c_ys) ∧ (i < j) ∧ (j ≤ s.length) ∧ (ys.length = s.length) ∧ (ys.take i = (s.take j).filter (fun x => !p x)) ∧ (ys.drop j = s.drop j) ∧ St H w (row 38 4 v_ys ys.length c_ys :: L) ∧ mm = s.length - j) _ ⟨s, v_s, c_s, i0, (i0 + 1), rfl, rfl, (congrArg (Value.int .i64) hi0), rfl, ok_s, hk_s, (by omega), (by omega), rfl, hd.1, rfl, hs2, rfl⟩ ?_
    rintro ρ w mm ⟨ys, v_ys, c_ys, i, j, hρ5, hρ6, hρ7, hρ8, ok_ys, hk_ys, hij, hj, hl, hA, hB, hs9, rfl⟩
    refine c_seq ?_
    refine c_seq ?_
    refine c_region ?_
    refine st (v := .int .i64 ((j : Nat) : Int)) (x_move (.tmp rfl hρ8)) ?_
    refine st (v := v_ys) (x_move (.tmp rfl hρ5)) ?_
    obtain ⟨A10, c11, hv12, hc13⟩ := ok_ys.slice
    refine st (v := .int .i64 ((ys.length : Nat) : Int)) (x_len (n := ys.length) Try.underlying22 (.tmp rfl hv12)) ?_
    refine st (v := .bool (decide ((((j : Nat) : Int) : Int) < ((ys.length : Nat) : Int)))) (x_lss (k := .i64) (a := ((j : Nat) : Int)) (b := ((ys.length : Nat) : Int)) (.tmp rfl rfl) (.tmp rfl rfl)) ?_
    refine c_nil ?_
    refine n_then ?_
    rcases Bool.eq_false_or_eq_true (decide ((((j : Nat) : Int) : Int) < ((ys.length : Nat) : Int))) with hc14 | hc14
    · have hp14 : (((j : Nat) : Int) : Int) < ((ys.length : Nat) : Int) := of_decide_eq_true hc14
      refine c_cond_t (t := true) (.tmp rfl (congrArg Value.bool hc14)) rfl ?_
      refine c_skip ?_
      refine n_then ?_
      refine c_seq ?_
      refine c_block ?_
      refine c_seq ?_
      refine c_region ?_
      refine st (v := v_ys) (x_move (.tmp rfl hρ5)) ?_
      refine st (v := .int .i64 ((j : Nat) : Int)) (x_move (.tmp rfl hρ8)) ?_
      obtain ⟨g15, c16, hv17⟩ := ok_ys.pos (by omega)
      obtain ⟨e18, cs19, hx20, hr21, hsub22⟩ := Kn.rows_get (i := j) hk_ys (by omega)
      obtain ⟨A28, n29, c30, rfl, b23, ⟨b24, b25⟩, ⟨b26, b27⟩, hl31⟩ := hr21
      have := hl31.len; have : n29 * 32 ≤ 140737488351232 := hl31.bnd; have := hl31.le
      refine st (v := .pointer (some ⟨g15, (j * 4), none⟩)) (ixo22 (.tmp rfl hv17) rfl (i := ((j : Nat) : Int)) (.tmp rfl rfl) (by omega) (by omega) (by omega)) ?_
      refine st (v := .agg #[.int .u64 ((e18.V.N : Nat) : Int), .int .i64 e18.V.P, .int .i64 e18.Floor, .slice A28 n29 c30]) (ld38 (cs := [.int .u64 ((e18.V.N : Nat) : Int), .int .i64 e18.V.P, .int .i64 e18.Floor, .slice A28 n29 c30]) (.tmp rfl rfl) ((hs9.rowAt 0 rfl hv17 (j * 4) hsub22).sub 0 rfl) rfl) ?_
      refine st_m (al38 (cs := [.int .u64 0, .int .i64 0, .int .i64 0, .slice none 0 0]) hs9 rfl) ?_
      rintro _ w33 ⟨g32, rfl, hs35⟩
      refine st_m0 (sto38 (cs' := [.int .u64 ((e18.V.N : Nat) : Int), .int .i64 e18.V.P, .int .i64 e18.Floor, .slice A28 n29 c30]) (i := 0) hs35 (v := .agg #[.int .u64 ((e18.V.N : Nat) : Int), .int .i64 e18.V.P, .int .i64 e18.Floor, .slice A28 n29 c30]) (.tmp rfl rfl) (.tmp rfl rfl) rfl (Nat.le_of_ble_eq_true rfl) (oneA rfl) rfl) ?_
      rintro w36 hs38
      refine c_nil ?_
      refine n_then ?_
      refine c_seq ?_
      refine c_region ?_
      refine st (v := .func (.func f_p) #[] cap_p) (x_move (.tmp rfl hρ6)) ?_
      refine st (v := .agg #[.int .u64 ((e18.V.N : Nat) : Int), .int .i64 e18.V.P, .int .i64 e18.Floor, .slice A28 n29 c30]) (ld38 (cs := [.int .u64 ((e18.V.N : Nat) : Int), .int .i64 e18.V.P, .int .i64 e18.Floor, .slice A28 n29 c30]) (.tmp rfl rfl) (hs38.at_ 0 rfl (0) rfl) rfl) ?_
      have hr39 : kState.rep H e18 [.int .u64 ((e18.V.N : Nat) : Int), .int .i64 e18.V.P, .int .i64 e18.Floor, .slice A28 n29 c30] := ⟨A28, n29, c30, rfl, b23, ⟨b24, b25⟩, ⟨b26, b27⟩, hl31⟩
      refine st_cc cb_p (.tmp rfl rfl) (evs1 (.tmp rfl rfl)) rfl (h_p hs38 e18 hr39) ?_
      rintro e w40 ⟨rfl, hs41⟩
      refine ⟨_, rfl, ?_⟩
      refine st (v := .bool (!(p e18))) (x_not (.tmp rfl rfl)) ?_
      refine c_nil ?_
      refine n_then ?_
      rcases Bool.eq_false_or_eq_true (p e18) with hc42 | hc42
      · refine c_cond_f (t := false) (.tmp rfl (congrArg Value.bool (by rw [hc42]; rfl))) rfl ?_
        refine c_skip ?_
        refine n_block ?_
        refine n_then ?_
        refine c_region ?_
        refine st (v := .int .i64 ((j : Nat) : Int)) (x_move (.tmp rfl hρ8)) ?_
        refine st (v := .int .i64 (((j + 1) : Nat) : Int)) (x_add (k := .i64) (a := ((j : Nat) : Int)) (b := 1) (.tmp rfl rfl) .const ((w64 (by omega) (by omega)).trans (by omega))) ?_
        refine st (v := .int .i64 (((j + 1) : Nat) : Int)) (x_assign (.tmp rfl rfl)) ?_
        refine c_nil ?_
        have hnx := del_skip hA hB hx20 hc42
        refine n_then ⟨_, _, rfl, ?_, ys, v_ys, c_ys, i, (j + 1), hρ5, hρ6, hρ7, rfl, ok_ys, hk_ys, (by omega), (by omega), hl, hnx.1, hnx.2, hs41.drop, rfl⟩
        omega
      · refine c_cond_t (t := true) (.tmp rfl (congrArg Value.bool (by rw [hc42]; rfl))) rfl ?_
        refine c_seq ?_
        refine c_region ?_
        refine st (v := v_ys) (x_move (.tmp rfl hρ5)) ?_
        refine st (v := .int .i64 ((i : Nat) : Int)) (x_move (.tmp rfl hρ7)) ?_
        refine st (v := .agg #[.int .u64 ((e18.V.N : Nat) : Int), .int .i64 e18.V.P, .int .i64 e18.Floor, .slice A28 n29 c30]) (ld38 (cs := [.int .u64 ((e18.V.N : Nat) : Int), .int .i64 e18.V.P, .int .i64 e18.Floor, .slice A28 n29 c30]) (.tmp rfl rfl) (hs41.at_ 0 rfl (0) rfl) rfl) ?_
        obtain ⟨g43, c44, hv45⟩ := ok_ys.pos (by omega)
        obtain ⟨e46, cs47, hx48, hr49, hsub50⟩ := Kn.rows_get (i := i) hk_ys (by omega)
        obtain ⟨A56, n57, c58, rfl, b51, ⟨b52, b53⟩, ⟨b54, b55⟩, hl59⟩ := hr49
        have := hl59.len; have : n57 * 32 ≤ 140737488351232 := hl59.bnd; have := hl59.le
        refine st (v := .pointer (some ⟨g43, (i * 4), none⟩)) (ixo22 (.tmp rfl hv45) rfl (i := ((i : Nat) : Int)) (.tmp rfl rfl) (by omega) (by omega) (by omega)) ?_
        have hs60 : St H _ (row 38 4 v_ys ys.length c_ys :: obj g32 38 [.int .u64 ((e18.V.N : Nat) : Int), .int .i64 e18.V.P, .int .i64 e18.Floor, .slice A28 n29 c30] :: L) := hs41.pick 1 rfl rfl
        have hl66 : i * 4 + 4 ≤ c_ys.length := by have h1 := (hk_ys).1; have h2 : kState.sz = 4 := rfl; rw [h2] at h1; omega
        have hr65 : kState.rep H e18 [.int .u64 ((e18.V.N : Nat) : Int), .int .i64 e18.V.P, .int .i64 e18.Floor, .slice A28 n29 c30] := ⟨A28, n29, c30, rfl, b23, ⟨b24, b25⟩, ⟨b26, b27⟩, hl31⟩
        refine st_m0 (stor38 hs60 hv45 (i := (i * 4)) (xs' := splice c_ys (i * 4) [.int .u64 ((e18.V.N : Nat) : Int), .int .i64 e18.V.P, .int .i64 e18.Floor, .slice A28 n29 c30]) (.tmp rfl rfl) (u := .agg #[.int .u64 ((e18.V.N : Nat) : Int), .int .i64 e18.V.P, .int .i64 e18.Floor, .slice A28 n29 c30]) (.tmp rfl rfl) rfl (by omega) (oneA rfl) rfl) ?_
        rintro w61 hs62
        have hk64 := Kn.rows_set (d := kState.toKn) hk_ys (i := i) (by omega) hr65
        have ok63 := ok_ys.splice (i := i * 4) (vs := [.int .u64 ((e18.V.N : Nat) : Int), .int .i64 e18.V.P, .int .i64 e18.Floor, .slice A28 n29 c30]) (by simpa using hl66)
        have hn67 : (ys.set i e18).length = ys.length := List.length_set
        rw [← hn67] at hs62 ok63
        refine c_nil ?_
        refine n_then ?_
        refine c_region ?_
        refine st (v := .int .i64 ((i : Nat) : Int)) (x_move (.tmp rfl hρ7)) ?_
        refine st (v := .int .i64 (((i + 1) : Nat) : Int)) (x_add (k := .i64) (a := ((i : Nat) : Int)) (b := 1) (.tmp rfl rfl) .const ((w64 (by omega) (by omega)).trans (by omega))) ?_
        refine st (v := .int .i64 (((i + 1) : Nat) : Int)) (x_assign (.tmp rfl rfl)) ?_
        refine c_nil ?_
        refine n_block ?_
        refine n_then ?_
        refine c_region ?_
        refine st (v := .int .i64 ((j : Nat) : Int)) (x_move (.tmp rfl hρ8)) ?_
        refine st (v := .int .i64 (((j + 1) : Nat) : Int)) (x_add (k := .i64) (a := ((j : Nat) : Int)) (b := 1) (.tmp rfl rfl) .const ((w64 (by omega) (by omega)).trans (by omega))) ?_
        refine st (v := .int .i64 (((j + 1) : Nat) : Int)) (x_assign (.tmp rfl rfl)) ?_
        refine c_nil ?_
        have hnx := del_keep hA hB hx20 (by omega) hc42
        refine n_then ⟨_, _, rfl, ?_, (ys.set i e18), v_ys, (splice c_ys (i * 4) [.int .u64 ((e18.V.N : Nat) : Int), .int .i64 e18.V.P, .int .i64 e18.Floor, .slice A28 n29 c30]), (i + 1), (j + 1), hρ5, hρ6, rfl, rfl, ok63, hk64, (by omega), (by omega), (by rw [List.length_set]; exact hl), hnx.1, hnx.2, (hs62.pick 1 rfl rfl).drop, rfl⟩
        omega
    · have hp14 : ¬ ((((j : Nat) : Int) : Int) < ((ys.length : Nat) : Int)) := of_decide_eq_false hc14
      refine c_cond_f (t := false) (.tmp rfl (congrArg Value.bool hc14)) rfl ?_
      refine c_exit ?_
      refine x_then ?_
      refine x_then ?_
      refine x_here ?_
      refine n_then ?_
      refine c_seq ?_
      refine c_region ?_
      obtain ⟨g68, cap69, rfl⟩ := ok_ys.pos (by omega)
      have hcl : c_ys.length = ys.length * 4 := ok_ys.1
      have hcp : ys.length ≤ cap69 := by obtain ⟨A, c, h1, h2⟩ := ok_ys.slice; injection h1 with _ _ h1; rw [h1]; exact h2
      skip
      refine st (v := .slice (some ⟨g68, 0, none⟩) ys.length cap69) (x_move (.tmp rfl hρ5)) ?_
      refine st (v := .int .i64 ((i : Nat) : Int)) (x_move (.tmp rfl hρ7)) ?_
      refine st (v := .slice (cutA (some ⟨g68, 0, none⟩) cap69 i kState.sz) (ys.length - i) (cap69 - i)) (sl_l (d := kState) Try.underlying22 inf38 (a := ((i : Nat) : Int)) (.tmp rfl rfl) (.tmp rfl rfl) (by omega) (by omega) (by omega)) ?_
      have hip : i * 4 + (ys.length - i) * 4 = ys.length * 4 := by rw [← Nat.add_mul]; congr 1; omega
      refine st_mv0 (m_clearRow (dn := ys.length - i) Try.underlying22 inf38 rfl (by decide) hs9 rfl (.tmp rfl (congrArg (fun A => Value.slice A (ys.length - i) (cap69 - i)) (cutA_some (size := 4) (by omega)))) (by rw [hcl]; omega) (oneA rfl)) ?_
      rintro _ w70 hs71
      have hs71 : St H _ (row 38 4 (.slice (some ⟨g68, 0, none⟩) ys.length cap69) ys.length (splice c_ys (i * 4) ((List.replicate (ys.length - i) ([.int .u64 0, .int .i64 0, .int .i64 0, .slice none 0 0] : List Value)).flatten)) :: L) := hs71
      refine c_nil ?_
      refine n_then ?_
      refine c_seq ?_
      refine c_region ?_
      refine st (v := .slice (some ⟨g68, 0, none⟩) ys.length cap69) (x_move (.tmp rfl hρ5)) ?_
      refine st (v := .int .i64 ((i : Nat) : Int)) (x_move (.tmp rfl hρ7)) ?_
      refine st (v := .slice (some ⟨g68, 0, none⟩) i cap69) (sl_h (d := kState) Try.underlying22 inf38 (a := ((i : Nat) : Int)) (.tmp rfl rfl) (.tmp rfl rfl) (by omega) (by omega)) ?_
      have hs72 := hs71.shrink (k := i) (by omega)
      rw [splice_take (by rw [hcl]; exact Nat.mul_le_mul_right _ (by omega))] at hs72
      have ok9 := ok_ys.shrink (k := i) (by omega)
      refine st (v := .slice (some ⟨g68, 0, none⟩) i cap69) (x_assign (.tmp rfl rfl)) ?_
      refine c_nil ?_
      refine n_then ?_
      refine c_ret ?_
      refine leave_ret (res_one (v := .slice (some ⟨g68, 0, none⟩) i cap69) rfl (.mk rfl rfl)) ?_
      have hans : s.filter (fun x => !p x) = ys.take i := by rw [hA, show j = s.length from by omega, List.take_length]
      have hl9 : (ys.take i).length = i := by rw [List.length_take]; omega
      have hs9 := hs72
      have hrw := Kn.rows_take hk_ys i (by omega)
      rw [hans]
      rw [show ((.slice (some ⟨g68, 0, none⟩) i cap69) : Value) = .slice (some ⟨g68, 0, none⟩) (ys.take i).length cap69 by rw [hl9]]
      exact ⟨_, _, rfl, by rw [hl9]; exact ok9, hrw, by rw [hl9]; exact hs9⟩

end Go.Proofs.Ytkbllbphkdnmbaa
