/- Steps of the proofs over the functions of this seat, printed by a program (gen.py) and checked by Lean. -/
import Derived.Test.YtojlmilkdijiaaaDoorUty
import Derived.Test.YtojlmilkdijiaaaDoorFmM4b
import Derived.Test.YtojlmilkdijiaaaDoorFmP
import Derived.Test.YtojlmilkdijiaaaDoorFmN3
import Derived.Test.YtojlmilkdijiaaaDoorU8n
set_option linter.unusedVariables false
set_option linter.unusedSimpArgs false
namespace Go.Proofs.YtojlmilkdijiaaaDoor
open Go Go.FM Go.Proofs
attribute [local irreducible] wpList wpQuiet wpS Code.wp Calls
set_option maxHeartbeats 8000000 in
theorem delete_pk {H : Hp} {w : World} {L : List Res} {v_s : Value} {c_s : List Value} {s : (List Pk)} (hs : St H w (row 37 3 v_s s.length c_s :: L)) (ok_s : RowOk kPk.sz v_s s.length c_s) (hk_s : kPk.toKn.rows H s c_s) (m : Nat)  (hm : m < s.length) : Calls Tryd.prog 49 #[v_s, .int .i64 ((m : Nat) : Int), .int .i64 ((m + 1 : Nat) : Int)] w (fun e w' => ∃ (v0 : Value) (cs0 : List Value), e = .returned (v0) ∧ RowOk kPk.sz v0 (s.eraseIdx m).length cs0 ∧ kPk.toKn.rows H (s.eraseIdx m) cs0 ∧ St H w' (row 37 kPk.sz v0 (s.eraseIdx m).length cs0 :: L)) := by
  have : s.length ≤ 9223372036854775807 := ok_s.2.1
  refine enter (args := [v_s, .int .i64 ((m : Nat) : Int), .int .i64 (((m + 1) : Nat) : Int)]) (N := 33) Tryd.func49 rfl rfl rfl ?_
  obtain ⟨g1, cap2, rfl⟩ := ok_s.pos (by omega)
  have hcl : c_s.length = s.length * 3 := ok_s.1
  have hcp : s.length ≤ cap2 := by obtain ⟨A, c, h1, h2⟩ := ok_s.slice; injection h1 with _ _ h1; rw [h1]; exact h2
  refine c_seq ?_
  refine c_region ?_
  refine st (v := .slice none 0 0) (x_assign .const) ?_
  refine c_nil ?_
  refine n_then ?_
  refine c_seq ?_
  refine c_region ?_
  refine st (v := .slice (some ⟨g1, 0, none⟩) s.length cap2) (x_move (.tmp rfl rfl)) ?_
  refine st (v := .int .i64 ((m : Nat) : Int)) (x_move (.tmp rfl rfl)) ?_
  refine st (v := .int .i64 (((m + 1) : Nat) : Int)) (x_move (.tmp rfl rfl)) ?_
  refine st (v := .slice (some ⟨g1, 0, none⟩) s.length cap2) (x_move (.tmp rfl rfl)) ?_
  refine st (v := .int .i64 ((s.length : Nat) : Int)) (x_len (n := s.length) Tryd.underlying51 (.tmp rfl rfl)) ?_
  refine st (v := .slice (cutA (some ⟨g1, 0, none⟩) s.length m kPk.sz) (m + 1 - m) (s.length - m)) (sl_lhm (d := kPk) Tryd.underlying51 inf37 (a := ((m : Nat) : Int)) (b := (((m + 1) : Nat) : Int)) (mc := s.length) (.tmp rfl rfl) (.tmp rfl rfl) (.tmp rfl rfl) (.tmp rfl rfl) (by omega) (by omega) (by omega) (by omega)) ?_
  refine c_nil ?_
  refine n_then ?_
  refine c_seq ?_
  refine c_seq ?_
  refine c_region ?_
  refine st (v := .int .i64 ((m : Nat) : Int)) (x_move (.tmp rfl rfl)) ?_
  refine st (v := .int .i64 (((m + 1) : Nat) : Int)) (x_move (.tmp rfl rfl)) ?_
  refine st (v := .bool (decide ((((m : Nat) : Int) : Int) = (((m + 1) : Nat) : Int)))) (x_eql (k := .i64) (a := ((m : Nat) : Int)) (b := (((m + 1) : Nat) : Int)) (.tmp rfl rfl) (.tmp rfl rfl)) ?_
  refine c_nil ?_
  refine n_then ?_
  have hc3 : (decide ((((m : Nat) : Int) : Int) = (((m + 1) : Nat) : Int))) = false := decide_eq_false (by omega)
  refine c_cond_f (t := false) (.tmp rfl (congrArg Value.bool hc3)) rfl ?_
  refine c_skip ?_
  refine n_then ?_
  refine c_seq ?_
  refine c_region ?_
  refine st (v := .slice (some ⟨g1, 0, none⟩) s.length cap2) (x_move (.tmp rfl rfl)) ?_
  refine st (v := .int .i64 ((s.length : Nat) : Int)) (x_len (n := s.length) Tryd.underlying51 (.tmp rfl rfl)) ?_
  refine st (v := .int .i64 ((s.length : Nat) : Int)) (x_assign (.tmp rfl rfl)) ?_
  refine c_nil ?_
  refine n_then ?_
  refine c_seq ?_
  refine s_region (L := row 37 3 (.slice (some ⟨g1, 0, none⟩) s.length cap2) s.length c_s :: L) (L' := L) none [(0, true), (1, true), (2, true), (3, true), (4, true), (5, true), (6, false), (7, true)] mixed hs (fun u hu => hu.drop) (by kernel_rfl) ?_
  intro w4 hs5
  refine s_st (k := 0) (v := .slice (some ⟨g1, 0, none⟩) s.length cap2) rfl (fun w hs => (x_move (.tmp rfl rfl))) ?_
  refine s_st (k := 1) (v := .int .i64 ((m : Nat) : Int)) rfl (fun w hs => (x_move (.tmp rfl rfl))) ?_
  refine s_st (k := 2) (v := .slice (some ⟨g1, 0, none⟩) m cap2) rfl (fun w hs => (sl_h (d := kPk) Tryd.underlying51 inf37 (a := ((m : Nat) : Int)) (.tmp rfl rfl) (.tmp rfl rfl) (by omega) (by omega))) ?_
  refine s_st (k := 3) (v := .slice (some ⟨g1, 0, none⟩) s.length cap2) rfl (fun w hs => (x_move (.tmp rfl rfl))) ?_
  refine s_st (k := 4) (v := .int .i64 (((m + 1) : Nat) : Int)) rfl (fun w hs => (x_move (.tmp rfl rfl))) ?_
  refine s_st (k := 5) (v := .slice (cutA (some ⟨g1, 0, none⟩) cap2 (m + 1) kPk.sz) (s.length - (m + 1)) (cap2 - (m + 1))) rfl (fun w hs => (sl_l (d := kPk) Tryd.underlying51 inf37 (a := (((m + 1) : Nat) : Int)) (.tmp rfl rfl) (.tmp rfl rfl) (by omega) (by omega) (by omega))) ?_
  refine s_eff (k := 6) rfl ?_
  obtain ⟨a, hca, hat⟩ := cutA_at (l := m + 1) hs5 ok_s (by omega)
  refine st_m (m_appSelf Tryd.underlying51 inf37 hs5 ok_s rfl (.tmp rfl rfl) (.tmp rfl (congrArg (fun A => Value.slice A (s.length - (m + 1)) (cap2 - (m + 1))) hca)) hat (by rw [List.length_drop, hcl, Nat.sub_mul]) (fun u hu => Kn.rows_one_cell hk_s u (List.mem_of_mem_drop hu)) (by omega)) ?_
  rintro _ w6 ⟨rfl, hs7⟩
  have hs7 : St H _ (row 37 3 (.slice (some ⟨g1, 0, none⟩) s.length cap2) s.length (splice c_s (m * 3) (c_s.drop ((m + 1) * 3))) :: L) := hs7
  refine s_on (S' := fun u => St H u (L)) (fun u hu => hu) hs7.drop ?_
  refine s_st (k := 7) (v := .slice (some ⟨g1, 0, none⟩) (s.length - 1) cap2) rfl (fun w hs => (x_assign (.tmp rfl (congrArg (fun q => Value.slice (some ⟨g1, 0, none⟩) q cap2) (show m + (s.length - (m + 1)) = s.length - 1 by omega))))) ?_
  refine s_nil ?_
  refine n_then ?_
  refine c_seq ?_
  refine c_region ?_
  refine st (v := .slice (some ⟨g1, 0, none⟩) (s.length - 1) cap2) (x_move (.tmp rfl rfl)) ?_
  refine st (v := .slice (some ⟨g1, 0, none⟩) (s.length - 1) cap2) (x_move (.tmp rfl rfl)) ?_
  refine st (v := .int .i64 (((s.length - 1) : Nat) : Int)) (x_len (n := (s.length - 1)) Tryd.underlying51 (.tmp rfl rfl)) ?_
  refine st (v := .int .i64 ((s.length : Nat) : Int)) (x_move (.tmp rfl rfl)) ?_
  refine st (v := .slice (cutA (some ⟨g1, 0, none⟩) cap2 (s.length - 1) kPk.sz) (s.length - (s.length - 1)) (cap2 - (s.length - 1))) (sl_lh (d := kPk) Tryd.underlying51 inf37 (a := (((s.length - 1) : Nat) : Int)) (b := ((s.length : Nat) : Int)) (.tmp rfl rfl) (.tmp rfl rfl) (.tmp rfl rfl) (by omega) (by omega) (by omega)) ?_
  have hln : (splice c_s (m * 3) (c_s.drop ((m + 1) * 3))).length = s.length * 3 := by rw [splice_length (by rw [List.length_drop, hcl]; omega), hcl]
  refine st_mv0 (m_clearRow (dn := s.length - (s.length - 1)) (o := (s.length - 1) * 3) Tryd.underlying51 inf37 rfl (by decide) hs7 rfl (.tmp rfl (congrArg (fun A => Value.slice A (s.length - (s.length - 1)) (cap2 - (s.length - 1))) (cutA_some (size := 3) (by omega)))) (by rw [hln]; omega) (oneA rfl)) ?_
  rintro _ w8 hs9
  have hs9 : St H _ (row 37 3 (.slice (some ⟨g1, 0, none⟩) s.length cap2) s.length (splice (splice c_s (m * 3) (c_s.drop ((m + 1) * 3))) ((s.length - 1) * 3) ((List.replicate (s.length - (s.length - 1)) ([.int .i64 0, .int .i64 0, .slice none 0 0] : List Value)).flatten)) :: L) := hs9
  refine c_nil ?_
  refine n_then ?_
  refine c_seq ?_
  refine c_region ?_
  refine st (v := .slice (some ⟨g1, 0, none⟩) (s.length - 1) cap2) (x_move (.tmp rfl rfl)) ?_
  refine st (v := .slice (some ⟨g1, 0, none⟩) (s.length - 1) cap2) (x_assign (.tmp rfl rfl)) ?_
  refine c_nil ?_
  refine n_then ?_
  refine c_ret ?_
  refine leave_ret (res_one (v := .slice (some ⟨g1, 0, none⟩) (s.length - 1) cap2) rfl (.mk rfl rfl)) ?_
  have hs9 := hs9.shrink (k := s.length - 1) (by omega)
  rw [del_cells hcl hm (by rw [show s.length - (s.length - 1) = 1 by omega]; rfl)] at hs9
  have ok9 := del_ok ok_s hm
  have hrw := Kn.rows_append (Kn.rows_take hk_s m (by omega)) (Kn.rows_drop hk_s (m + 1) (by omega))
  have hl9 : (s.eraseIdx m).length = s.length - 1 := List.length_eraseIdx_of_lt hm
  exact ⟨_, _, rfl, by rw [hl9]; exact ok9, by rw [erase_split]; exact hrw, by rw [hl9]; exact hs9⟩

set_option maxHeartbeats 8000000 in
theorem delete_int {H : Hp} {w : World} {L : List Res} {v_s : Value} {c_s : List Value} {s : (List Int)} (hs : St H w (row 3 1 v_s s.length c_s :: L)) (ok_s : RowOk kI.sz v_s s.length c_s) (hk_s : kI.toKn.rows H s c_s) (m : Nat)  (hm : m < s.length) : Calls Tryd.prog 50 #[v_s, .int .i64 ((m : Nat) : Int), .int .i64 ((m + 1 : Nat) : Int)] w (fun e w' => ∃ (v0 : Value) (cs0 : List Value), e = .returned (v0) ∧ RowOk kI.sz v0 (s.eraseIdx m).length cs0 ∧ kI.toKn.rows H (s.eraseIdx m) cs0 ∧ St H w' (row 3 kI.sz v0 (s.eraseIdx m).length cs0 :: L)) := by
  have : s.length ≤ 9223372036854775807 := ok_s.2.1
  refine enter (args := [v_s, .int .i64 ((m : Nat) : Int), .int .i64 (((m + 1) : Nat) : Int)]) (N := 33) Tryd.func50 rfl rfl rfl ?_
  obtain ⟨g1, cap2, rfl⟩ := ok_s.pos (by omega)
  have hcl : c_s.length = s.length * 1 := ok_s.1
  have hcp : s.length ≤ cap2 := by obtain ⟨A, c, h1, h2⟩ := ok_s.slice; injection h1 with _ _ h1; rw [h1]; exact h2
  refine c_seq ?_
  refine c_region ?_
  refine st (v := .slice none 0 0) (x_assign .const) ?_
  refine c_nil ?_
  refine n_then ?_
  refine c_seq ?_
  refine c_region ?_
  refine st (v := .slice (some ⟨g1, 0, none⟩) s.length cap2) (x_move (.tmp rfl rfl)) ?_
  refine st (v := .int .i64 ((m : Nat) : Int)) (x_move (.tmp rfl rfl)) ?_
  refine st (v := .int .i64 (((m + 1) : Nat) : Int)) (x_move (.tmp rfl rfl)) ?_
  refine st (v := .slice (some ⟨g1, 0, none⟩) s.length cap2) (x_move (.tmp rfl rfl)) ?_
  refine st (v := .int .i64 ((s.length : Nat) : Int)) (x_len (n := s.length) Tryd.underlying52 (.tmp rfl rfl)) ?_
  refine st (v := .slice (cutA (some ⟨g1, 0, none⟩) s.length m kI.sz) (m + 1 - m) (s.length - m)) (sl_lhm (d := kI) Tryd.underlying52 inf3 (a := ((m : Nat) : Int)) (b := (((m + 1) : Nat) : Int)) (mc := s.length) (.tmp rfl rfl) (.tmp rfl rfl) (.tmp rfl rfl) (.tmp rfl rfl) (by omega) (by omega) (by omega) (by omega)) ?_
  refine c_nil ?_
  refine n_then ?_
  refine c_seq ?_
  refine c_seq ?_
  refine c_region ?_
  refine st (v := .int .i64 ((m : Nat) : Int)) (x_move (.tmp rfl rfl)) ?_
  refine st (v := .int .i64 (((m + 1) : Nat) : Int)) (x_move (.tmp rfl rfl)) ?_
  refine st (v := .bool (decide ((((m : Nat) : Int) : Int) = (((m + 1) : Nat) : Int)))) (x_eql (k := .i64) (a := ((m : Nat) : Int)) (b := (((m + 1) : Nat) : Int)) (.tmp rfl rfl) (.tmp rfl rfl)) ?_
  refine c_nil ?_
  refine n_then ?_
  have hc3 : (decide ((((m : Nat) : Int) : Int) = (((m + 1) : Nat) : Int))) = false := decide_eq_false (by omega)
  refine c_cond_f (t := false) (.tmp rfl (congrArg Value.bool hc3)) rfl ?_
  refine c_skip ?_
  refine n_then ?_
  refine c_seq ?_
  refine c_region ?_
  refine st (v := .slice (some ⟨g1, 0, none⟩) s.length cap2) (x_move (.tmp rfl rfl)) ?_
  refine st (v := .int .i64 ((s.length : Nat) : Int)) (x_len (n := s.length) Tryd.underlying52 (.tmp rfl rfl)) ?_
  refine st (v := .int .i64 ((s.length : Nat) : Int)) (x_assign (.tmp rfl rfl)) ?_
  refine c_nil ?_
  refine n_then ?_
  refine c_seq ?_
  refine s_region (L := row 3 1 (.slice (some ⟨g1, 0, none⟩) s.length cap2) s.length c_s :: L) (L' := L) none [(0, true), (1, true), (2, true), (3, true), (4, true), (5, true), (6, false), (7, true)] mixed hs (fun u hu => hu.drop) (by kernel_rfl) ?_
  intro w4 hs5
  refine s_st (k := 0) (v := .slice (some ⟨g1, 0, none⟩) s.length cap2) rfl (fun w hs => (x_move (.tmp rfl rfl))) ?_
  refine s_st (k := 1) (v := .int .i64 ((m : Nat) : Int)) rfl (fun w hs => (x_move (.tmp rfl rfl))) ?_
  refine s_st (k := 2) (v := .slice (some ⟨g1, 0, none⟩) m cap2) rfl (fun w hs => (sl_h (d := kI) Tryd.underlying52 inf3 (a := ((m : Nat) : Int)) (.tmp rfl rfl) (.tmp rfl rfl) (by omega) (by omega))) ?_
  refine s_st (k := 3) (v := .slice (some ⟨g1, 0, none⟩) s.length cap2) rfl (fun w hs => (x_move (.tmp rfl rfl))) ?_
  refine s_st (k := 4) (v := .int .i64 (((m + 1) : Nat) : Int)) rfl (fun w hs => (x_move (.tmp rfl rfl))) ?_
  refine s_st (k := 5) (v := .slice (cutA (some ⟨g1, 0, none⟩) cap2 (m + 1) kI.sz) (s.length - (m + 1)) (cap2 - (m + 1))) rfl (fun w hs => (sl_l (d := kI) Tryd.underlying52 inf3 (a := (((m + 1) : Nat) : Int)) (.tmp rfl rfl) (.tmp rfl rfl) (by omega) (by omega) (by omega))) ?_
  refine s_eff (k := 6) rfl ?_
  obtain ⟨a, hca, hat⟩ := cutA_at (l := m + 1) hs5 ok_s (by omega)
  refine st_m (m_appSelf Tryd.underlying52 inf3 hs5 ok_s rfl (.tmp rfl rfl) (.tmp rfl (congrArg (fun A => Value.slice A (s.length - (m + 1)) (cap2 - (m + 1))) hca)) hat (by rw [List.length_drop, hcl, Nat.sub_mul]) (fun u hu => Kn.rows_one_cell hk_s u (List.mem_of_mem_drop hu)) (by omega)) ?_
  rintro _ w6 ⟨rfl, hs7⟩
  have hs7 : St H _ (row 3 1 (.slice (some ⟨g1, 0, none⟩) s.length cap2) s.length (splice c_s (m * 1) (c_s.drop ((m + 1) * 1))) :: L) := hs7
  refine s_on (S' := fun u => St H u (L)) (fun u hu => hu) hs7.drop ?_
  refine s_st (k := 7) (v := .slice (some ⟨g1, 0, none⟩) (s.length - 1) cap2) rfl (fun w hs => (x_assign (.tmp rfl (congrArg (fun q => Value.slice (some ⟨g1, 0, none⟩) q cap2) (show m + (s.length - (m + 1)) = s.length - 1 by omega))))) ?_
  refine s_nil ?_
  refine n_then ?_
  refine c_seq ?_
  refine c_region ?_
  refine st (v := .slice (some ⟨g1, 0, none⟩) (s.length - 1) cap2) (x_move (.tmp rfl rfl)) ?_
  refine st (v := .slice (some ⟨g1, 0, none⟩) (s.length - 1) cap2) (x_move (.tmp rfl rfl)) ?_
  refine st (v := .int .i64 (((s.length - 1) : Nat) : Int)) (x_len (n := (s.length - 1)) Tryd.underlying52 (.tmp rfl rfl)) ?_
  refine st (v := .int .i64 ((s.length : Nat) : Int)) (x_move (.tmp rfl rfl)) ?_
  refine st (v := .slice (cutA (some ⟨g1, 0, none⟩) cap2 (s.length - 1) kI.sz) (s.length - (s.length - 1)) (cap2 - (s.length - 1))) (sl_lh (d := kI) Tryd.underlying52 inf3 (a := (((s.length - 1) : Nat) : Int)) (b := ((s.length : Nat) : Int)) (.tmp rfl rfl) (.tmp rfl rfl) (.tmp rfl rfl) (by omega) (by omega) (by omega)) ?_
  have hln : (splice c_s (m * 1) (c_s.drop ((m + 1) * 1))).length = s.length * 1 := by rw [splice_length (by rw [List.length_drop, hcl]; omega), hcl]
  refine st_mv0 (m_clearRow (dn := s.length - (s.length - 1)) (o := (s.length - 1) * 1) Tryd.underlying52 inf3 rfl (by decide) hs7 rfl (.tmp rfl (congrArg (fun A => Value.slice A (s.length - (s.length - 1)) (cap2 - (s.length - 1))) (cutA_some (size := 1) (by omega)))) (by rw [hln]; omega) (oneA rfl)) ?_
  rintro _ w8 hs9
  have hs9 : St H _ (row 3 1 (.slice (some ⟨g1, 0, none⟩) s.length cap2) s.length (splice (splice c_s (m * 1) (c_s.drop ((m + 1) * 1))) ((s.length - 1) * 1) ((List.replicate (s.length - (s.length - 1)) ([.int .i64 0] : List Value)).flatten)) :: L) := hs9
  refine c_nil ?_
  refine n_then ?_
  refine c_seq ?_
  refine c_region ?_
  refine st (v := .slice (some ⟨g1, 0, none⟩) (s.length - 1) cap2) (x_move (.tmp rfl rfl)) ?_
  refine st (v := .slice (some ⟨g1, 0, none⟩) (s.length - 1) cap2) (x_assign (.tmp rfl rfl)) ?_
  refine c_nil ?_
  refine n_then ?_
  refine c_ret ?_
  refine leave_ret (res_one (v := .slice (some ⟨g1, 0, none⟩) (s.length - 1) cap2) rfl (.mk rfl rfl)) ?_
  have hs9 := hs9.shrink (k := s.length - 1) (by omega)
  rw [del_cells hcl hm (by rw [show s.length - (s.length - 1) = 1 by omega]; rfl)] at hs9
  have ok9 := del_ok ok_s hm
  have hrw := Kn.rows_append (Kn.rows_take hk_s m (by omega)) (Kn.rows_drop hk_s (m + 1) (by omega))
  have hl9 : (s.eraseIdx m).length = s.length - 1 := List.length_eraseIdx_of_lt hm
  exact ⟨_, _, rfl, by rw [hl9]; exact ok9, by rw [erase_split]; exact hrw, by rw [hl9]; exact hs9⟩

set_option maxHeartbeats 8000000 in
theorem clone_bs {H : Hp} {w : World} {L : List Res} {v_b : Value} {b : List Nat} (hs : St H w (row 5 1 v_b b.length (b.map encB) :: L)) (sm_b : Small b) (ok_b : RowOk 1 v_b b.length (b.map encB)) (lb_b : b.length ≤ 140737488351232) : Calls Tryd.prog 37 #[v_b] w (fun e w' => ∃ (v0 : Value), e = .returned (v0) ∧ Small (b) ∧ RowOk 1 v0 (b).length ((b).map encB) ∧ St H w' (row 5 1 v0 (b).length ((b).map encB) :: row 5 1 v_b b.length (b.map encB) :: L)) := by
  refine enter (args := [v_b]) (N := 8) Tryd.func37 rfl rfl rfl ?_
  obtain ⟨A1, c2, rfl, hc3⟩ := ok_b.slice
  refine c_seq ?_
  refine c_region ?_
  refine st (v := .slice none 0 0) (x_assign .const) ?_
  refine c_nil ?_
  refine n_then ?_
  refine c_seq ?_
  refine c_seq ?_
  refine c_region ?_
  refine st (v := .slice A1 b.length c2) (x_move (.tmp rfl rfl)) ?_
  refine st (v := .bool (A1.isNone)) (x_eqlSN Tryd.underlying22 (.tmp rfl rfl) .const) ?_
  refine c_nil ?_
  refine n_then ?_
  rcases Bool.eq_false_or_eq_true (A1.isNone) with hc4 | hc4
  · refine c_cond_t (t := true) (.tmp rfl (congrArg Value.bool hc4)) rfl ?_
    refine c_seq ?_
    refine c_region ?_
    refine st (v := .slice none 0 0) (x_assign .const) ?_
    refine c_nil ?_
    refine n_then ?_
    refine c_ret ?_
    refine r_then ?_
    refine leave_ret (res_one (v := .slice none 0 0) rfl (.mk rfl rfl)) ?_
    have hb0 : b = [] := bs_none ok_b hc4
    have hs6 : St H _ (row 5 1 (.slice none 0 0) b.length (b.map encB) :: row 5 1 (.slice A1 b.length c2) b.length (b.map encB) :: L) := nilRowB hs 5 hb0
    exact ⟨(.slice none 0 0), rfl, sm_b, (by simpa using (nilOkB hb0)), ((hs6.pick 1 rfl rfl).pick 1 rfl rfl)⟩
  · refine c_cond_f (t := false) (.tmp rfl (congrArg Value.bool hc4)) rfl ?_
    refine c_skip ?_
    refine n_then ?_
    refine c_seq ?_
    refine c_region ?_
    refine st_m (m_lit0 Tryd.underlying22 inf5 hs) ?_
    rintro _ w8 ⟨g7, rfl, hs9⟩
    obtain ⟨hs10, ok11⟩ := hs9.rowOfObj (n := 0) (size := 1) rfl (Nat.zero_le _)
    refine st (v := .slice A1 b.length c2) (x_move (.tmp rfl rfl)) ?_
    refine st_m (m_appRowB (l := []) Tryd.underlying22 inf5 hs10 ok11 (.tmp rfl rfl) 1 rfl ok_b (.tmp rfl rfl) (by omega)) ?_
    rintro v13 w14 ⟨ok15, hs16⟩
    rw [List.nil_append, Nat.zero_add] at ok15 hs16
    refine st (v := v13) (x_assign (.tmp rfl rfl)) ?_
    refine c_nil ?_
    refine n_then ?_
    refine c_ret ?_
    refine leave_ret (res_one (v := v13) rfl (.mk rfl rfl)) ?_
    exact ⟨v13, rfl, sm_b, (by simpa using ok15), ((hs16.pick 1 rfl rfl).pick 1 rfl rfl)⟩

end Go.Proofs.YtojlmilkdijiaaaDoor
