/- Steps of the proofs over the functions of this seat, printed by a program (gen.py) and checked by Lean. -/
import Derived.Test.YtnikcgcbkdeeeaaDoorUty
import Derived.Test.YtnikcgcbkdeeeaaDoorFmM4b
import Derived.Test.YtnikcgcbkdeeeaaDoorFmP
import Derived.Test.YtnikcgcbkdeeeaaDoorFmK
import Derived.Test.YtnikcgcbkdeeeaaDoorFmT
import Derived.Test.YtnikcgcbkdeeeaaDoorU9t
set_option linter.unusedVariables false
set_option linter.unusedSimpArgs false
namespace Go.Proofs.YtnikcgcbkdeeeaaDoor
open Go Go.FM Go.Proofs
attribute [local irreducible] wpList wpQuiet wpS Code.wp Calls
set_option maxHeartbeats 8000000 in
theorem one_spec {H : Hp} {w : World} {L : List Res} (hs : St H w (L)) {A_acc : Option Addr} {n_acc c_acc : Nat} (acc : (List (List (List Nat)))) (h_acc : Sl (kSl kBs) H A_acc n_acc c_acc acc) {A_del : Option Addr} {n_del c_del : Nat} (del : (List (List GItem))) (h_del : Sl (kSl kItem) H A_del n_del c_del del) : Calls Tryd.prog 23 #[.slice A_acc n_acc c_acc, .slice A_del n_del c_del] w (fun e w' => ∃ (v0 : Value) (cs0 : List Value), e = .returned (.tuple #[v0, .bool ((totS acc del).2)]) ∧ RowOk kItem.sz v0 ((totS acc del).1).length cs0 ∧ kItem.toKn.rows H ((totS acc del).1) cs0 ∧ St H w' (row 34 kItem.sz v0 ((totS acc del).1).length cs0 :: L)) := by
  have := h_acc.len; have := h_acc.le; have : n_acc * 24 ≤ 140737488351232 := h_acc.bnd
  have := h_del.len; have := h_del.le; have : n_del * 24 ≤ 140737488351232 := h_del.bnd
  refine enter (args := [.slice A_acc n_acc c_acc, .slice A_del n_del c_del]) (N := 142) Tryd.func23 rfl rfl rfl ?_
  refine c_seq ?_
  refine c_region ?_
  refine st (v := .slice none 0 0) (x_assign .const) ?_
  refine st (v := .bool false) (x_assign .const) ?_
  refine c_nil ?_
  refine n_then ?_
  refine c_seq ?_
  refine c_region ?_
  refine st (v := .slice none 0 0) (x_assign .const) ?_
  refine c_nil ?_
  refine n_then ?_
  refine c_seq ?_
  refine c_seq ?_
  refine c_region ?_
  refine st (v := .int .i64 0) (x_assign .const) ?_
  refine c_nil ?_
  refine n_then ?_
  refine c_block ?_
  have hs2 : St H _ (row 34 2 (.slice none 0 0) (([] : List GItem).length) [] :: L) := hs.krowNil 34 kItem
  have : ([] : List GItem).length = 0 := rfl
  refine c_loop (fun ρ w mm => ∃ (i : Nat) (s : List GItem) (v_s : Value) (c_s : List Value), ρ 0 = .slice A_acc n_acc c_acc ∧ ρ 1 = .slice A_del n_del c_del ∧ ρ 6 = v_s ∧ ρ 7 = .int .i64 ((i : Nat) : Int) ∧ (RowOk kItem.sz v_s s.length c_s) ∧ (kItem.toKn.rows H s c_s) ∧ (i ≤ n_del) ∧ (s = longTo del i) ∧ (∀ (j : Nat) (y : List GItem), j < i → del[j]? = some y → decide (y = (longTo del i).take y.length) = true) ∧ (s.length * 32 ≤ 140737488351232) ∧ St H w (row 34 2 v_s s.length c_s :: L) ∧ mm = n_del - i) _ ⟨0, ([] : List GItem), (.slice none 0 0), [], rfl, rfl, rfl, rfl, (RowOk.knil kItem), (Kn.rows_nil _ _), (by omega), rfl, (fun j y h _ => absurd h (Nat.not_lt_zero _)), (by omega), hs2, rfl⟩ ?_
  rintro ρ w mm ⟨i, s, v_s, c_s, hρ4, hρ5, hρ6, hρ7, ok_s, hk_s, hi, hs0, hp, hsb, hs8, rfl⟩
  refine c_seq ?_
  refine c_seq ?_
  refine c_region ?_
  refine st (v := .int .i64 ((i : Nat) : Int)) (x_move (.tmp rfl hρ7)) ?_
  refine st (v := .slice A_del n_del c_del) (x_move (.tmp rfl hρ5)) ?_
  refine st (v := .int .i64 ((n_del : Nat) : Int)) (x_len (n := n_del) Tryd.underlying23 (.tmp rfl rfl)) ?_
  refine st (v := .bool (decide ((((i : Nat) : Int) : Int) < ((n_del : Nat) : Int)))) (x_lss (k := .i64) (a := ((i : Nat) : Int)) (b := ((n_del : Nat) : Int)) (.tmp rfl rfl) (.tmp rfl rfl)) ?_
  refine c_nil ?_
  refine n_then ?_
  rcases Bool.eq_false_or_eq_true (decide ((((i : Nat) : Int) : Int) < ((n_del : Nat) : Int))) with hc9 | hc9
  · have hp9 : (((i : Nat) : Int) : Int) < ((n_del : Nat) : Int) := of_decide_eq_true hc9
    refine c_cond_t (t := true) (.tmp rfl (congrArg Value.bool hc9)) rfl ?_
    refine c_skip ?_
    refine n_then ?_
    refine c_seq ?_
    refine c_block ?_
    refine c_seq ?_
    refine c_region ?_
    obtain ⟨e10, b11, o12, cs13, hx14, hA15, hr16, hat17⟩ := h_del.get (i := i) (by omega)
    obtain ⟨A18, n19, c20, rfl, hl21⟩ := hr16
    have := hl21.len; have : n19 * 32 ≤ 140737488351232 := hl21.bnd; have := hl21.le
    have hat17x : ∀ {w : World} {L : List Res}, St H w L → At w ⟨b11, o12 + i * 1, none⟩ [.slice A18 n19 c20] := fun h => hat17 h
    skip
    refine st (v := .int .i64 0) (x_assign .const) ?_
    refine c_nil ?_
    refine n_then ?_
    refine c_block ?_
    refine c_loop (fun ρ w mm => ∃ (k : Nat) (s2 : List GItem) (v_s2 : Value) (c_s2 : List Value), ρ 0 = .slice A_acc n_acc c_acc ∧ ρ 1 = .slice A_del n_del c_del ∧ ρ 6 = v_s2 ∧ ρ 7 = .int .i64 ((i : Nat) : Int) ∧ ρ 8 = .int .i64 ((k : Nat) : Int) ∧ (RowOk kItem.sz v_s2 s2.length c_s2) ∧ (kItem.toKn.rows H s2 c_s2) ∧ (k ≤ e10.length) ∧ (s2 = extS s e10 k) ∧ (∀ m, m < k → m < s.length → e10[m]? = s[m]?) ∧ St H w (row 34 2 v_s2 s2.length c_s2 :: L) ∧ mm = e10.length - k) _ ⟨0, s, v_s, c_s, hρ4, hρ5, hρ6, hρ7, rfl, ok_s, hk_s, (by omega), (extS_zero _ _).symm, (fun m h => absurd h (Nat.not_lt_zero _)), hs8, rfl⟩ ?_
    rintro ρ w mm ⟨k, s2, v_s2, c_s2, hρ23, hρ24, hρ25, hρ26, hρ27, ok_s2, hk_s2, hk, hs2, ht, hs28, rfl⟩
    refine c_seq ?_
    refine c_seq ?_
    refine c_region ?_
    have hln := extS_len (s0 := s) (l := e10) (k := k) hk; rw [← hs2] at hln
    refine st (v := .int .i64 ((k : Nat) : Int)) (x_move (.tmp rfl hρ27)) ?_
    refine st (v := .slice A_del n_del c_del) (x_move (.tmp rfl hρ24)) ?_
    refine st (v := .int .i64 ((i : Nat) : Int)) (x_move (.tmp rfl hρ26)) ?_
    refine st (v := .pointer (some ⟨b11, (o12 + i * 1), none⟩)) (ixo23 (.tmp rfl rfl) hA15 (i := ((i : Nat) : Int)) (.tmp rfl rfl) (by omega) (by omega) (by omega)) ?_
    refine st (v := .slice A18 n19 c20) (ld25 (.tmp rfl rfl) ((hat17x hs28).cell 0 rfl)) ?_
    refine st (v := .int .i64 ((n19 : Nat) : Int)) (x_len (n := n19) Tryd.underlying25 (.tmp rfl rfl)) ?_
    refine st (v := .bool (decide ((((k : Nat) : Int) : Int) < ((n19 : Nat) : Int)))) (x_lss (k := .i64) (a := ((k : Nat) : Int)) (b := ((n19 : Nat) : Int)) (.tmp rfl rfl) (.tmp rfl rfl)) ?_
    refine c_nil ?_
    refine n_then ?_
    rcases Bool.eq_false_or_eq_true (decide ((((k : Nat) : Int) : Int) < ((n19 : Nat) : Int))) with hc29 | hc29
    · have hp29 : (((k : Nat) : Int) : Int) < ((n19 : Nat) : Int) := of_decide_eq_true hc29
      refine c_cond_t (t := true) (.tmp rfl (congrArg Value.bool hc29)) rfl ?_
      refine c_skip ?_
      refine n_then ?_
      refine c_seq ?_
      refine c_block ?_
      refine c_seq ?_
      refine c_seq ?_
      refine c_region ?_
      refine st (v := .int .i64 ((k : Nat) : Int)) (x_move (.tmp rfl hρ27)) ?_
      refine st (v := v_s2) (x_move (.tmp rfl hρ25)) ?_
      obtain ⟨A30, c31, hv32, hc33⟩ := ok_s2.slice
      refine st (v := .int .i64 ((s2.length : Nat) : Int)) (x_len (n := s2.length) Tryd.underlying25 (.tmp rfl hv32)) ?_
      refine st (v := .bool (decide ((((k : Nat) : Int) : Int) = ((s2.length : Nat) : Int)))) (x_eql (k := .i64) (a := ((k : Nat) : Int)) (b := ((s2.length : Nat) : Int)) (.tmp rfl rfl) (.tmp rfl rfl)) ?_
      refine c_nil ?_
      refine n_then ?_
      rcases Bool.eq_false_or_eq_true (decide ((((k : Nat) : Int) : Int) = ((s2.length : Nat) : Int))) with hc34 | hc34
      · have hp34 : (((k : Nat) : Int) : Int) = ((s2.length : Nat) : Int) := of_decide_eq_true hc34
        refine c_cond_t (t := true) (.tmp rfl (congrArg Value.bool hc34)) rfl ?_
        refine c_region ?_
        refine st (v := v_s2) (x_move (.tmp rfl hρ25)) ?_
        refine st (v := .slice A_del n_del c_del) (x_move (.tmp rfl hρ24)) ?_
        refine st (v := .int .i64 ((i : Nat) : Int)) (x_move (.tmp rfl hρ26)) ?_
        refine st (v := .pointer (some ⟨b11, (o12 + i * 1), none⟩)) (ixo23 (.tmp rfl rfl) hA15 (i := ((i : Nat) : Int)) (.tmp rfl rfl) (by omega) (by omega) (by omega)) ?_
        refine st (v := .slice A18 n19 c20) (ld25 (.tmp rfl rfl) ((hat17x hs28).cell 0 rfl)) ?_
        refine st (v := .int .i64 ((k : Nat) : Int)) (x_move (.tmp rfl hρ27)) ?_
        obtain ⟨e35, b36, o37, cs38, hx39, hA40, hr41, hat42⟩ := hl21.get (i := k) (by omega)
        obtain ⟨A45, n46, c47, rfl, ⟨b43, b44⟩, hy48⟩ := hr41
        have := hy48.len; have := hy48.bnd; have := hy48.le
        have hat42x : ∀ {w : World} {L : List Res}, St H w L → At w ⟨b36, o37 + k * 2, none⟩ [.int .i64 e35.From, .slice A45 n46 c47] := fun h => hat42 h
        refine st (v := .pointer (some ⟨b36, (o37 + k * 2), none⟩)) (ixo25 (.tmp rfl rfl) hA40 (i := ((k : Nat) : Int)) (.tmp rfl rfl) (by omega) (by omega) (by omega)) ?_
        refine st (v := .agg #[.int .i64 e35.From, .slice A45 n46 c47]) (ld34 (cs := [.int .i64 e35.From, .slice A45 n46 c47]) (.tmp rfl rfl) ((hat42x hs28).sub 0 rfl) rfl) ?_
        refine st_m (m_lit (n := 1) (ps := [(0, .agg #[.int .i64 e35.From, .slice A45 n46 c47])]) (cs := [.int .i64 e35.From, .slice A45 n46 c47]) Tryd.underlying25 inf34 (.cons (.tmp rfl rfl) Evp.nil) (by decide) (by decide) rfl rfl hs28) ?_
        rintro _ w50 ⟨g49, rfl, hs52⟩
        have hs53 : St H _ (row 34 2 v_s2 s2.length c_s2 :: obj g49 34 [.int .i64 e35.From, .slice A45 n46 c47] :: L) := hs52.pick 1 rfl rfl
        have hr61 : kItem.rep H e35 [.int .i64 e35.From, .slice A45 n46 c47] := ⟨A45, n46, c47, rfl, ⟨b43, b44⟩, hy48⟩
        refine st_m (m_appK (d := kItem) (ys := [e35]) (news := [.int .i64 e35.From, .slice A45 n46 c47]) Tryd.underlying25 inf34 rfl hs53 ok_s2 hk_s2 (.tmp rfl rfl) (.tmp rfl rfl) (Kn.rows_one hr61) rfl (hs53.at_ 1 rfl 0 rfl) (by have : ([e35] : List GItem).length = 1 := rfl; omega) (by decide)) ?_
        rintro v54 w55 ⟨cs56, ok57, hk58, hs59⟩
        have hn60 : (s2 ++ [e35]).length = s2.length + 1 := by simp
        refine st (v := v54) (x_assign (.tmp rfl rfl)) ?_
        refine c_nil ?_
        refine n_then ?_
        refine c_seq ?_
        refine q_region mixed hs59 (by kernel_rfl) ?_
        have hs3 : (s2 ++ [e35]) = extS s e10 (k + 1) := extS_push hs2 ht (by omega) hx39
        refine q_st (v := v54) (fun w hs => (x_move (.tmp rfl rfl))) ?_
        refine q_st (v := .int .i64 ((k : Nat) : Int)) (fun w hs => (x_move (.tmp rfl hρ27))) ?_
        obtain ⟨g62, c63, hv64⟩ := ok57.pos (by omega)
        obtain ⟨e65, cs66, hx67, hr68, hsub69⟩ := Kn.rows_get (i := k) hk58 (by omega)
        obtain ⟨A72, n73, c74, rfl, ⟨b70, b71⟩, hy75⟩ := hr68
        have := hy75.len; have := hy75.bnd; have := hy75.le
        refine q_st (v := .pointer (some ⟨g62, (k * 2), none⟩)) (fun w hs => (ixo25 (.tmp rfl hv64) rfl (i := ((k : Nat) : Int)) (.tmp rfl rfl) (by omega) (by omega) (by omega))) ?_
        refine q_st (v := .pointer (some ⟨g62, (k * 2) + 0, none⟩)) (fun w hs => (fa34_0 (.tmp rfl rfl))) ?_
        refine q_st (v := .int .i64 e65.From) (fun w hs => (ld3 (.tmp rfl rfl) ((hs.rowAt 0 rfl hv64 (k * 2) hsub69).cell 0 rfl))) ?_
        refine q_st (v := .slice A_del n_del c_del) (fun w hs => (x_move (.tmp rfl hρ24))) ?_
        refine q_st (v := .int .i64 ((i : Nat) : Int)) (fun w hs => (x_move (.tmp rfl hρ26))) ?_
        refine q_st (v := .pointer (some ⟨b11, (o12 + i * 1), none⟩)) (fun w hs => (ixo23 (.tmp rfl rfl) hA15 (i := ((i : Nat) : Int)) (.tmp rfl rfl) (by omega) (by omega) (by omega))) ?_
        refine q_st (v := .slice A18 n19 c20) (fun w hs => (ld25 (.tmp rfl rfl) ((hat17x hs).cell 0 rfl))) ?_
        refine q_st (v := .int .i64 ((k : Nat) : Int)) (fun w hs => (x_move (.tmp rfl hρ27))) ?_
        refine q_st (v := .pointer (some ⟨b36, (o37 + k * 2), none⟩)) (fun w hs => (ixo25 (.tmp rfl rfl) hA40 (i := ((k : Nat) : Int)) (.tmp rfl rfl) (by omega) (by omega) (by omega))) ?_
        refine q_st (v := .pointer (some ⟨b36, (o37 + k * 2) + 0, none⟩)) (fun w hs => (fa34_0 (.tmp rfl rfl))) ?_
        refine q_st (v := .int .i64 e35.From) (fun w hs => (ld3 (.tmp rfl rfl) ((hat42x hs).cell 0 rfl))) ?_
        refine q_st (v := .bool (decide ((e65.From : Int) ≠ e35.From))) (fun w hs => (x_neq (k := .i64) (a := e65.From) (b := e35.From) (.tmp rfl rfl) (.tmp rfl rfl))) ?_
        refine q_st (v := .bool (decide ((e65.From : Int) ≠ e35.From))) (fun w hs => (x_move (.tmp rfl rfl))) ?_
        rcases Bool.eq_false_or_eq_true (decide ((e65.From : Int) ≠ e35.From)) with hc76 | hc76
        · have hp76 : (e65.From : Int) ≠ e35.From := of_decide_eq_true hc76
          refine q_no (yl (dj := 56) (b := true) rfl rfl (congrArg Value.bool hc76)) rfl ?_
          refine q_no (yl (dj := 56) (b := true) rfl rfl (congrArg Value.bool hc76)) rfl ?_
          refine q_no (yl (dj := 56) (b := true) rfl rfl (congrArg Value.bool hc76)) rfl ?_
          refine q_no (yl (dj := 56) (b := true) rfl rfl (congrArg Value.bool hc76)) rfl ?_
          refine q_no (yl (dj := 56) (b := true) rfl rfl (congrArg Value.bool hc76)) rfl ?_
          refine q_no (yl (dj := 56) (b := true) rfl rfl (congrArg Value.bool hc76)) rfl ?_
          refine q_no (yl (dj := 56) (b := true) rfl rfl (congrArg Value.bool hc76)) rfl ?_
          refine q_no (yl (dj := 56) (b := true) rfl rfl (congrArg Value.bool hc76)) rfl ?_
          refine q_no (yl (dj := 56) (b := true) rfl rfl (congrArg Value.bool hc76)) rfl ?_
          refine q_no (yl (dj := 56) (b := true) rfl rfl (congrArg Value.bool hc76)) rfl ?_
          refine q_no (yl (dj := 56) (b := true) rfl rfl (congrArg Value.bool hc76)) rfl ?_
          refine q_no (yl (dj := 56) (b := true) rfl rfl (congrArg Value.bool hc76)) rfl ?_
          refine q_no (yl (dj := 56) (b := true) rfl rfl (congrArg Value.bool hc76)) rfl ?_
          refine q_no (yl (dj := 56) (b := true) rfl rfl (congrArg Value.bool hc76)) rfl ?_
          refine q_no (yl (dj := 56) (b := true) rfl rfl (congrArg Value.bool hc76)) rfl ?_
          refine q_no (yl (dj := 56) (b := true) rfl rfl (congrArg Value.bool hc76)) rfl ?_
          refine q_st (v := .bool true) (fun w hs => (x_pick_t (.tmp rfl (congrArg Value.bool hc76)) .const)) ?_
          refine q_nil ?_
          intro w hs77
          refine n_then ?_
          refine c_cond_t (t := true) (.tmp rfl rfl) rfl ?_
          refine c_seq ?_
          refine c_region ?_
          refine st (v := .slice none 0 0) (x_assign .const) ?_
          refine st (v := .bool false) (x_assign .const) ?_
          refine c_nil ?_
          refine n_then ?_
          refine c_ret ?_
          refine r_block ?_
          refine r_then ?_
          refine r_then ?_
          refine r_block ?_
          refine r_block ?_
          refine r_then ?_
          refine r_then ?_
          refine r_block ?_
          refine r_then ?_
          refine leave_ret (res_two (v := .slice none 0 0) (u := .bool false) rfl (.mk rfl rfl) (.mk rfl rfl)) ?_
          have hans78 : totS acc del = ([], false) := one_bad (i := i) (by rw [← hs0]; exact hs3) hx14 hx67 hx39 (item_ne_from (by omega))
          rw [hans78]
          have hs79 : St H _ (row 34 2 (.slice none 0 0) (([] : List GItem).length) [] :: row 34 2 v54 ((s2 ++ [e35]).length) cs56 :: obj g49 34 [.int .i64 e35.From, .slice A45 n46 c47] :: L) := hs77.krowNil 34 kItem
          exact ⟨(.slice none 0 0), [], rfl, (RowOk.knil kItem), (Kn.rows_nil _ _), ((hs79.pick 1 rfl rfl).drop.pick 1 rfl rfl).drop⟩
        · have hp76 : ¬ ((e65.From : Int) ≠ e35.From) := of_decide_eq_false hc76
          refine q_yes (yl (dj := 56) (b := false) rfl rfl (congrArg Value.bool hc76)) ?_
          refine q_st (v := v54) (fun w hs => (x_move (.tmp rfl rfl))) ?_
          refine q_yes (yl (dj := 56) (b := false) rfl rfl (congrArg Value.bool hc76)) ?_
          refine q_st (v := .int .i64 ((k : Nat) : Int)) (fun w hs => (x_move (.tmp rfl hρ27))) ?_
          refine q_yes (yl (dj := 56) (b := false) rfl rfl (congrArg Value.bool hc76)) ?_
          obtain ⟨g81, c82, hv83⟩ := ok57.pos (by omega)
          refine q_st (v := .pointer (some ⟨g81, (k * 2), none⟩)) (fun w hs => (ixo25 (.tmp rfl hv83) rfl (i := ((k : Nat) : Int)) (.tmp rfl rfl) (by omega) (by omega) (by omega))) ?_
          refine q_yes (yl (dj := 56) (b := false) rfl rfl (congrArg Value.bool hc76)) ?_
          refine q_st (v := .pointer (some ⟨g81, (k * 2) + 1, none⟩)) (fun w hs => (fa34_1 (.tmp rfl rfl))) ?_
          refine q_yes (yl (dj := 56) (b := false) rfl rfl (congrArg Value.bool hc76)) ?_
          refine q_st (v := .slice A72 n73 c74) (fun w hs => (ld30 (.tmp rfl rfl) ((hs.rowAt 0 rfl hv83 (k * 2) hsub69).cell 1 rfl))) ?_
          refine q_yes (yl (dj := 56) (b := false) rfl rfl (congrArg Value.bool hc76)) ?_
          refine q_st (v := .string (bstr e65.M)) (fun w hs => (hy75.toBs.str Tryd.underlying30 Tryd.underlying5 Tryd.underlying9 hs (.tmp rfl rfl))) ?_
          refine q_yes (yl (dj := 56) (b := false) rfl rfl (congrArg Value.bool hc76)) ?_
          refine q_st (v := .slice A_del n_del c_del) (fun w hs => (x_move (.tmp rfl hρ24))) ?_
          refine q_yes (yl (dj := 56) (b := false) rfl rfl (congrArg Value.bool hc76)) ?_
          refine q_st (v := .int .i64 ((i : Nat) : Int)) (fun w hs => (x_move (.tmp rfl hρ26))) ?_
          refine q_yes (yl (dj := 56) (b := false) rfl rfl (congrArg Value.bool hc76)) ?_
          refine q_st (v := .pointer (some ⟨b11, (o12 + i * 1), none⟩)) (fun w hs => (ixo23 (.tmp rfl rfl) hA15 (i := ((i : Nat) : Int)) (.tmp rfl rfl) (by omega) (by omega) (by omega))) ?_
          refine q_yes (yl (dj := 56) (b := false) rfl rfl (congrArg Value.bool hc76)) ?_
          refine q_st (v := .slice A18 n19 c20) (fun w hs => (ld25 (.tmp rfl rfl) ((hat17x hs).cell 0 rfl))) ?_
          refine q_yes (yl (dj := 56) (b := false) rfl rfl (congrArg Value.bool hc76)) ?_
          refine q_st (v := .int .i64 ((k : Nat) : Int)) (fun w hs => (x_move (.tmp rfl hρ27))) ?_
          refine q_yes (yl (dj := 56) (b := false) rfl rfl (congrArg Value.bool hc76)) ?_
          refine q_st (v := .pointer (some ⟨b36, (o37 + k * 2), none⟩)) (fun w hs => (ixo25 (.tmp rfl rfl) hA40 (i := ((k : Nat) : Int)) (.tmp rfl rfl) (by omega) (by omega) (by omega))) ?_
          refine q_yes (yl (dj := 56) (b := false) rfl rfl (congrArg Value.bool hc76)) ?_
          refine q_st (v := .pointer (some ⟨b36, (o37 + k * 2) + 1, none⟩)) (fun w hs => (fa34_1 (.tmp rfl rfl))) ?_
          refine q_yes (yl (dj := 56) (b := false) rfl rfl (congrArg Value.bool hc76)) ?_
          refine q_st (v := .slice A45 n46 c47) (fun w hs => (ld30 (.tmp rfl rfl) ((hat42x hs).cell 1 rfl))) ?_
          refine q_yes (yl (dj := 56) (b := false) rfl rfl (congrArg Value.bool hc76)) ?_
          refine q_st (v := .string (bstr e35.M)) (fun w hs => (hy48.toBs.str Tryd.underlying30 Tryd.underlying5 Tryd.underlying9 hs (.tmp rfl rfl))) ?_
          refine q_yes (yl (dj := 56) (b := false) rfl rfl (congrArg Value.bool hc76)) ?_
          refine q_st (v := .bool (!decide ((bstr e65.M) = (bstr e35.M)))) (fun w hs => (x_neqS (.tmp rfl rfl) (.tmp rfl rfl))) ?_
          refine q_st (v := .bool (!decide ((bstr e65.M) = (bstr e35.M)))) (fun w hs => (x_pick_f (.tmp rfl (congrArg Value.bool hc76)) (.tmp rfl rfl))) ?_
          refine q_nil ?_
          intro w hs84
          refine n_then ?_
          rcases Bool.eq_false_or_eq_true (decide ((bstr e65.M) = (bstr e35.M))) with hc85 | hc85
          · have hp85 : (bstr e65.M) = (bstr e35.M) := of_decide_eq_true hc85
            refine c_cond_f (t := false) (.tmp rfl (congrArg Value.bool (by rw [hc85]; rfl))) rfl ?_
            refine c_skip ?_
            refine n_block ?_
            refine n_then ?_
            refine c_region ?_
            refine st (v := .int .i64 ((k : Nat) : Int)) (x_move (.tmp rfl hρ27)) ?_
            refine st (v := .int .i64 (((k + 1) : Nat) : Int)) (x_add (k := .i64) (a := ((k : Nat) : Int)) (b := 1) (.tmp rfl rfl) .const ((w64 (by omega) (by omega)).trans (by omega))) ?_
            refine st (v := .int .i64 (((k + 1) : Nat) : Int)) (x_assign (.tmp rfl rfl)) ?_
            refine c_nil ?_
            refine n_then ⟨_, _, rfl, ?_, (k + 1), (s2 ++ [e35]), v54, cs56, hρ23, hρ24, rfl, hρ26, rfl, ok57, hk58, (by omega), hs3, (ext_next hs3 ht hx67 hx39 (item_eq2 (by omega) ((bstr_inj hy75.lt hy48.lt).1 hp85))), (hs84.pick 1 rfl rfl).drop, rfl⟩
            omega
          · have hp85 : ¬ ((bstr e65.M) = (bstr e35.M)) := of_decide_eq_false hc85
            refine c_cond_t (t := true) (.tmp rfl (congrArg Value.bool (by rw [hc85]; rfl))) rfl ?_
            refine c_seq ?_
            refine c_region ?_
            refine st (v := .slice none 0 0) (x_assign .const) ?_
            refine st (v := .bool false) (x_assign .const) ?_
            refine c_nil ?_
            refine n_then ?_
            refine c_ret ?_
            refine r_block ?_
            refine r_then ?_
            refine r_then ?_
            refine r_block ?_
            refine r_block ?_
            refine r_then ?_
            refine r_then ?_
            refine r_block ?_
            refine r_then ?_
            refine leave_ret (res_two (v := .slice none 0 0) (u := .bool false) rfl (.mk rfl rfl) (.mk rfl rfl)) ?_
            have hans86 : totS acc del = ([], false) := one_bad (i := i) (by rw [← hs0]; exact hs3) hx14 hx67 hx39 (item_ne_m hp85)
            rw [hans86]
            have hs87 : St H _ (row 34 2 (.slice none 0 0) (([] : List GItem).length) [] :: row 34 2 v54 ((s2 ++ [e35]).length) cs56 :: obj g49 34 [.int .i64 e35.From, .slice A45 n46 c47] :: L) := hs84.krowNil 34 kItem
            exact ⟨(.slice none 0 0), [], rfl, (RowOk.knil kItem), (Kn.rows_nil _ _), ((hs87.pick 1 rfl rfl).drop.pick 1 rfl rfl).drop⟩
      · have hp34 : ¬ ((((k : Nat) : Int) : Int) = ((s2.length : Nat) : Int)) := of_decide_eq_false hc34
        refine c_cond_f (t := false) (.tmp rfl (congrArg Value.bool hc34)) rfl ?_
        refine c_skip ?_
        refine n_then ?_
        refine c_seq ?_
        refine q_region mixed hs28 (by kernel_rfl) ?_
        have hs3 : s2 = extS s e10 (k + 1) := extS_stay hs2 (by omega) (by omega)
        refine q_st (v := v_s2) (fun w hs => (x_move (.tmp rfl hρ25))) ?_
        refine q_st (v := .int .i64 ((k : Nat) : Int)) (fun w hs => (x_move (.tmp rfl hρ27))) ?_
        obtain ⟨g89, c90, hv91⟩ := ok_s2.pos (by omega)
        obtain ⟨e92, cs93, hx94, hr95, hsub96⟩ := Kn.rows_get (i := k) hk_s2 (by omega)
        obtain ⟨A99, n100, c101, rfl, ⟨b97, b98⟩, hy102⟩ := hr95
        have := hy102.len; have := hy102.bnd; have := hy102.le
        refine q_st (v := .pointer (some ⟨g89, (k * 2), none⟩)) (fun w hs => (ixo25 (.tmp rfl hv91) rfl (i := ((k : Nat) : Int)) (.tmp rfl rfl) (by omega) (by omega) (by omega))) ?_
        refine q_st (v := .pointer (some ⟨g89, (k * 2) + 0, none⟩)) (fun w hs => (fa34_0 (.tmp rfl rfl))) ?_
        refine q_st (v := .int .i64 e92.From) (fun w hs => (ld3 (.tmp rfl rfl) ((hs.rowAt 0 rfl hv91 (k * 2) hsub96).cell 0 rfl))) ?_
        refine q_st (v := .slice A_del n_del c_del) (fun w hs => (x_move (.tmp rfl hρ24))) ?_
        refine q_st (v := .int .i64 ((i : Nat) : Int)) (fun w hs => (x_move (.tmp rfl hρ26))) ?_
        refine q_st (v := .pointer (some ⟨b11, (o12 + i * 1), none⟩)) (fun w hs => (ixo23 (.tmp rfl rfl) hA15 (i := ((i : Nat) : Int)) (.tmp rfl rfl) (by omega) (by omega) (by omega))) ?_
        refine q_st (v := .slice A18 n19 c20) (fun w hs => (ld25 (.tmp rfl rfl) ((hat17x hs).cell 0 rfl))) ?_
        refine q_st (v := .int .i64 ((k : Nat) : Int)) (fun w hs => (x_move (.tmp rfl hρ27))) ?_
        obtain ⟨e103, b104, o105, cs106, hx107, hA108, hr109, hat110⟩ := hl21.get (i := k) (by omega)
        obtain ⟨A113, n114, c115, rfl, ⟨b111, b112⟩, hy116⟩ := hr109
        have := hy116.len; have := hy116.bnd; have := hy116.le
        have hat110x : ∀ {w : World} {L : List Res}, St H w L → At w ⟨b104, o105 + k * 2, none⟩ [.int .i64 e103.From, .slice A113 n114 c115] := fun h => hat110 h
        refine q_st (v := .pointer (some ⟨b104, (o105 + k * 2), none⟩)) (fun w hs => (ixo25 (.tmp rfl rfl) hA108 (i := ((k : Nat) : Int)) (.tmp rfl rfl) (by omega) (by omega) (by omega))) ?_
        refine q_st (v := .pointer (some ⟨b104, (o105 + k * 2) + 0, none⟩)) (fun w hs => (fa34_0 (.tmp rfl rfl))) ?_
        refine q_st (v := .int .i64 e103.From) (fun w hs => (ld3 (.tmp rfl rfl) ((hat110x hs).cell 0 rfl))) ?_
        refine q_st (v := .bool (decide ((e92.From : Int) ≠ e103.From))) (fun w hs => (x_neq (k := .i64) (a := e92.From) (b := e103.From) (.tmp rfl rfl) (.tmp rfl rfl))) ?_
        refine q_st (v := .bool (decide ((e92.From : Int) ≠ e103.From))) (fun w hs => (x_move (.tmp rfl rfl))) ?_
        rcases Bool.eq_false_or_eq_true (decide ((e92.From : Int) ≠ e103.From)) with hc117 | hc117
        · have hp117 : (e92.From : Int) ≠ e103.From := of_decide_eq_true hc117
          refine q_no (yl (dj := 56) (b := true) rfl rfl (congrArg Value.bool hc117)) rfl ?_
          refine q_no (yl (dj := 56) (b := true) rfl rfl (congrArg Value.bool hc117)) rfl ?_
          refine q_no (yl (dj := 56) (b := true) rfl rfl (congrArg Value.bool hc117)) rfl ?_
          refine q_no (yl (dj := 56) (b := true) rfl rfl (congrArg Value.bool hc117)) rfl ?_
          refine q_no (yl (dj := 56) (b := true) rfl rfl (congrArg Value.bool hc117)) rfl ?_
          refine q_no (yl (dj := 56) (b := true) rfl rfl (congrArg Value.bool hc117)) rfl ?_
          refine q_no (yl (dj := 56) (b := true) rfl rfl (congrArg Value.bool hc117)) rfl ?_
          refine q_no (yl (dj := 56) (b := true) rfl rfl (congrArg Value.bool hc117)) rfl ?_
          refine q_no (yl (dj := 56) (b := true) rfl rfl (congrArg Value.bool hc117)) rfl ?_
          refine q_no (yl (dj := 56) (b := true) rfl rfl (congrArg Value.bool hc117)) rfl ?_
          refine q_no (yl (dj := 56) (b := true) rfl rfl (congrArg Value.bool hc117)) rfl ?_
          refine q_no (yl (dj := 56) (b := true) rfl rfl (congrArg Value.bool hc117)) rfl ?_
          refine q_no (yl (dj := 56) (b := true) rfl rfl (congrArg Value.bool hc117)) rfl ?_
          refine q_no (yl (dj := 56) (b := true) rfl rfl (congrArg Value.bool hc117)) rfl ?_
          refine q_no (yl (dj := 56) (b := true) rfl rfl (congrArg Value.bool hc117)) rfl ?_
          refine q_no (yl (dj := 56) (b := true) rfl rfl (congrArg Value.bool hc117)) rfl ?_
          refine q_st (v := .bool true) (fun w hs => (x_pick_t (.tmp rfl (congrArg Value.bool hc117)) .const)) ?_
          refine q_nil ?_
          intro w hs118
          refine n_then ?_
          refine c_cond_t (t := true) (.tmp rfl rfl) rfl ?_
          refine c_seq ?_
          refine c_region ?_
          refine st (v := .slice none 0 0) (x_assign .const) ?_
          refine st (v := .bool false) (x_assign .const) ?_
          refine c_nil ?_
          refine n_then ?_
          refine c_ret ?_
          refine r_block ?_
          refine r_then ?_
          refine r_then ?_
          refine r_block ?_
          refine r_block ?_
          refine r_then ?_
          refine r_then ?_
          refine r_block ?_
          refine r_then ?_
          refine leave_ret (res_two (v := .slice none 0 0) (u := .bool false) rfl (.mk rfl rfl) (.mk rfl rfl)) ?_
          have hans119 : totS acc del = ([], false) := one_bad (i := i) (by rw [← hs0]; exact hs3) hx14 hx94 hx107 (item_ne_from (by omega))
          rw [hans119]
          have hs120 : St H _ (row 34 2 (.slice none 0 0) (([] : List GItem).length) [] :: row 34 2 v_s2 s2.length c_s2 :: L) := hs118.krowNil 34 kItem
          exact ⟨(.slice none 0 0), [], rfl, (RowOk.knil kItem), (Kn.rows_nil _ _), (hs120.pick 1 rfl rfl).drop⟩
        · have hp117 : ¬ ((e92.From : Int) ≠ e103.From) := of_decide_eq_false hc117
          refine q_yes (yl (dj := 56) (b := false) rfl rfl (congrArg Value.bool hc117)) ?_
          refine q_st (v := v_s2) (fun w hs => (x_move (.tmp rfl hρ25))) ?_
          refine q_yes (yl (dj := 56) (b := false) rfl rfl (congrArg Value.bool hc117)) ?_
          refine q_st (v := .int .i64 ((k : Nat) : Int)) (fun w hs => (x_move (.tmp rfl hρ27))) ?_
          refine q_yes (yl (dj := 56) (b := false) rfl rfl (congrArg Value.bool hc117)) ?_
          obtain ⟨g122, c123, hv124⟩ := ok_s2.pos (by omega)
          refine q_st (v := .pointer (some ⟨g122, (k * 2), none⟩)) (fun w hs => (ixo25 (.tmp rfl hv124) rfl (i := ((k : Nat) : Int)) (.tmp rfl rfl) (by omega) (by omega) (by omega))) ?_
          refine q_yes (yl (dj := 56) (b := false) rfl rfl (congrArg Value.bool hc117)) ?_
          refine q_st (v := .pointer (some ⟨g122, (k * 2) + 1, none⟩)) (fun w hs => (fa34_1 (.tmp rfl rfl))) ?_
          refine q_yes (yl (dj := 56) (b := false) rfl rfl (congrArg Value.bool hc117)) ?_
          refine q_st (v := .slice A99 n100 c101) (fun w hs => (ld30 (.tmp rfl rfl) ((hs.rowAt 0 rfl hv124 (k * 2) hsub96).cell 1 rfl))) ?_
          refine q_yes (yl (dj := 56) (b := false) rfl rfl (congrArg Value.bool hc117)) ?_
          refine q_st (v := .string (bstr e92.M)) (fun w hs => (hy102.toBs.str Tryd.underlying30 Tryd.underlying5 Tryd.underlying9 hs (.tmp rfl rfl))) ?_
          refine q_yes (yl (dj := 56) (b := false) rfl rfl (congrArg Value.bool hc117)) ?_
          refine q_st (v := .slice A_del n_del c_del) (fun w hs => (x_move (.tmp rfl hρ24))) ?_
          refine q_yes (yl (dj := 56) (b := false) rfl rfl (congrArg Value.bool hc117)) ?_
          refine q_st (v := .int .i64 ((i : Nat) : Int)) (fun w hs => (x_move (.tmp rfl hρ26))) ?_
          refine q_yes (yl (dj := 56) (b := false) rfl rfl (congrArg Value.bool hc117)) ?_
          refine q_st (v := .pointer (some ⟨b11, (o12 + i * 1), none⟩)) (fun w hs => (ixo23 (.tmp rfl rfl) hA15 (i := ((i : Nat) : Int)) (.tmp rfl rfl) (by omega) (by omega) (by omega))) ?_
          refine q_yes (yl (dj := 56) (b := false) rfl rfl (congrArg Value.bool hc117)) ?_
          refine q_st (v := .slice A18 n19 c20) (fun w hs => (ld25 (.tmp rfl rfl) ((hat17x hs).cell 0 rfl))) ?_
          refine q_yes (yl (dj := 56) (b := false) rfl rfl (congrArg Value.bool hc117)) ?_
          refine q_st (v := .int .i64 ((k : Nat) : Int)) (fun w hs => (x_move (.tmp rfl hρ27))) ?_
          refine q_yes (yl (dj := 56) (b := false) rfl rfl (congrArg Value.bool hc117)) ?_
          refine q_st (v := .pointer (some ⟨b104, (o105 + k * 2), none⟩)) (fun w hs => (ixo25 (.tmp rfl rfl) hA108 (i := ((k : Nat) : Int)) (.tmp rfl rfl) (by omega) (by omega) (by omega))) ?_
          refine q_yes (yl (dj := 56) (b := false) rfl rfl (congrArg Value.bool hc117)) ?_
          refine q_st (v := .pointer (some ⟨b104, (o105 + k * 2) + 1, none⟩)) (fun w hs => (fa34_1 (.tmp rfl rfl))) ?_
          refine q_yes (yl (dj := 56) (b := false) rfl rfl (congrArg Value.bool hc117)) ?_
          refine q_st (v := .slice A113 n114 c115) (fun w hs => (ld30 (.tmp rfl rfl) ((hat110x hs).cell 1 rfl))) ?_
          refine q_yes (yl (dj := 56) (b := false) rfl rfl (congrArg Value.bool hc117)) ?_
          refine q_st (v := .string (bstr e103.M)) (fun w hs => (hy116.toBs.str Tryd.underlying30 Tryd.underlying5 Tryd.underlying9 hs (.tmp rfl rfl))) ?_
          refine q_yes (yl (dj := 56) (b := false) rfl rfl (congrArg Value.bool hc117)) ?_
          refine q_st (v := .bool (!decide ((bstr e92.M) = (bstr e103.M)))) (fun w hs => (x_neqS (.tmp rfl rfl) (.tmp rfl rfl))) ?_
          refine q_st (v := .bool (!decide ((bstr e92.M) = (bstr e103.M)))) (fun w hs => (x_pick_f (.tmp rfl (congrArg Value.bool hc117)) (.tmp rfl rfl))) ?_
          refine q_nil ?_
          intro w hs125
          refine n_then ?_
          rcases Bool.eq_false_or_eq_true (decide ((bstr e92.M) = (bstr e103.M))) with hc126 | hc126
          · have hp126 : (bstr e92.M) = (bstr e103.M) := of_decide_eq_true hc126
            refine c_cond_f (t := false) (.tmp rfl (congrArg Value.bool (by rw [hc126]; rfl))) rfl ?_
            refine c_skip ?_
            refine n_block ?_
            refine n_then ?_
            refine c_region ?_
            refine st (v := .int .i64 ((k : Nat) : Int)) (x_move (.tmp rfl hρ27)) ?_
            refine st (v := .int .i64 (((k + 1) : Nat) : Int)) (x_add (k := .i64) (a := ((k : Nat) : Int)) (b := 1) (.tmp rfl rfl) .const ((w64 (by omega) (by omega)).trans (by omega))) ?_
            refine st (v := .int .i64 (((k + 1) : Nat) : Int)) (x_assign (.tmp rfl rfl)) ?_
            refine c_nil ?_
            refine n_then ⟨_, _, rfl, ?_, (k + 1), s2, v_s2, c_s2, hρ23, hρ24, hρ25, hρ26, rfl, ok_s2, hk_s2, (by omega), hs3, (ext_next hs3 ht hx94 hx107 (item_eq2 (by omega) ((bstr_inj hy102.lt hy116.lt).1 hp126))), hs125, rfl⟩
            omega
          · have hp126 : ¬ ((bstr e92.M) = (bstr e103.M)) := of_decide_eq_false hc126
            refine c_cond_t (t := true) (.tmp rfl (congrArg Value.bool (by rw [hc126]; rfl))) rfl ?_
            refine c_seq ?_
            refine c_region ?_
            refine st (v := .slice none 0 0) (x_assign .const) ?_
            refine st (v := .bool false) (x_assign .const) ?_
            refine c_nil ?_
            refine n_then ?_
            refine c_ret ?_
            refine r_block ?_
            refine r_then ?_
            refine r_then ?_
            refine r_block ?_
            refine r_block ?_
            refine r_then ?_
            refine r_then ?_
            refine r_block ?_
            refine r_then ?_
            refine leave_ret (res_two (v := .slice none 0 0) (u := .bool false) rfl (.mk rfl rfl) (.mk rfl rfl)) ?_
            have hans127 : totS acc del = ([], false) := one_bad (i := i) (by rw [← hs0]; exact hs3) hx14 hx94 hx107 (item_ne_m hp126)
            rw [hans127]
            have hs128 : St H _ (row 34 2 (.slice none 0 0) (([] : List GItem).length) [] :: row 34 2 v_s2 s2.length c_s2 :: L) := hs125.krowNil 34 kItem
            exact ⟨(.slice none 0 0), [], rfl, (RowOk.knil kItem), (Kn.rows_nil _ _), (hs128.pick 1 rfl rfl).drop⟩
    · have hp29 : ¬ ((((k : Nat) : Int) : Int) < ((n19 : Nat) : Int)) := of_decide_eq_false hc29
      refine c_cond_f (t := false) (.tmp rfl (congrArg Value.bool hc29)) rfl ?_
      refine c_exit ?_
      refine x_then ?_
      refine x_then ?_
      refine x_here ?_
      refine n_block ?_
      refine n_then ?_
      refine c_region ?_
      refine st (v := .int .i64 ((i : Nat) : Int)) (x_move (.tmp rfl hρ26)) ?_
      refine st (v := .int .i64 (((i + 1) : Nat) : Int)) (x_add (k := .i64) (a := ((i : Nat) : Int)) (b := 1) (.tmp rfl rfl) .const ((w64 (by omega) (by omega)).trans (by omega))) ?_
      refine st (v := .int .i64 (((i + 1) : Nat) : Int)) (x_assign (.tmp rfl rfl)) ?_
      refine c_nil ?_
      have hke : k = e10.length := by omega
      refine n_then ⟨_, _, rfl, ?_, (i + 1), s2, v_s2, c_s2, hρ23, hρ24, hρ25, rfl, ok_s2, hk_s2, (by omega), (by rw [longTo_next hx14, ← hs0, hs2, hke, extS_end]), (pre_next hp hx14 (by rw [← hs0, ← hke]; exact ht)), (by rw [hs2, hke, extS_end, longStep_len]; omega), hs28, rfl⟩
      omega
  · have hp9 : ¬ ((((i : Nat) : Int) : Int) < ((n_del : Nat) : Int)) := of_decide_eq_false hc9
    refine c_cond_f (t := false) (.tmp rfl (congrArg Value.bool hc9)) rfl ?_
    refine c_exit ?_
    refine x_then ?_
    refine x_then ?_
    refine x_here ?_
    refine n_then ?_
    refine c_seq ?_
    refine c_seq ?_
    refine c_region ?_
    have hS : s = longS del := by rw [hs0]; unfold longS; rw [show i = del.length by omega]
    refine st (v := .int .i64 0) (x_assign .const) ?_
    refine c_nil ?_
    refine n_then ?_
    refine c_block ?_
    refine c_loop (fun ρ w mm => ∃ (q : Nat), ρ 0 = .slice A_acc n_acc c_acc ∧ ρ 6 = v_s ∧ ρ 9 = .int .i64 ((q : Nat) : Int) ∧ (q ≤ s.length) ∧ (∀ (j : Nat) (y : GItem), j < q → s[j]? = some y → decide (0 ≤ y.From ∧ y.From < (n_acc : Int)) = true) ∧ St H w (row 34 2 v_s s.length c_s :: L) ∧ mm = s.length - q) _ ⟨0, hρ4, hρ6, rfl, (by omega), (fun j y h _ => absurd h (Nat.not_lt_zero _)), hs8, rfl⟩ ?_
    rintro ρ w mm ⟨q, hρ131, hρ132, hρ133, hq, hfr, hs134, rfl⟩
    refine c_seq ?_
    refine c_seq ?_
    refine c_region ?_
    refine st (v := .int .i64 ((q : Nat) : Int)) (x_move (.tmp rfl hρ133)) ?_
    refine st (v := v_s) (x_move (.tmp rfl hρ132)) ?_
    obtain ⟨A135, c136, hv137, hc138⟩ := ok_s.slice
    refine st (v := .int .i64 ((s.length : Nat) : Int)) (x_len (n := s.length) Tryd.underlying25 (.tmp rfl hv137)) ?_
    refine st (v := .bool (decide ((((q : Nat) : Int) : Int) < ((s.length : Nat) : Int)))) (x_lss (k := .i64) (a := ((q : Nat) : Int)) (b := ((s.length : Nat) : Int)) (.tmp rfl rfl) (.tmp rfl rfl)) ?_
    refine c_nil ?_
    refine n_then ?_
    rcases Bool.eq_false_or_eq_true (decide ((((q : Nat) : Int) : Int) < ((s.length : Nat) : Int))) with hc139 | hc139
    · have hp139 : (((q : Nat) : Int) : Int) < ((s.length : Nat) : Int) := of_decide_eq_true hc139
      refine c_cond_t (t := true) (.tmp rfl (congrArg Value.bool hc139)) rfl ?_
      refine c_skip ?_
      refine n_then ?_
      refine c_seq ?_
      refine c_block ?_
      refine c_seq ?_
      refine c_region ?_
      refine st (v := v_s) (x_move (.tmp rfl hρ132)) ?_
      refine st (v := .int .i64 ((q : Nat) : Int)) (x_move (.tmp rfl hρ133)) ?_
      obtain ⟨g140, c141, hv142⟩ := ok_s.pos (by omega)
      obtain ⟨e143, cs144, hx145, hr146, hsub147⟩ := Kn.rows_get (i := q) hk_s (by omega)
      obtain ⟨A150, n151, c152, rfl, ⟨b148, b149⟩, hy153⟩ := hr146
      have := hy153.len; have := hy153.bnd; have := hy153.le
      refine st (v := .pointer (some ⟨g140, (q * 2), none⟩)) (ixo25 (.tmp rfl hv142) rfl (i := ((q : Nat) : Int)) (.tmp rfl rfl) (by omega) (by omega) (by omega)) ?_
      refine st (v := .pointer (some ⟨g140, (q * 2) + 0, none⟩)) (fa34_0 (.tmp rfl rfl)) ?_
      refine st (v := .int .i64 e143.From) (ld3 (.tmp rfl rfl) ((hs134.rowAt 0 rfl hv142 (q * 2) hsub147).cell 0 rfl)) ?_
      refine st (v := .bool (decide ((e143.From : Int) < 0))) (x_lss (k := .i64) (a := e143.From) (b := 0) (.tmp rfl rfl) .const) ?_
      refine st (v := .bool (decide ((e143.From : Int) < 0))) (x_move (.tmp rfl rfl)) ?_
      rcases Bool.eq_false_or_eq_true (decide ((e143.From : Int) < 0)) with hc154 | hc154
      · have hp154 : (e143.From : Int) < 0 := of_decide_eq_true hc154
        refine g_no (yl (dj := 86) (b := true) rfl rfl (congrArg Value.bool hc154)) rfl ?_
        refine g_no (yl (dj := 86) (b := true) rfl rfl (congrArg Value.bool hc154)) rfl ?_
        refine g_no (yl (dj := 86) (b := true) rfl rfl (congrArg Value.bool hc154)) rfl ?_
        refine g_no (yl (dj := 86) (b := true) rfl rfl (congrArg Value.bool hc154)) rfl ?_
        refine g_no (yl (dj := 86) (b := true) rfl rfl (congrArg Value.bool hc154)) rfl ?_
        refine g_no (yl (dj := 86) (b := true) rfl rfl (congrArg Value.bool hc154)) rfl ?_
        refine g_no (yl (dj := 86) (b := true) rfl rfl (congrArg Value.bool hc154)) rfl ?_
        refine g_no (yl (dj := 86) (b := true) rfl rfl (congrArg Value.bool hc154)) rfl ?_
        refine st (v := .bool true) (x_pick_t (.tmp rfl (congrArg Value.bool hc154)) .const) ?_
        refine c_nil ?_
        refine n_then ?_
        refine c_cond_t (t := true) (.tmp rfl rfl) rfl ?_
        refine c_seq ?_
        refine c_region ?_
        refine st (v := .slice none 0 0) (x_assign .const) ?_
        refine st (v := .bool false) (x_assign .const) ?_
        refine c_nil ?_
        refine n_then ?_
        refine c_ret ?_
        refine r_block ?_
        refine r_then ?_
        refine r_then ?_
        refine r_block ?_
        refine r_then ?_
        refine leave_ret (res_two (v := .slice none 0 0) (u := .bool false) rfl (.mk rfl rfl) (.mk rfl rfl)) ?_
        have hans155 : totS acc del = ([], false) := totS_no2 (by rw [← hS]; exact okAll_no (j := q) (by omega) (okAt_from hx145 (by omega)))
        rw [hans155]
        have hs156 : St H _ (row 34 2 (.slice none 0 0) (([] : List GItem).length) [] :: row 34 2 v_s s.length c_s :: L) := hs134.krowNil 34 kItem
        exact ⟨(.slice none 0 0), [], rfl, (RowOk.knil kItem), (Kn.rows_nil _ _), (hs156.pick 1 rfl rfl).drop⟩
      · have hp154 : ¬ ((e143.From : Int) < 0) := of_decide_eq_false hc154
        refine g_yes (yl (dj := 86) (b := false) rfl rfl (congrArg Value.bool hc154)) ?_
        refine st (v := v_s) (x_move (.tmp rfl hρ132)) ?_
        refine g_yes (yl (dj := 86) (b := false) rfl rfl (congrArg Value.bool hc154)) ?_
        refine st (v := .int .i64 ((q : Nat) : Int)) (x_move (.tmp rfl hρ133)) ?_
        refine g_yes (yl (dj := 86) (b := false) rfl rfl (congrArg Value.bool hc154)) ?_
        obtain ⟨g158, c159, hv160⟩ := ok_s.pos (by omega)
        refine st (v := .pointer (some ⟨g158, (q * 2), none⟩)) (ixo25 (.tmp rfl hv160) rfl (i := ((q : Nat) : Int)) (.tmp rfl rfl) (by omega) (by omega) (by omega)) ?_
        refine g_yes (yl (dj := 86) (b := false) rfl rfl (congrArg Value.bool hc154)) ?_
        refine st (v := .pointer (some ⟨g158, (q * 2) + 0, none⟩)) (fa34_0 (.tmp rfl rfl)) ?_
        refine g_yes (yl (dj := 86) (b := false) rfl rfl (congrArg Value.bool hc154)) ?_
        refine st (v := .int .i64 e143.From) (ld3 (.tmp rfl rfl) ((hs134.rowAt 0 rfl hv160 (q * 2) hsub147).cell 0 rfl)) ?_
        refine g_yes (yl (dj := 86) (b := false) rfl rfl (congrArg Value.bool hc154)) ?_
        refine st (v := .slice A_acc n_acc c_acc) (x_move (.tmp rfl hρ131)) ?_
        refine g_yes (yl (dj := 86) (b := false) rfl rfl (congrArg Value.bool hc154)) ?_
        refine st (v := .int .i64 ((n_acc : Nat) : Int)) (x_len (n := n_acc) Tryd.underlying22 (.tmp rfl rfl)) ?_
        refine g_yes (yl (dj := 86) (b := false) rfl rfl (congrArg Value.bool hc154)) ?_
        refine st (v := .bool (decide ((((n_acc : Nat) : Int) : Int) ≤ e143.From))) (x_geq (k := .i64) (a := e143.From) (b := ((n_acc : Nat) : Int)) (.tmp rfl rfl) (.tmp rfl rfl)) ?_
        refine st (v := .bool (decide ((((n_acc : Nat) : Int) : Int) ≤ e143.From))) (x_pick_f (.tmp rfl (congrArg Value.bool hc154)) (.tmp rfl rfl)) ?_
        refine c_nil ?_
        refine n_then ?_
        rcases Bool.eq_false_or_eq_true (decide ((((n_acc : Nat) : Int) : Int) ≤ e143.From)) with hc161 | hc161
        · have hp161 : (((n_acc : Nat) : Int) : Int) ≤ e143.From := of_decide_eq_true hc161
          refine c_cond_t (t := true) (.tmp rfl (congrArg Value.bool hc161)) rfl ?_
          refine c_seq ?_
          refine c_region ?_
          refine st (v := .slice none 0 0) (x_assign .const) ?_
          refine st (v := .bool false) (x_assign .const) ?_
          refine c_nil ?_
          refine n_then ?_
          refine c_ret ?_
          refine r_block ?_
          refine r_then ?_
          refine r_then ?_
          refine r_block ?_
          refine r_then ?_
          refine leave_ret (res_two (v := .slice none 0 0) (u := .bool false) rfl (.mk rfl rfl) (.mk rfl rfl)) ?_
          have hans162 : totS acc del = ([], false) := totS_no2 (by rw [← hS]; exact okAll_no (j := q) (by omega) (okAt_from hx145 (by omega)))
          rw [hans162]
          have hs163 : St H _ (row 34 2 (.slice none 0 0) (([] : List GItem).length) [] :: row 34 2 v_s s.length c_s :: L) := hs134.krowNil 34 kItem
          exact ⟨(.slice none 0 0), [], rfl, (RowOk.knil kItem), (Kn.rows_nil _ _), (hs163.pick 1 rfl rfl).drop⟩
        · have hp161 : ¬ ((((n_acc : Nat) : Int) : Int) ≤ e143.From) := of_decide_eq_false hc161
          refine c_cond_f (t := false) (.tmp rfl (congrArg Value.bool hc161)) rfl ?_
          refine c_skip ?_
          refine n_block ?_
          refine n_then ?_
          refine c_region ?_
          refine st (v := .int .i64 ((q : Nat) : Int)) (x_move (.tmp rfl hρ133)) ?_
          refine st (v := .int .i64 (((q + 1) : Nat) : Int)) (x_add (k := .i64) (a := ((q : Nat) : Int)) (b := 1) (.tmp rfl rfl) .const ((w64 (by omega) (by omega)).trans (by omega))) ?_
          refine st (v := .int .i64 (((q + 1) : Nat) : Int)) (x_assign (.tmp rfl rfl)) ?_
          refine c_nil ?_
          refine n_then ⟨_, _, rfl, ?_, (q + 1), hρ131, hρ132, rfl, (by omega), (next_all hfr hx145 (decide_eq_true (by omega))), hs134, rfl⟩
          omega
    · have hp139 : ¬ ((((q : Nat) : Int) : Int) < ((s.length : Nat) : Int)) := of_decide_eq_false hc139
      refine c_cond_f (t := false) (.tmp rfl (congrArg Value.bool hc139)) rfl ?_
      refine c_exit ?_
      refine x_then ?_
      refine x_then ?_
      refine x_here ?_
      refine n_then ?_
      refine c_seq ?_
      refine c_seq ?_
      refine c_region ?_
      refine st (v := .int .i64 0) (x_assign .const) ?_
      refine c_nil ?_
      refine n_then ?_
      refine c_block ?_
      refine c_loop (fun ρ w mm => ∃ (v : Nat), ρ 0 = .slice A_acc n_acc c_acc ∧ ρ 6 = v_s ∧ ρ 10 = .int .i64 ((v : Nat) : Int) ∧ (v ≤ n_acc) ∧ (∀ (m : Nat) (y : GItem), s[m]? = some y → 0 ≤ y.From → y.From < ((v : Nat) : Int) → okAt acc s m = true) ∧ St H w (row 34 2 v_s s.length c_s :: L) ∧ mm = n_acc - v) _ ⟨0, hρ131, hρ132, rfl, (by omega), (fun m y _ h0 h => absurd h (by omega)), hs134, rfl⟩ ?_
      rintro ρ w mm ⟨v, hρ166, hρ167, hρ168, hv, hb, hs169, rfl⟩
      refine c_seq ?_
      refine c_seq ?_
      refine c_region ?_
      refine st (v := .int .i64 ((v : Nat) : Int)) (x_move (.tmp rfl hρ168)) ?_
      refine st (v := .slice A_acc n_acc c_acc) (x_move (.tmp rfl hρ166)) ?_
      refine st (v := .int .i64 ((n_acc : Nat) : Int)) (x_len (n := n_acc) Tryd.underlying22 (.tmp rfl rfl)) ?_
      refine st (v := .bool (decide ((((v : Nat) : Int) : Int) < ((n_acc : Nat) : Int)))) (x_lss (k := .i64) (a := ((v : Nat) : Int)) (b := ((n_acc : Nat) : Int)) (.tmp rfl rfl) (.tmp rfl rfl)) ?_
      refine c_nil ?_
      refine n_then ?_
      rcases Bool.eq_false_or_eq_true (decide ((((v : Nat) : Int) : Int) < ((n_acc : Nat) : Int))) with hc170 | hc170
      · have hp170 : (((v : Nat) : Int) : Int) < ((n_acc : Nat) : Int) := of_decide_eq_true hc170
        refine c_cond_t (t := true) (.tmp rfl (congrArg Value.bool hc170)) rfl ?_
        refine c_skip ?_
        refine n_then ?_
        refine c_seq ?_
        refine c_block ?_
        refine c_seq ?_
        refine c_region ?_
        refine st (v := .int .i64 0) (x_assign .const) ?_
        refine c_nil ?_
        refine n_then ?_
        refine c_seq ?_
        refine c_region ?_
        refine st (v := .int .i64 0) (x_assign .const) ?_
        refine c_nil ?_
        refine n_then ?_
        refine c_block ?_
        refine c_loop (fun ρ w mm => ∃ (n : Nat) (k2 : Nat), ρ 0 = .slice A_acc n_acc c_acc ∧ ρ 6 = v_s ∧ ρ 10 = .int .i64 ((v : Nat) : Int) ∧ ρ 11 = .int .i64 ((n : Nat) : Int) ∧ ρ 12 = .int .i64 ((k2 : Nat) : Int) ∧ (k2 ≤ s.length) ∧ (n ≤ k2) ∧ (n = cntI (s.take k2) ((v : Nat) : Int)) ∧ (∀ (m : Nat) (y : GItem), m < k2 → s[m]? = some y → y.From = ((v : Nat) : Int) → okAt acc s m = true) ∧ St H w (row 34 2 v_s s.length c_s :: L) ∧ mm = s.length - k2) _ ⟨0, 0, hρ166, hρ167, hρ168, rfl, rfl, (by omega), (by omega), rfl, (fun m y h => absurd h (Nat.not_lt_zero _)), hs169, rfl⟩ ?_
        rintro ρ w mm ⟨n, k2, hρ172, hρ173, hρ174, hρ175, hρ176, hk2, hnk, hn, hc, hs177, rfl⟩
        refine c_seq ?_
        refine c_seq ?_
        refine c_region ?_
        refine st (v := .int .i64 ((k2 : Nat) : Int)) (x_move (.tmp rfl hρ176)) ?_
        refine st (v := v_s) (x_move (.tmp rfl hρ173)) ?_
        obtain ⟨A178, c179, hv180, hc181⟩ := ok_s.slice
        refine st (v := .int .i64 ((s.length : Nat) : Int)) (x_len (n := s.length) Tryd.underlying25 (.tmp rfl hv180)) ?_
        refine st (v := .bool (decide ((((k2 : Nat) : Int) : Int) < ((s.length : Nat) : Int)))) (x_lss (k := .i64) (a := ((k2 : Nat) : Int)) (b := ((s.length : Nat) : Int)) (.tmp rfl rfl) (.tmp rfl rfl)) ?_
        refine c_nil ?_
        refine n_then ?_
        rcases Bool.eq_false_or_eq_true (decide ((((k2 : Nat) : Int) : Int) < ((s.length : Nat) : Int))) with hc182 | hc182
        · have hp182 : (((k2 : Nat) : Int) : Int) < ((s.length : Nat) : Int) := of_decide_eq_true hc182
          refine c_cond_t (t := true) (.tmp rfl (congrArg Value.bool hc182)) rfl ?_
          refine c_skip ?_
          refine n_then ?_
          refine c_seq ?_
          refine c_block ?_
          refine c_seq ?_
          refine c_seq ?_
          refine c_region ?_
          refine st (v := v_s) (x_move (.tmp rfl hρ173)) ?_
          refine st (v := .int .i64 ((k2 : Nat) : Int)) (x_move (.tmp rfl hρ176)) ?_
          obtain ⟨g183, c184, hv185⟩ := ok_s.pos (by omega)
          obtain ⟨e186, cs187, hx188, hr189, hsub190⟩ := Kn.rows_get (i := k2) hk_s (by omega)
          obtain ⟨A193, n194, c195, rfl, ⟨b191, b192⟩, hy196⟩ := hr189
          have := hy196.len; have := hy196.bnd; have := hy196.le
          refine st (v := .pointer (some ⟨g183, (k2 * 2), none⟩)) (ixo25 (.tmp rfl hv185) rfl (i := ((k2 : Nat) : Int)) (.tmp rfl rfl) (by omega) (by omega) (by omega)) ?_
          refine st (v := .pointer (some ⟨g183, (k2 * 2) + 0, none⟩)) (fa34_0 (.tmp rfl rfl)) ?_
          refine st (v := .int .i64 e186.From) (ld3 (.tmp rfl rfl) ((hs177.rowAt 0 rfl hv185 (k2 * 2) hsub190).cell 0 rfl)) ?_
          refine st (v := .int .i64 ((v : Nat) : Int)) (x_move (.tmp rfl hρ174)) ?_
          refine st (v := .bool (decide ((e186.From : Int) ≠ ((v : Nat) : Int)))) (x_neq (k := .i64) (a := e186.From) (b := ((v : Nat) : Int)) (.tmp rfl rfl) (.tmp rfl rfl)) ?_
          refine c_nil ?_
          refine n_then ?_
          rcases Bool.eq_false_or_eq_true (decide ((e186.From : Int) ≠ ((v : Nat) : Int))) with hc197 | hc197
          · have hp197 : (e186.From : Int) ≠ ((v : Nat) : Int) := of_decide_eq_true hc197
            refine c_cond_t (t := true) (.tmp rfl (congrArg Value.bool hc197)) rfl ?_
            refine c_exit ?_
            refine x_then ?_
            refine x_here ?_
            refine n_then ?_
            refine c_region ?_
            refine st (v := .int .i64 ((k2 : Nat) : Int)) (x_move (.tmp rfl hρ176)) ?_
            refine st (v := .int .i64 (((k2 + 1) : Nat) : Int)) (x_add (k := .i64) (a := ((k2 : Nat) : Int)) (b := 1) (.tmp rfl rfl) .const ((w64 (by omega) (by omega)).trans (by omega))) ?_
            refine st (v := .int .i64 (((k2 + 1) : Nat) : Int)) (x_assign (.tmp rfl rfl)) ?_
            refine c_nil ?_
            refine n_then ⟨_, _, rfl, ?_, n, (k2 + 1), hρ172, hρ173, hρ174, hρ175, rfl, (by omega), (by omega), (by rw [cntI_pass hx188 (by omega)]; exact hn), (one_pass hc hx188 (by omega)), hs177, rfl⟩
            omega
          · have hp197 : ¬ ((e186.From : Int) ≠ ((v : Nat) : Int)) := of_decide_eq_false hc197
            refine c_cond_f (t := false) (.tmp rfl (congrArg Value.bool hc197)) rfl ?_
            refine c_skip ?_
            refine n_then ?_
            refine c_seq ?_
            refine c_seq ?_
            refine q_region mixed hs177 (by kernel_rfl) ?_
            refine q_st (v := .int .i64 ((n : Nat) : Int)) (fun w hs => (x_move (.tmp rfl hρ175))) ?_
            refine q_st (v := .slice A_acc n_acc c_acc) (fun w hs => (x_move (.tmp rfl hρ172))) ?_
            refine q_st (v := .int .i64 ((v : Nat) : Int)) (fun w hs => (x_move (.tmp rfl hρ174))) ?_
            obtain ⟨e198, b199, o200, cs201, hx202, hA203, hr204, hat205⟩ := h_acc.get (i := v) (by omega)
            obtain ⟨A206, n207, c208, rfl, hl209⟩ := hr204
            have := hl209.len; have : n207 * 24 ≤ 140737488351232 := hl209.bnd; have := hl209.le
            have hat205x : ∀ {w : World} {L : List Res}, St H w L → At w ⟨b199, o200 + v * 1, none⟩ [.slice A206 n207 c208] := fun h => hat205 h
            refine q_st (v := .pointer (some ⟨b199, (o200 + v * 1), none⟩)) (fun w hs => (ixo22 (.tmp rfl rfl) hA203 (i := ((v : Nat) : Int)) (.tmp rfl rfl) (by omega) (by omega) (by omega))) ?_
            refine q_st (v := .slice A206 n207 c208) (fun w hs => (ld32 (.tmp rfl rfl) ((hat205x hs).cell 0 rfl))) ?_
            refine q_st (v := .int .i64 ((n207 : Nat) : Int)) (fun w hs => (x_len (n := n207) Tryd.underlying32 (.tmp rfl rfl))) ?_
            refine q_st (v := .bool (decide ((((n207 : Nat) : Int) : Int) ≤ ((n : Nat) : Int)))) (fun w hs => (x_geq (k := .i64) (a := ((n : Nat) : Int)) (b := ((n207 : Nat) : Int)) (.tmp rfl rfl) (.tmp rfl rfl))) ?_
            refine q_st (v := .bool (decide ((((n207 : Nat) : Int) : Int) ≤ ((n : Nat) : Int)))) (fun w hs => (x_move (.tmp rfl rfl))) ?_
            rcases Bool.eq_false_or_eq_true (decide ((((n207 : Nat) : Int) : Int) ≤ ((n : Nat) : Int))) with hc210 | hc210
            · have hp210 : (((n207 : Nat) : Int) : Int) ≤ ((n : Nat) : Int) := of_decide_eq_true hc210
              refine q_no (yl (dj := 122) (b := true) rfl rfl (congrArg Value.bool hc210)) rfl ?_
              refine q_no (yl (dj := 122) (b := true) rfl rfl (congrArg Value.bool hc210)) rfl ?_
              refine q_no (yl (dj := 122) (b := true) rfl rfl (congrArg Value.bool hc210)) rfl ?_
              refine q_no (yl (dj := 122) (b := true) rfl rfl (congrArg Value.bool hc210)) rfl ?_
              refine q_no (yl (dj := 122) (b := true) rfl rfl (congrArg Value.bool hc210)) rfl ?_
              refine q_no (yl (dj := 122) (b := true) rfl rfl (congrArg Value.bool hc210)) rfl ?_
              refine q_no (yl (dj := 122) (b := true) rfl rfl (congrArg Value.bool hc210)) rfl ?_
              refine q_no (yl (dj := 122) (b := true) rfl rfl (congrArg Value.bool hc210)) rfl ?_
              refine q_no (yl (dj := 122) (b := true) rfl rfl (congrArg Value.bool hc210)) rfl ?_
              refine q_no (yl (dj := 122) (b := true) rfl rfl (congrArg Value.bool hc210)) rfl ?_
              refine q_no (yl (dj := 122) (b := true) rfl rfl (congrArg Value.bool hc210)) rfl ?_
              refine q_no (yl (dj := 122) (b := true) rfl rfl (congrArg Value.bool hc210)) rfl ?_
              refine q_no (yl (dj := 122) (b := true) rfl rfl (congrArg Value.bool hc210)) rfl ?_
              refine q_no (yl (dj := 122) (b := true) rfl rfl (congrArg Value.bool hc210)) rfl ?_
              refine q_no (yl (dj := 122) (b := true) rfl rfl (congrArg Value.bool hc210)) rfl ?_
              refine q_st (v := .bool true) (fun w hs => (x_pick_t (.tmp rfl (congrArg Value.bool hc210)) .const)) ?_
              refine q_nil ?_
              intro w hs211
              refine n_then ?_
              refine c_cond_t (t := true) (.tmp rfl rfl) rfl ?_
              refine c_seq ?_
              refine c_region ?_
              refine st (v := .slice none 0 0) (x_assign .const) ?_
              refine st (v := .bool false) (x_assign .const) ?_
              refine c_nil ?_
              refine n_then ?_
              refine c_ret ?_
              refine r_then ?_
              refine r_block ?_
              refine r_then ?_
              refine r_then ?_
              refine r_block ?_
              refine r_block ?_
              refine r_then ?_
              refine r_then ?_
              refine r_block ?_
              refine r_then ?_
              refine leave_ret (res_two (v := .slice none 0 0) (u := .bool false) rfl (.mk rfl rfl) (.mk rfl rfl)) ?_
              have hans212 : totS acc del = ([], false) := totS_no2 (by rw [← hS]; exact okAll_no (j := k2) (by omega) (okAt_out hx188 (v := v) (by omega) hx202 hn (by omega)))
              rw [hans212]
              have hs213 : St H _ (row 34 2 (.slice none 0 0) (([] : List GItem).length) [] :: row 34 2 v_s s.length c_s :: L) := hs211.krowNil 34 kItem
              exact ⟨(.slice none 0 0), [], rfl, (RowOk.knil kItem), (Kn.rows_nil _ _), (hs213.pick 1 rfl rfl).drop⟩
            · have hp210 : ¬ ((((n207 : Nat) : Int) : Int) ≤ ((n : Nat) : Int)) := of_decide_eq_false hc210
              refine q_yes (yl (dj := 122) (b := false) rfl rfl (congrArg Value.bool hc210)) ?_
              refine q_st (v := .slice A_acc n_acc c_acc) (fun w hs => (x_move (.tmp rfl hρ172))) ?_
              refine q_yes (yl (dj := 122) (b := false) rfl rfl (congrArg Value.bool hc210)) ?_
              refine q_st (v := .int .i64 ((v : Nat) : Int)) (fun w hs => (x_move (.tmp rfl hρ174))) ?_
              refine q_yes (yl (dj := 122) (b := false) rfl rfl (congrArg Value.bool hc210)) ?_
              refine q_st (v := .pointer (some ⟨b199, (o200 + v * 1), none⟩)) (fun w hs => (ixo22 (.tmp rfl rfl) hA203 (i := ((v : Nat) : Int)) (.tmp rfl rfl) (by omega) (by omega) (by omega))) ?_
              refine q_yes (yl (dj := 122) (b := false) rfl rfl (congrArg Value.bool hc210)) ?_
              refine q_st (v := .slice A206 n207 c208) (fun w hs => (ld32 (.tmp rfl rfl) ((hat205x hs).cell 0 rfl))) ?_
              refine q_yes (yl (dj := 122) (b := false) rfl rfl (congrArg Value.bool hc210)) ?_
              refine q_st (v := .int .i64 ((n : Nat) : Int)) (fun w hs => (x_move (.tmp rfl hρ175))) ?_
              refine q_yes (yl (dj := 122) (b := false) rfl rfl (congrArg Value.bool hc210)) ?_
              obtain ⟨e215, b216, o217, cs218, hx219, hA220, hr221, hat222⟩ := hl209.get (i := n) (by omega)
              obtain ⟨A223, n224, c225, rfl, hy226⟩ := hr221
              have := hy226.len; have := hy226.bnd; have := hy226.le
              have hat222x : ∀ {w : World} {L : List Res}, St H w L → At w ⟨b216, o217 + n * 1, none⟩ [.slice A223 n224 c225] := fun h => hat222 h
              refine q_st (v := .pointer (some ⟨b216, (o217 + n * 1), none⟩)) (fun w hs => (ixo32 (.tmp rfl rfl) hA220 (i := ((n : Nat) : Int)) (.tmp rfl rfl) (by omega) (by omega) (by omega))) ?_
              refine q_yes (yl (dj := 122) (b := false) rfl rfl (congrArg Value.bool hc210)) ?_
              refine q_st (v := .slice A223 n224 c225) (fun w hs => (ld30 (.tmp rfl rfl) ((hat222x hs).cell 0 rfl))) ?_
              refine q_yes (yl (dj := 122) (b := false) rfl rfl (congrArg Value.bool hc210)) ?_
              refine q_st (v := .string (bstr e215)) (fun w hs => (hy226.toBs.str Tryd.underlying30 Tryd.underlying5 Tryd.underlying9 hs (.tmp rfl rfl))) ?_
              refine q_yes (yl (dj := 122) (b := false) rfl rfl (congrArg Value.bool hc210)) ?_
              refine q_st (v := v_s) (fun w hs => (x_move (.tmp rfl hρ173))) ?_
              refine q_yes (yl (dj := 122) (b := false) rfl rfl (congrArg Value.bool hc210)) ?_
              refine q_st (v := .int .i64 ((k2 : Nat) : Int)) (fun w hs => (x_move (.tmp rfl hρ176))) ?_
              refine q_yes (yl (dj := 122) (b := false) rfl rfl (congrArg Value.bool hc210)) ?_
              obtain ⟨g227, c228, hv229⟩ := ok_s.pos (by omega)
              refine q_st (v := .pointer (some ⟨g227, (k2 * 2), none⟩)) (fun w hs => (ixo25 (.tmp rfl hv229) rfl (i := ((k2 : Nat) : Int)) (.tmp rfl rfl) (by omega) (by omega) (by omega))) ?_
              refine q_yes (yl (dj := 122) (b := false) rfl rfl (congrArg Value.bool hc210)) ?_
              refine q_st (v := .pointer (some ⟨g227, (k2 * 2) + 1, none⟩)) (fun w hs => (fa34_1 (.tmp rfl rfl))) ?_
              refine q_yes (yl (dj := 122) (b := false) rfl rfl (congrArg Value.bool hc210)) ?_
              refine q_st (v := .slice A193 n194 c195) (fun w hs => (ld30 (.tmp rfl rfl) ((hs.rowAt 0 rfl hv229 (k2 * 2) hsub190).cell 1 rfl))) ?_
              refine q_yes (yl (dj := 122) (b := false) rfl rfl (congrArg Value.bool hc210)) ?_
              refine q_st (v := .string (bstr e186.M)) (fun w hs => (hy196.toBs.str Tryd.underlying30 Tryd.underlying5 Tryd.underlying9 hs (.tmp rfl rfl))) ?_
              refine q_yes (yl (dj := 122) (b := false) rfl rfl (congrArg Value.bool hc210)) ?_
              refine q_st (v := .bool (!decide ((bstr e215) = (bstr e186.M)))) (fun w hs => (x_neqS (.tmp rfl rfl) (.tmp rfl rfl))) ?_
              refine q_st (v := .bool (!decide ((bstr e215) = (bstr e186.M)))) (fun w hs => (x_pick_f (.tmp rfl (congrArg Value.bool hc210)) (.tmp rfl rfl))) ?_
              refine q_nil ?_
              intro w hs230
              refine n_then ?_
              rcases Bool.eq_false_or_eq_true (decide ((bstr e215) = (bstr e186.M))) with hc231 | hc231
              · have hp231 : (bstr e215) = (bstr e186.M) := of_decide_eq_true hc231
                refine c_cond_f (t := false) (.tmp rfl (congrArg Value.bool (by rw [hc231]; rfl))) rfl ?_
                refine c_skip ?_
                refine n_then ?_
                refine c_region ?_
                refine st (v := .int .i64 ((n : Nat) : Int)) (x_move (.tmp rfl hρ175)) ?_
                refine st (v := .int .i64 (((n + 1) : Nat) : Int)) (x_add (k := .i64) (a := ((n : Nat) : Int)) (b := 1) (.tmp rfl rfl) .const ((w64 (by omega) (by omega)).trans (by omega))) ?_
                refine st (v := .int .i64 (((n + 1) : Nat) : Int)) (x_assign (.tmp rfl rfl)) ?_
                refine c_nil ?_
                refine n_block ?_
                refine n_then ?_
                refine c_region ?_
                refine st (v := .int .i64 ((k2 : Nat) : Int)) (x_move (.tmp rfl hρ176)) ?_
                refine st (v := .int .i64 (((k2 + 1) : Nat) : Int)) (x_add (k := .i64) (a := ((k2 : Nat) : Int)) (b := 1) (.tmp rfl rfl) .const ((w64 (by omega) (by omega)).trans (by omega))) ?_
                refine st (v := .int .i64 (((k2 + 1) : Nat) : Int)) (x_assign (.tmp rfl rfl)) ?_
                refine c_nil ?_
                refine n_then ⟨_, _, rfl, ?_, (n + 1), (k2 + 1), hρ172, hρ173, hρ174, rfl, rfl, (by omega), (by omega), (by rw [cntI_at (by omega) hx188 (m := v) (by omega), hn]), (one_good hc hx188 (okAt_yes hx188 (v := v) (by omega) hx202 hn hx219 ((bstr_inj hy226.lt hy196.lt).1 hp231))), hs230, rfl⟩
                omega
              · have hp231 : ¬ ((bstr e215) = (bstr e186.M)) := of_decide_eq_false hc231
                refine c_cond_t (t := true) (.tmp rfl (congrArg Value.bool (by rw [hc231]; rfl))) rfl ?_
                refine c_seq ?_
                refine c_region ?_
                refine st (v := .slice none 0 0) (x_assign .const) ?_
                refine st (v := .bool false) (x_assign .const) ?_
                refine c_nil ?_
                refine n_then ?_
                refine c_ret ?_
                refine r_then ?_
                refine r_block ?_
                refine r_then ?_
                refine r_then ?_
                refine r_block ?_
                refine r_block ?_
                refine r_then ?_
                refine r_then ?_
                refine r_block ?_
                refine r_then ?_
                refine leave_ret (res_two (v := .slice none 0 0) (u := .bool false) rfl (.mk rfl rfl) (.mk rfl rfl)) ?_
                have hans232 : totS acc del = ([], false) := totS_no2 (by rw [← hS]; exact okAll_no (j := k2) (by omega) (okAt_ne hx188 (v := v) (by omega) hx202 hn hx219 (fun e9 => hp231 (by rw [e9]))))
                rw [hans232]
                have hs233 : St H _ (row 34 2 (.slice none 0 0) (([] : List GItem).length) [] :: row 34 2 v_s s.length c_s :: L) := hs230.krowNil 34 kItem
                exact ⟨(.slice none 0 0), [], rfl, (RowOk.knil kItem), (Kn.rows_nil _ _), (hs233.pick 1 rfl rfl).drop⟩
        · have hp182 : ¬ ((((k2 : Nat) : Int) : Int) < ((s.length : Nat) : Int)) := of_decide_eq_false hc182
          refine c_cond_f (t := false) (.tmp rfl (congrArg Value.bool hc182)) rfl ?_
          refine c_exit ?_
          refine x_then ?_
          refine x_then ?_
          refine x_here ?_
          refine n_block ?_
          refine n_then ?_
          refine c_region ?_
          refine st (v := .int .i64 ((v : Nat) : Int)) (x_move (.tmp rfl hρ174)) ?_
          refine st (v := .int .i64 (((v + 1) : Nat) : Int)) (x_add (k := .i64) (a := ((v : Nat) : Int)) (b := 1) (.tmp rfl rfl) .const ((w64 (by omega) (by omega)).trans (by omega))) ?_
          refine st (v := .int .i64 (((v + 1) : Nat) : Int)) (x_assign (.tmp rfl rfl)) ?_
          refine c_nil ?_
          refine n_then ⟨_, _, rfl, ?_, (v + 1), hρ172, hρ173, rfl, (by omega), (one_node hb hc (by omega)), hs177, rfl⟩
          omega
      · have hp170 : ¬ ((((v : Nat) : Int) : Int) < ((n_acc : Nat) : Int)) := of_decide_eq_false hc170
        refine c_cond_f (t := false) (.tmp rfl (congrArg Value.bool hc170)) rfl ?_
        refine c_exit ?_
        refine x_then ?_
        refine x_then ?_
        refine x_here ?_
        refine n_then ?_
        refine c_seq ?_
        refine c_region ?_
        refine st (v := v_s) (x_move (.tmp rfl hρ167)) ?_
        refine st (v := v_s) (x_assign (.tmp rfl rfl)) ?_
        refine st (v := .bool true) (x_assign .const) ?_
        refine c_nil ?_
        refine n_then ?_
        refine c_ret ?_
        refine leave_ret (res_two (v := v_s) (u := .bool true) rfl (.mk rfl rfl) (.mk rfl rfl)) ?_
        have hans235 : totS acc del = (s, true) := (totS_yes (by rw [← hS, hs0]; exact preS_end hp (by omega)) (by rw [← hS]; exact one_all hfr hb (by omega) (by omega))).trans (by rw [← hS])
        rw [hans235]
        exact ⟨v_s, c_s, rfl, ok_s, hk_s, hs169⟩

set_option maxHeartbeats 8000000 in
theorem rtotal_spec {H : Hp} {w : World} {L : List Res} (hs : St H w (L)) {A_acc : Option Addr} {n_acc c_acc : Nat} (acc : (List (List (List Nat)))) (h_acc : Sl (kSl kBs) H A_acc n_acc c_acc acc) {A_del : Option Addr} {n_del c_del : Nat} (del : (List (List GItem))) (h_del : Sl (kSl kItem) H A_del n_del c_del del) : Calls Tryd.prog 12 #[.slice A_acc n_acc c_acc, .slice A_del n_del c_del] w (fun e w' => ∃ (v0 : Value) (cs0 : List Value), e = .returned (.tuple #[v0, .bool ((totS acc del).2)]) ∧ RowOk kItem.sz v0 ((totS acc del).1).length cs0 ∧ kItem.toKn.rows H ((totS acc del).1) cs0 ∧ St H w' (row 34 kItem.sz v0 ((totS acc del).1).length cs0 :: L)) := by
  have := h_acc.len; have := h_acc.le; have : n_acc * 24 ≤ 140737488351232 := h_acc.bnd
  have := h_del.len; have := h_del.le; have : n_del * 24 ≤ 140737488351232 := h_del.bnd
  refine enter (args := [.slice A_acc n_acc c_acc, .slice A_del n_del c_del]) (N := 11) Tryd.func12 rfl rfl rfl ?_
  refine c_seq ?_
  refine c_region ?_
  refine st (v := .slice none 0 0) (x_assign .const) ?_
  refine st (v := .bool false) (x_assign .const) ?_
  refine c_nil ?_
  refine n_then ?_
  refine c_seq ?_
  refine c_region ?_
  refine st (v := .slice A_acc n_acc c_acc) (x_move (.tmp rfl rfl)) ?_
  refine st (v := .slice A_del n_del c_del) (x_move (.tmp rfl rfl)) ?_
  refine st_c cb23 .func (evs2 (.tmp rfl rfl) (.tmp rfl rfl)) (one_spec hs acc h_acc del h_del ) ?_
  rintro e w1 ⟨v3, cs6, rfl, ok4, hk7, hs2⟩
  have := h_acc.len
  have := h_del.len
  refine ⟨_, rfl, ?_⟩
  refine st (v := v3) (x_extract (.tmp rfl rfl) (i := 0) rfl) ?_
  refine st (v := .bool ((totS acc del).2)) (x_extract (.tmp rfl rfl) (i := 1) rfl) ?_
  refine st (v := v3) (x_assign (.tmp rfl rfl)) ?_
  refine st (v := .bool ((totS acc del).2)) (x_assign (.tmp rfl rfl)) ?_
  refine c_nil ?_
  refine n_then ?_
  refine c_ret ?_
  refine leave_ret (res_two (v := v3) (u := .bool ((totS acc del).2)) rfl (.mk rfl rfl) (.mk rfl rfl)) ?_
  exact ⟨v3, cs6, rfl, ok4, hk7, hs2⟩

end Go.Proofs.YtnikcgcbkdeeeaaDoor
