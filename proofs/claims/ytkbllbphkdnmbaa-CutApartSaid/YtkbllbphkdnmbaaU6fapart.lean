/- Steps of the proofs over the functions of this seat, printed by a program (gen.py) and checked by Lean. -/
import Derived.Test.YtkbllbphkdnmbaaUty
import Derived.Test.YtkbllbphkdnmbaaFmM6
import Derived.Test.YtkbllbphkdnmbaaFmM6c
import Derived.Test.YtkbllbphkdnmbaaU6i
set_option linter.unusedVariables false
set_option linter.unusedSimpArgs false
namespace Go.Proofs.Ytkbllbphkdnmbaa
open Go Go.FM Go.Proofs
attribute [local irreducible] wpList wpQuiet wpS Code.wp Calls
set_option maxHeartbeats 8000000 in
theorem cutApart_spec {H : Hp} {w : World} {L : List Res} (hs : St H w (L)) {A_a : Option Addr} {n_a c_a : Nat} (a : (List GState)) (h_a : Sl kState H A_a n_a c_a a) {A_b : Option Addr} {n_b c_b : Nat} (b : (List GState)) (h_b : Sl kState H A_b n_b c_b b) (v : GViewID) {k_v : List Value} (h_v : kViewID.rep H v k_v) : Calls Try.prog 8 #[.slice A_a n_a c_a, .slice A_b n_b c_b, .agg k_v.toArray] w (fun e w' => e = .returned (.bool true) ∧ St H w' (L)) := by
  have := h_a.len; have := h_a.le; have : n_a * 48 ≤ 140737488351232 := h_a.bnd
  have := h_b.len; have := h_b.le; have : n_b * 48 ≤ 140737488351232 := h_b.bnd
  obtain ⟨rfl, b1, ⟨b2, b3⟩⟩ := h_v
  refine enter (args := [.slice A_a n_a c_a, .slice A_b n_b c_b, .agg #[.int .u64 ((v.N : Nat) : Int), .int .i64 v.P]]) (N := 143) Try.func8 rfl rfl rfl ?_
  have b_vN : v.N < 18446744073709551616 := by omega
  refine c_seq ?_
  refine c_region ?_
  refine st_m (m_box (cs := [.int .u64 ((v.N : Nat) : Int), .int .i64 v.P]) hs (v := .agg #[.int .u64 ((v.N : Nat) : Int), .int .i64 v.P]) (.tmp rfl rfl) rfl) ?_
  rintro _ w5 ⟨g4, rfl, hs7⟩
  refine st (v := .bool false) (x_assign .const) ?_
  refine c_nil ?_
  refine n_then ?_
  refine c_seq ?_
  refine c_seq ?_
  refine c_region ?_
  refine st_c cb10 .func (evs0 ) (awake_spec hs7  ) ?_
  rintro e w8 ⟨rfl, hs9⟩
  refine ⟨_, rfl, ?_⟩
  refine st (v := .bool false) (x_not (b := true) (.tmp rfl rfl)) ?_
  refine st (v := .bool false) (x_move (.tmp rfl rfl)) ?_
  refine g_yes (yl (dj := 20) (b := false) rfl rfl rfl) ?_
  refine st (v := .slice A_a n_a c_a) (x_move (.tmp rfl rfl)) ?_
  refine g_yes (yl (dj := 20) (b := false) rfl rfl rfl) ?_
  refine st_c cb11 .func (evs1 (.tmp rfl rfl)) (right_spec hs9 a h_a ) ?_
  rintro e w10 ⟨rfl, hs11⟩
  refine ⟨_, rfl, ?_⟩
  refine g_yes (yl (dj := 20) (b := false) rfl rfl rfl) ?_
  refine st (v := .bool (!(rightS a))) (x_not (.tmp rfl rfl)) ?_
  refine st (v := .bool (!(rightS a))) (x_pick_f (.tmp rfl rfl) (.tmp rfl rfl)) ?_
  refine st (v := .bool (!(rightS a))) (x_move (.tmp rfl rfl)) ?_
  rcases Bool.eq_false_or_eq_true (rightS a) with hc12 | hc12
  · refine g_yes (yl (dj := 25) (b := false) rfl rfl (congrArg Value.bool (by rw [hc12]; rfl))) ?_
    refine st (v := .slice A_b n_b c_b) (x_move (.tmp rfl rfl)) ?_
    refine g_yes (yl (dj := 25) (b := false) rfl rfl (congrArg Value.bool (by rw [hc12]; rfl))) ?_
    refine st_c cb11 .func (evs1 (.tmp rfl rfl)) (right_spec hs11 b h_b ) ?_
    rintro e w13 ⟨rfl, hs14⟩
    refine ⟨_, rfl, ?_⟩
    refine g_yes (yl (dj := 25) (b := false) rfl rfl (congrArg Value.bool (by rw [hc12]; rfl))) ?_
    refine st (v := .bool (!(rightS b))) (x_not (.tmp rfl rfl)) ?_
    refine st (v := .bool (!(rightS b))) (x_pick_f (.tmp rfl (congrArg Value.bool (by rw [hc12]; rfl))) (.tmp rfl rfl)) ?_
    refine st (v := .bool (!(rightS b))) (x_move (.tmp rfl rfl)) ?_
    rcases Bool.eq_false_or_eq_true (rightS b) with hc15 | hc15
    · refine g_yes (yl (dj := 30) (b := false) rfl rfl (congrArg Value.bool (by rw [hc15]; rfl))) ?_
      refine st (v := .pointer (some ⟨g4, 0 + 0, none⟩)) (fa25_0 (.tmp rfl rfl)) ?_
      refine g_yes (yl (dj := 30) (b := false) rfl rfl (congrArg Value.bool (by rw [hc15]; rfl))) ?_
      refine st (v := .int .u64 ((v.N : Nat) : Int)) (ld23 (.tmp rfl rfl) (hs14.cell 0 rfl (0 + 0) rfl)) ?_
      refine g_yes (yl (dj := 30) (b := false) rfl rfl (congrArg Value.bool (by rw [hc15]; rfl))) ?_
      refine st (v := .bool (decide ((((v.N : Nat) : Int) : Int) = 0))) (x_eql (k := .u64) (a := ((v.N : Nat) : Int)) (b := 0) (.tmp rfl rfl) .const) ?_
      refine st (v := .bool (decide ((((v.N : Nat) : Int) : Int) = 0))) (x_pick_f (.tmp rfl (congrArg Value.bool (by rw [hc15]; rfl))) (.tmp rfl rfl)) ?_
      refine c_nil ?_
      refine n_then ?_
      rcases Bool.eq_false_or_eq_true (decide ((((v.N : Nat) : Int) : Int) = 0)) with hc16 | hc16
      · have hp16 : (((v.N : Nat) : Int) : Int) = 0 := of_decide_eq_true hc16
        refine c_cond_t (t := true) (.tmp rfl (congrArg Value.bool hc16)) rfl ?_
        refine c_seq ?_
        refine c_region ?_
        refine st_c cb10 .func (evs0 ) (awake_spec hs14  ) ?_
        rintro e w17 ⟨rfl, hs18⟩
        refine ⟨_, rfl, ?_⟩
        refine st (v := .bool true) (x_assign (.tmp rfl rfl)) ?_
        refine c_nil ?_
        refine n_then ?_
        refine c_ret ?_
        refine r_then ?_
        refine leave_ret (res_one (v := .bool true) rfl (.mk rfl rfl)) ?_
        exact ⟨rfl, hs18.drop⟩
      · have hp16 : ¬ ((((v.N : Nat) : Int) : Int) = 0) := of_decide_eq_false hc16
        refine c_cond_f (t := false) (.tmp rfl (congrArg Value.bool hc16)) rfl ?_
        refine c_skip ?_
        refine n_then ?_
        refine c_seq ?_
        refine c_region ?_
        have hra := rightS_spec hc12; have hrb := rightS_spec hc15; have hla := hra.2; have hlb := hrb.2
        refine st (v := .slice none 0 0) (x_assign .const) ?_
        refine st (v := .slice none 0 0) (x_assign .const) ?_
        refine c_nil ?_
        refine n_then ?_
        refine c_seq ?_
        refine c_seq ?_
        refine c_region ?_
        refine st (v := .int .i64 0) (x_assign .const) ?_
        refine c_nil ?_
        refine n_then ?_
        refine c_block ?_
        have hs20 : St H _ (row 38 4 (.slice none 0 0) (([] : List GState).length) [] :: obj g4 25 [.int .u64 ((v.N : Nat) : Int), .int .i64 v.P] :: L) := hs14.krowNil 38 kState
        have : ([] : List GState).length = 0 := rfl
        refine c_loop (fun ρ w mm => ∃ (mine : List GState) (v_mine : Value) (c_mine : List Value) (i : Nat), ρ 0 = .slice A_a n_a c_a ∧ ρ 1 = .slice A_b n_b c_b ∧ ρ 5 = .pointer (some ⟨g4, 0, none⟩) ∧ ρ 7 = v_mine ∧ ρ 8 = .slice none 0 0 ∧ ρ 9 = .int .i64 ((i : Nat) : Int) ∧ (RowOk kState.sz v_mine mine.length c_mine) ∧ (kState.toKn.rows H mine c_mine) ∧ (i ≤ n_a) ∧ (mine = (a.take i).map (setV v)) ∧ (mine.length = i) ∧ St H w (row 38 4 v_mine mine.length c_mine :: obj g4 25 [.int .u64 ((v.N : Nat) : Int), .int .i64 v.P] :: L) ∧ mm = n_a - i) _ ⟨([] : List GState), (.slice none 0 0), [], 0, rfl, rfl, rfl, rfl, rfl, rfl, (RowOk.knil kState), (Kn.rows_nil _ _), (by omega), rfl, rfl, ((hs20.pick 1 rfl rfl).pick 1 rfl rfl), rfl⟩ ?_
        rintro ρ w mm ⟨mine, v_mine, c_mine, i, hρ22, hρ23, hρ24, hρ25, hρ26, hρ27, ok_mine, hk_mine, hi, hm, hml, hs28, rfl⟩
        refine c_seq ?_
        refine c_seq ?_
        refine c_region ?_
        refine st (v := .int .i64 ((i : Nat) : Int)) (x_move (.tmp rfl hρ27)) ?_
        refine st (v := .slice A_a n_a c_a) (x_move (.tmp rfl hρ22)) ?_
        refine st (v := .int .i64 ((n_a : Nat) : Int)) (x_len (n := n_a) Try.underlying22 (.tmp rfl rfl)) ?_
        refine st (v := .bool (decide ((((i : Nat) : Int) : Int) < ((n_a : Nat) : Int)))) (x_lss (k := .i64) (a := ((i : Nat) : Int)) (b := ((n_a : Nat) : Int)) (.tmp rfl rfl) (.tmp rfl rfl)) ?_
        refine c_nil ?_
        refine n_then ?_
        rcases Bool.eq_false_or_eq_true (decide ((((i : Nat) : Int) : Int) < ((n_a : Nat) : Int))) with hc29 | hc29
        · have hp29 : (((i : Nat) : Int) : Int) < ((n_a : Nat) : Int) := of_decide_eq_true hc29
          refine c_cond_t (t := true) (.tmp rfl (congrArg Value.bool hc29)) rfl ?_
          refine c_skip ?_
          refine n_then ?_
          refine c_seq ?_
          refine c_block ?_
          refine c_seq ?_
          refine c_region ?_
          refine st (v := .slice A_a n_a c_a) (x_move (.tmp rfl hρ22)) ?_
          refine st (v := .int .i64 ((i : Nat) : Int)) (x_move (.tmp rfl hρ27)) ?_
          obtain ⟨e30, b31, o32, cs33, hx34, hA35, hr36, hat37⟩ := h_a.get (i := i) (by omega)
          obtain ⟨A43, n44, c45, rfl, b38, ⟨b39, b40⟩, ⟨b41, b42⟩, hl46⟩ := hr36
          have := hl46.len; have : n44 * 32 ≤ 140737488351232 := hl46.bnd; have := hl46.le
          have hat37x : ∀ {w : World} {L : List Res}, St H w L → At w ⟨b31, o32 + i * 4, none⟩ [.int .u64 ((e30.V.N : Nat) : Int), .int .i64 e30.V.P, .int .i64 e30.Floor, .slice A43 n44 c45] := fun h => hat37 h
          have := hra.1 e30 (List.mem_of_getElem? hx34)
          refine st (v := .pointer (some ⟨b31, (o32 + i * 4), none⟩)) (ixo22 (.tmp rfl rfl) hA35 (i := ((i : Nat) : Int)) (.tmp rfl rfl) (by omega) (by omega) (by omega)) ?_
          refine st (v := .agg #[.int .u64 ((e30.V.N : Nat) : Int), .int .i64 e30.V.P, .int .i64 e30.Floor, .slice A43 n44 c45]) (ld38 (cs := [.int .u64 ((e30.V.N : Nat) : Int), .int .i64 e30.V.P, .int .i64 e30.Floor, .slice A43 n44 c45]) (.tmp rfl rfl) ((hat37x hs28).sub 0 rfl) rfl) ?_
          refine st_m (al38 (cs := [.int .u64 0, .int .i64 0, .int .i64 0, .slice none 0 0]) hs28 rfl) ?_
          rintro _ w48 ⟨g47, rfl, hs50⟩
          refine st_m0 (sto38 (cs' := [.int .u64 ((e30.V.N : Nat) : Int), .int .i64 e30.V.P, .int .i64 e30.Floor, .slice A43 n44 c45]) (i := 0) hs50 (v := .agg #[.int .u64 ((e30.V.N : Nat) : Int), .int .i64 e30.V.P, .int .i64 e30.Floor, .slice A43 n44 c45]) (.tmp rfl rfl) (.tmp rfl rfl) rfl (Nat.le_of_ble_eq_true rfl) (oneA rfl) rfl) ?_
          rintro w51 hs53
          refine c_nil ?_
          refine n_then ?_
          refine c_seq ?_
          refine c_region ?_
          refine st (v := .agg #[.int .u64 ((v.N : Nat) : Int), .int .i64 v.P]) (ld25 (cs := [.int .u64 ((v.N : Nat) : Int), .int .i64 v.P]) (.tmp rfl hρ24) (hs53.at_ 2 rfl (0) rfl) rfl) ?_
          refine st (v := .pointer (some ⟨g47, 0 + 0, none⟩)) (fa38_0 (.tmp rfl rfl)) ?_
          refine st_m0 (sto25 (cs' := [.int .u64 ((v.N : Nat) : Int), .int .i64 v.P, .int .i64 e30.Floor, .slice A43 n44 c45]) (i := 0 + 0) hs53 (v := .agg #[.int .u64 ((v.N : Nat) : Int), .int .i64 v.P]) (.tmp rfl rfl) (.tmp rfl rfl) rfl (Nat.le_of_ble_eq_true rfl) (oneA rfl) rfl) ?_
          rintro w54 hs56
          refine c_nil ?_
          refine n_then ?_
          refine c_region ?_
          refine st (v := v_mine) (x_move (.tmp rfl hρ25)) ?_
          refine st (v := .agg #[.int .u64 ((v.N : Nat) : Int), .int .i64 v.P, .int .i64 e30.Floor, .slice A43 n44 c45]) (ld38 (cs := [.int .u64 ((v.N : Nat) : Int), .int .i64 v.P, .int .i64 e30.Floor, .slice A43 n44 c45]) (.tmp rfl rfl) (hs56.at_ 0 rfl (0) rfl) rfl) ?_
          refine st_m (m_lit (n := 1) (ps := [(0, .agg #[.int .u64 ((v.N : Nat) : Int), .int .i64 v.P, .int .i64 e30.Floor, .slice A43 n44 c45])]) (cs := [.int .u64 ((v.N : Nat) : Int), .int .i64 v.P, .int .i64 e30.Floor, .slice A43 n44 c45]) Try.underlying22 inf38 (.cons (.tmp rfl rfl) Evp.nil) (by decide) (by decide) rfl rfl hs56) ?_
          rintro _ w58 ⟨g57, rfl, hs60⟩
          have hs61 : St H _ (row 38 4 v_mine mine.length c_mine :: obj g57 38 [.int .u64 ((v.N : Nat) : Int), .int .i64 v.P, .int .i64 e30.Floor, .slice A43 n44 c45] :: obj g47 38 [.int .u64 ((v.N : Nat) : Int), .int .i64 v.P, .int .i64 e30.Floor, .slice A43 n44 c45] :: obj g4 25 [.int .u64 ((v.N : Nat) : Int), .int .i64 v.P] :: L) := hs60.pick 2 rfl rfl
          have hr69 : kState.rep H (GState.mk v e30.Floor e30.Items) [.int .u64 ((v.N : Nat) : Int), .int .i64 v.P, .int .i64 e30.Floor, .slice A43 n44 c45] := ⟨A43, n44, c45, rfl, b1, ⟨b2, b3⟩, ⟨b41, b42⟩, hl46⟩
          refine st_m (m_appK (d := kState) (ys := [(GState.mk v e30.Floor e30.Items)]) (news := [.int .u64 ((v.N : Nat) : Int), .int .i64 v.P, .int .i64 e30.Floor, .slice A43 n44 c45]) Try.underlying22 inf38 rfl hs61 ok_mine hk_mine (.tmp rfl rfl) (.tmp rfl rfl) (Kn.rows_one hr69) rfl (hs61.at_ 1 rfl 0 rfl) (by have : ([(GState.mk v e30.Floor e30.Items)] : List GState).length = 1 := rfl; omega) (by decide)) ?_
          rintro v62 w63 ⟨cs64, ok65, hk66, hs67⟩
          have hn68 : (mine ++ [(GState.mk v e30.Floor e30.Items)]).length = mine.length + 1 := by simp
          refine st (v := v62) (x_assign (.tmp rfl rfl)) ?_
          refine c_nil ?_
          refine n_block ?_
          refine n_then ?_
          refine c_region ?_
          refine st (v := .int .i64 ((i : Nat) : Int)) (x_move (.tmp rfl hρ27)) ?_
          refine st (v := .int .i64 (((i + 1) : Nat) : Int)) (x_add (k := .i64) (a := ((i : Nat) : Int)) (b := 1) (.tmp rfl rfl) .const ((w64 (by omega) (by omega)).trans (by omega))) ?_
          refine st (v := .int .i64 (((i + 1) : Nat) : Int)) (x_assign (.tmp rfl rfl)) ?_
          refine c_nil ?_
          refine n_then ⟨_, _, rfl, ?_, (mine ++ [(GState.mk v e30.Floor e30.Items)]), v62, cs64, (i + 1), hρ22, hρ23, hρ24, rfl, hρ26, rfl, ok65, hk66, (by omega), (setV_next hm hx34), (by rw [List.length_append, hml]; rfl), ((((hs67.pick 1 rfl rfl).drop.pick 1 rfl rfl).drop.pick 1 rfl rfl).pick 1 rfl rfl), rfl⟩
          omega
        · have hp29 : ¬ ((((i : Nat) : Int) : Int) < ((n_a : Nat) : Int)) := of_decide_eq_false hc29
          refine c_cond_f (t := false) (.tmp rfl (congrArg Value.bool hc29)) rfl ?_
          refine c_exit ?_
          refine x_then ?_
          refine x_then ?_
          refine x_here ?_
          refine n_then ?_
          refine c_seq ?_
          refine c_seq ?_
          refine c_region ?_
          have hmv := setV_mem hm hra.1
          refine st (v := .int .i64 0) (x_assign .const) ?_
          refine c_nil ?_
          refine n_then ?_
          refine c_block ?_
          have hs71 : St H _ (row 38 4 (.slice none 0 0) (([] : List GState).length) [] :: row 38 4 v_mine mine.length c_mine :: obj g4 25 [.int .u64 ((v.N : Nat) : Int), .int .i64 v.P] :: L) := hs28.krowNil 38 kState
          have : ([] : List GState).length = 0 := rfl
          refine c_loop (fun ρ w mm => ∃ (al : List GState) (v_al : Value) (c_al : List Value) (q : Nat), ρ 1 = .slice A_b n_b c_b ∧ ρ 5 = .pointer (some ⟨g4, 0, none⟩) ∧ ρ 7 = v_mine ∧ ρ 8 = v_al ∧ ρ 11 = .int .i64 ((q : Nat) : Int) ∧ (RowOk kState.sz v_al al.length c_al) ∧ (kState.toKn.rows H al c_al) ∧ (q ≤ n_b) ∧ (al.filter (fun s => decide (s.V = v)) = mine.take q) ∧ (al.length ≤ 2 * q) ∧ (∀ x ∈ al, 0 ≤ x.Floor ∧ x.Floor ≤ 1073741824) ∧ St H w (row 38 4 v_al al.length c_al :: row 38 4 v_mine mine.length c_mine :: obj g4 25 [.int .u64 ((v.N : Nat) : Int), .int .i64 v.P] :: L) ∧ mm = n_b - q) _ ⟨([] : List GState), (.slice none 0 0), [], 0, hρ23, hρ24, hρ25, hρ26, rfl, (RowOk.knil kState), (Kn.rows_nil _ _), (by omega), rfl, (by omega), (fun x hx => absurd hx List.not_mem_nil), (((hs71.pick 2 rfl rfl).pick 2 rfl rfl).pick 2 rfl rfl), rfl⟩ ?_
          rintro ρ w mm ⟨al, v_al, c_al, q, hρ73, hρ74, hρ75, hρ76, hρ77, ok_al, hk_al, hq, hal, hlen, hfl, hs78, rfl⟩
          refine c_seq ?_
          refine c_seq ?_
          refine c_region ?_
          refine st (v := .int .i64 ((q : Nat) : Int)) (x_move (.tmp rfl hρ77)) ?_
          refine st (v := .slice A_b n_b c_b) (x_move (.tmp rfl hρ73)) ?_
          refine st (v := .int .i64 ((n_b : Nat) : Int)) (x_len (n := n_b) Try.underlying22 (.tmp rfl rfl)) ?_
          refine st (v := .bool (decide ((((q : Nat) : Int) : Int) < ((n_b : Nat) : Int)))) (x_lss (k := .i64) (a := ((q : Nat) : Int)) (b := ((n_b : Nat) : Int)) (.tmp rfl rfl) (.tmp rfl rfl)) ?_
          refine c_nil ?_
          refine n_then ?_
          rcases Bool.eq_false_or_eq_true (decide ((((q : Nat) : Int) : Int) < ((n_b : Nat) : Int))) with hc79 | hc79
          · have hp79 : (((q : Nat) : Int) : Int) < ((n_b : Nat) : Int) := of_decide_eq_true hc79
            refine c_cond_t (t := true) (.tmp rfl (congrArg Value.bool hc79)) rfl ?_
            refine c_skip ?_
            refine n_then ?_
            refine c_seq ?_
            refine c_block ?_
            refine c_seq ?_
            refine c_region ?_
            refine st (v := .slice A_b n_b c_b) (x_move (.tmp rfl hρ73)) ?_
            refine st (v := .int .i64 ((q : Nat) : Int)) (x_move (.tmp rfl hρ77)) ?_
            obtain ⟨e80, b81, o82, cs83, hx84, hA85, hr86, hat87⟩ := h_b.get (i := q) (by omega)
            obtain ⟨A93, n94, c95, rfl, b88, ⟨b89, b90⟩, ⟨b91, b92⟩, hl96⟩ := hr86
            have := hl96.len; have : n94 * 32 ≤ 140737488351232 := hl96.bnd; have := hl96.le
            have hat87x : ∀ {w : World} {L : List Res}, St H w L → At w ⟨b81, o82 + q * 4, none⟩ [.int .u64 ((e80.V.N : Nat) : Int), .int .i64 e80.V.P, .int .i64 e80.Floor, .slice A93 n94 c95] := fun h => hat87 h
            have := hrb.1 e80 (List.mem_of_getElem? hx84)
            refine st (v := .pointer (some ⟨b81, (o82 + q * 4), none⟩)) (ixo22 (.tmp rfl rfl) hA85 (i := ((q : Nat) : Int)) (.tmp rfl rfl) (by omega) (by omega) (by omega)) ?_
            refine st (v := .agg #[.int .u64 ((e80.V.N : Nat) : Int), .int .i64 e80.V.P, .int .i64 e80.Floor, .slice A93 n94 c95]) (ld38 (cs := [.int .u64 ((e80.V.N : Nat) : Int), .int .i64 e80.V.P, .int .i64 e80.Floor, .slice A93 n94 c95]) (.tmp rfl rfl) ((hat87x hs78).sub 0 rfl) rfl) ?_
            refine st_m (al38 (cs := [.int .u64 0, .int .i64 0, .int .i64 0, .slice none 0 0]) hs78 rfl) ?_
            rintro _ w98 ⟨g97, rfl, hs100⟩
            refine st_m0 (sto38 (cs' := [.int .u64 ((e80.V.N : Nat) : Int), .int .i64 e80.V.P, .int .i64 e80.Floor, .slice A93 n94 c95]) (i := 0) hs100 (v := .agg #[.int .u64 ((e80.V.N : Nat) : Int), .int .i64 e80.V.P, .int .i64 e80.Floor, .slice A93 n94 c95]) (.tmp rfl rfl) (.tmp rfl rfl) rfl (Nat.le_of_ble_eq_true rfl) (oneA rfl) rfl) ?_
            rintro w101 hs103
            refine c_nil ?_
            refine n_then ?_
            refine c_seq ?_
            refine c_seq ?_
            refine c_region ?_
            refine st (v := .pointer (some ⟨g97, 0 + 0, none⟩)) (fa38_0 (.tmp rfl rfl)) ?_
            refine st (v := .agg #[.int .u64 ((e80.V.N : Nat) : Int), .int .i64 e80.V.P]) (ld25 (cs := [.int .u64 ((e80.V.N : Nat) : Int), .int .i64 e80.V.P]) (.tmp rfl rfl) (hs103.at_ 0 rfl (0 + 0) rfl) rfl) ?_
            refine st (v := .agg #[.int .u64 ((v.N : Nat) : Int), .int .i64 v.P]) (ld25 (cs := [.int .u64 ((v.N : Nat) : Int), .int .i64 v.P]) (.tmp rfl hρ74) (hs103.at_ 3 rfl (0) rfl) rfl) ?_
            refine st (v := .bool ((((e80.V.N : Nat) : Int) == ((v.N : Nat) : Int)) && ((e80.V.P == v.P) && true))) (x_eqlA eqg25 (.tmp rfl rfl) (.tmp rfl rfl) (fun d => eqs25 (d + 98) _ ((e80.V.N : Nat) : Int) ((v.N : Nat) : Int) e80.V.P v.P)) ?_
            refine c_nil ?_
            refine n_then ?_
            rcases Bool.eq_false_or_eq_true (decide (e80.V = v)) with hc104 | hc104
            · have hp104 : e80.V = v := of_decide_eq_true hc104
              refine c_cond_t (t := true) (.tmp rfl ((congrArg Value.bool (GViewID.beq_dec e80.V v)).trans (congrArg Value.bool hc104))) rfl ?_
              refine c_region ?_
              refine st (v := .pointer (some ⟨g97, 0 + 0, none⟩)) (fa38_0 (.tmp rfl rfl)) ?_
              refine st (v := .pointer (some ⟨g97, 0 + 0 + 0, none⟩)) (fa25_0 (.tmp rfl rfl)) ?_
              refine st (v := .int .u64 ((e80.V.N : Nat) : Int)) (ld23 (.tmp rfl rfl) (hs103.cell 0 rfl (0 + 0 + 0) rfl)) ?_
              refine st (v := .int .u64 ((((e80.V.N + 1) % 18446744073709551616) : Nat) : Int)) (x_add (k := .u64) (a := ((e80.V.N : Nat) : Int)) (b := 1) (.tmp rfl rfl) .const (wAddN (m := e80.V.N) (n := 1) _ rfl rfl rfl)) ?_
              refine st (v := .pointer (some ⟨g97, 0 + 0, none⟩)) (fa38_0 (.tmp rfl rfl)) ?_
              refine st (v := .pointer (some ⟨g97, 0 + 0 + 0, none⟩)) (fa25_0 (.tmp rfl rfl)) ?_
              refine st_m0 (sto23 (cs' := [.int .u64 ((((e80.V.N + 1) % 18446744073709551616) : Nat) : Int), .int .i64 e80.V.P, .int .i64 e80.Floor, .slice A93 n94 c95]) (i := 0 + 0 + 0) hs103 (v := .int .u64 ((((e80.V.N + 1) % 18446744073709551616) : Nat) : Int)) (.tmp rfl rfl) (.tmp rfl rfl) rfl (Nat.le_of_ble_eq_true rfl) one1 rfl) ?_
              rintro w105 hs107
              refine c_nil ?_
              refine n_then ?_
              refine c_seq ?_
              refine c_seq ?_
              refine c_region ?_
              refine st (v := .int .i64 ((q : Nat) : Int)) (x_move (.tmp rfl hρ77)) ?_
              refine st (v := v_mine) (x_move (.tmp rfl hρ75)) ?_
              obtain ⟨A108, c109, hv110, hc111⟩ := ok_mine.slice
              refine st (v := .int .i64 ((mine.length : Nat) : Int)) (x_len (n := mine.length) Try.underlying22 (.tmp rfl hv110)) ?_
              refine st (v := .bool (decide ((((q : Nat) : Int) : Int) < ((mine.length : Nat) : Int)))) (x_lss (k := .i64) (a := ((q : Nat) : Int)) (b := ((mine.length : Nat) : Int)) (.tmp rfl rfl) (.tmp rfl rfl)) ?_
              refine c_nil ?_
              refine n_then ?_
              rcases Bool.eq_false_or_eq_true (decide ((((q : Nat) : Int) : Int) < ((mine.length : Nat) : Int))) with hc112 | hc112
              · have hp112 : (((q : Nat) : Int) : Int) < ((mine.length : Nat) : Int) := of_decide_eq_true hc112
                refine c_cond_t (t := true) (.tmp rfl (congrArg Value.bool hc112)) rfl ?_
                refine c_region ?_
                refine st (v := v_al) (x_move (.tmp rfl hρ76)) ?_
                refine st (v := v_mine) (x_move (.tmp rfl hρ75)) ?_
                refine st (v := .int .i64 ((q : Nat) : Int)) (x_move (.tmp rfl hρ77)) ?_
                obtain ⟨g113, c114, hv115⟩ := ok_mine.pos (by omega)
                obtain ⟨e116, cs117, hx118, hr119, hsub120⟩ := Kn.rows_get (i := q) hk_mine (by omega)
                obtain ⟨A126, n127, c128, rfl, b121, ⟨b122, b123⟩, ⟨b124, b125⟩, hl129⟩ := hr119
                have := hl129.len; have : n127 * 32 ≤ 140737488351232 := hl129.bnd; have := hl129.le
                have hme116 := hmv e116 (List.mem_of_getElem? hx118)
                refine st (v := .pointer (some ⟨g113, (q * 4), none⟩)) (ixo22 (.tmp rfl hv115) rfl (i := ((q : Nat) : Int)) (.tmp rfl rfl) (by omega) (by omega) (by omega)) ?_
                refine st (v := .agg #[.int .u64 ((e116.V.N : Nat) : Int), .int .i64 e116.V.P, .int .i64 e116.Floor, .slice A126 n127 c128]) (ld38 (cs := [.int .u64 ((e116.V.N : Nat) : Int), .int .i64 e116.V.P, .int .i64 e116.Floor, .slice A126 n127 c128]) (.tmp rfl rfl) ((hs107.rowAt 2 rfl hv115 (q * 4) hsub120).sub 0 rfl) rfl) ?_
                refine st_m (m_lit (n := 1) (ps := [(0, .agg #[.int .u64 ((e116.V.N : Nat) : Int), .int .i64 e116.V.P, .int .i64 e116.Floor, .slice A126 n127 c128])]) (cs := [.int .u64 ((e116.V.N : Nat) : Int), .int .i64 e116.V.P, .int .i64 e116.Floor, .slice A126 n127 c128]) Try.underlying22 inf38 (.cons (.tmp rfl rfl) Evp.nil) (by decide) (by decide) rfl rfl hs107) ?_
                rintro _ w131 ⟨g130, rfl, hs133⟩
                have hs134 : St H _ (row 38 4 v_al al.length c_al :: obj g130 38 [.int .u64 ((e116.V.N : Nat) : Int), .int .i64 e116.V.P, .int .i64 e116.Floor, .slice A126 n127 c128] :: obj g97 38 [.int .u64 ((((e80.V.N + 1) % 18446744073709551616) : Nat) : Int), .int .i64 e80.V.P, .int .i64 e80.Floor, .slice A93 n94 c95] :: row 38 4 v_mine mine.length c_mine :: obj g4 25 [.int .u64 ((v.N : Nat) : Int), .int .i64 v.P] :: L) := hs133.pick 2 rfl rfl
                have hr142 : kState.rep H e116 [.int .u64 ((e116.V.N : Nat) : Int), .int .i64 e116.V.P, .int .i64 e116.Floor, .slice A126 n127 c128] := ⟨A126, n127, c128, rfl, b121, ⟨b122, b123⟩, ⟨b124, b125⟩, hl129⟩
                refine st_m (m_appK (d := kState) (ys := [e116]) (news := [.int .u64 ((e116.V.N : Nat) : Int), .int .i64 e116.V.P, .int .i64 e116.Floor, .slice A126 n127 c128]) Try.underlying22 inf38 rfl hs134 ok_al hk_al (.tmp rfl rfl) (.tmp rfl rfl) (Kn.rows_one hr142) rfl (hs134.at_ 1 rfl 0 rfl) (by have : ([e116] : List GState).length = 1 := rfl; omega) (by decide)) ?_
                rintro v135 w136 ⟨cs137, ok138, hk139, hs140⟩
                have hn141 : (al ++ [e116]).length = al.length + 1 := by simp
                refine st (v := v135) (x_assign (.tmp rfl rfl)) ?_
                refine c_nil ?_
                refine n_then ?_
                refine c_region ?_
                refine st (v := v135) (x_move (.tmp rfl rfl)) ?_
                refine st (v := .agg #[.int .u64 ((((e80.V.N + 1) % 18446744073709551616) : Nat) : Int), .int .i64 e80.V.P, .int .i64 e80.Floor, .slice A93 n94 c95]) (ld38 (cs := [.int .u64 ((((e80.V.N + 1) % 18446744073709551616) : Nat) : Int), .int .i64 e80.V.P, .int .i64 e80.Floor, .slice A93 n94 c95]) (.tmp rfl rfl) (hs140.at_ 2 rfl (0) rfl) rfl) ?_
                refine st_m (m_lit (n := 1) (ps := [(0, .agg #[.int .u64 ((((e80.V.N + 1) % 18446744073709551616) : Nat) : Int), .int .i64 e80.V.P, .int .i64 e80.Floor, .slice A93 n94 c95])]) (cs := [.int .u64 ((((e80.V.N + 1) % 18446744073709551616) : Nat) : Int), .int .i64 e80.V.P, .int .i64 e80.Floor, .slice A93 n94 c95]) Try.underlying22 inf38 (.cons (.tmp rfl rfl) Evp.nil) (by decide) (by decide) rfl rfl hs140) ?_
                rintro _ w144 ⟨g143, rfl, hs146⟩
                have hs147 : St H _ (row 38 4 v135 ((al ++ [e116]).length) cs137 :: obj g143 38 [.int .u64 ((((e80.V.N + 1) % 18446744073709551616) : Nat) : Int), .int .i64 e80.V.P, .int .i64 e80.Floor, .slice A93 n94 c95] :: obj g130 38 [.int .u64 ((e116.V.N : Nat) : Int), .int .i64 e116.V.P, .int .i64 e116.Floor, .slice A126 n127 c128] :: obj g97 38 [.int .u64 ((((e80.V.N + 1) % 18446744073709551616) : Nat) : Int), .int .i64 e80.V.P, .int .i64 e80.Floor, .slice A93 n94 c95] :: row 38 4 v_mine mine.length c_mine :: obj g4 25 [.int .u64 ((v.N : Nat) : Int), .int .i64 v.P] :: L) := hs146.pick 1 rfl rfl
                have hr155 : kState.rep H (GState.mk (GViewID.mk ((e80.V.N + 1) % 18446744073709551616) e80.V.P) e80.Floor e80.Items) [.int .u64 ((((e80.V.N + 1) % 18446744073709551616) : Nat) : Int), .int .i64 e80.V.P, .int .i64 e80.Floor, .slice A93 n94 c95] := ⟨A93, n94, c95, rfl, (Nat.mod_lt _ (by decide)), ⟨b89, b90⟩, ⟨b91, b92⟩, hl96⟩
                refine st_m (m_appK (d := kState) (ys := [(GState.mk (GViewID.mk ((e80.V.N + 1) % 18446744073709551616) e80.V.P) e80.Floor e80.Items)]) (news := [.int .u64 ((((e80.V.N + 1) % 18446744073709551616) : Nat) : Int), .int .i64 e80.V.P, .int .i64 e80.Floor, .slice A93 n94 c95]) Try.underlying22 inf38 rfl hs147 ok138 hk139 (.tmp rfl rfl) (.tmp rfl rfl) (Kn.rows_one hr155) rfl (hs147.at_ 1 rfl 0 rfl) (by have : ([(GState.mk (GViewID.mk ((e80.V.N + 1) % 18446744073709551616) e80.V.P) e80.Floor e80.Items)] : List GState).length = 1 := rfl; omega) (by decide)) ?_
                rintro v148 w149 ⟨cs150, ok151, hk152, hs153⟩
                have hn154 : ((al ++ [e116]) ++ [(GState.mk (GViewID.mk ((e80.V.N + 1) % 18446744073709551616) e80.V.P) e80.Floor e80.Items)]).length = (al ++ [e116]).length + 1 := by simp
                refine st (v := v148) (x_assign (.tmp rfl rfl)) ?_
                refine c_nil ?_
                refine n_block ?_
                refine n_then ?_
                refine c_region ?_
                refine st (v := .int .i64 ((q : Nat) : Int)) (x_move (.tmp rfl hρ77)) ?_
                refine st (v := .int .i64 (((q + 1) : Nat) : Int)) (x_add (k := .i64) (a := ((q : Nat) : Int)) (b := 1) (.tmp rfl rfl) .const ((w64 (by omega) (by omega)).trans (by omega))) ?_
                refine st (v := .int .i64 (((q + 1) : Nat) : Int)) (x_assign (.tmp rfl rfl)) ?_
                refine c_nil ?_
                have hne : (GViewID.mk ((e80.V.N + 1) % 18446744073709551616) e80.V.P) ≠ v := vid_next_ne hp104 b_vN
                refine n_then ⟨_, _, rfl, ?_, ((al ++ [e116]) ++ [(GState.mk (GViewID.mk ((e80.V.N + 1) % 18446744073709551616) e80.V.P) e80.Floor e80.Items)]), v148, cs150, (q + 1), hρ73, hρ74, hρ75, rfl, rfl, ok151, hk152, (by omega), (apart_both hal hx118 hme116.1 hne), (by omega), (app_floor (app_floor hfl hme116.2) (by assumption)), ((((((hs153.pick 1 rfl rfl).drop.pick 1 rfl rfl).drop.pick 1 rfl rfl).drop.pick 2 rfl rfl).pick 2 rfl rfl).pick 2 rfl rfl), rfl⟩
                omega
              · have hp112 : ¬ ((((q : Nat) : Int) : Int) < ((mine.length : Nat) : Int)) := of_decide_eq_false hc112
                refine c_cond_f (t := false) (.tmp rfl (congrArg Value.bool hc112)) rfl ?_
                refine c_skip ?_
                refine n_then ?_
                refine c_region ?_
                refine st (v := v_al) (x_move (.tmp rfl hρ76)) ?_
                refine st (v := .agg #[.int .u64 ((((e80.V.N + 1) % 18446744073709551616) : Nat) : Int), .int .i64 e80.V.P, .int .i64 e80.Floor, .slice A93 n94 c95]) (ld38 (cs := [.int .u64 ((((e80.V.N + 1) % 18446744073709551616) : Nat) : Int), .int .i64 e80.V.P, .int .i64 e80.Floor, .slice A93 n94 c95]) (.tmp rfl rfl) (hs107.at_ 0 rfl (0) rfl) rfl) ?_
                refine st_m (m_lit (n := 1) (ps := [(0, .agg #[.int .u64 ((((e80.V.N + 1) % 18446744073709551616) : Nat) : Int), .int .i64 e80.V.P, .int .i64 e80.Floor, .slice A93 n94 c95])]) (cs := [.int .u64 ((((e80.V.N + 1) % 18446744073709551616) : Nat) : Int), .int .i64 e80.V.P, .int .i64 e80.Floor, .slice A93 n94 c95]) Try.underlying22 inf38 (.cons (.tmp rfl rfl) Evp.nil) (by decide) (by decide) rfl rfl hs107) ?_
                rintro _ w157 ⟨g156, rfl, hs159⟩
                have hs160 : St H _ (row 38 4 v_al al.length c_al :: obj g156 38 [.int .u64 ((((e80.V.N + 1) % 18446744073709551616) : Nat) : Int), .int .i64 e80.V.P, .int .i64 e80.Floor, .slice A93 n94 c95] :: obj g97 38 [.int .u64 ((((e80.V.N + 1) % 18446744073709551616) : Nat) : Int), .int .i64 e80.V.P, .int .i64 e80.Floor, .slice A93 n94 c95] :: row 38 4 v_mine mine.length c_mine :: obj g4 25 [.int .u64 ((v.N : Nat) : Int), .int .i64 v.P] :: L) := hs159.pick 2 rfl rfl
                have hr168 : kState.rep H (GState.mk (GViewID.mk ((e80.V.N + 1) % 18446744073709551616) e80.V.P) e80.Floor e80.Items) [.int .u64 ((((e80.V.N + 1) % 18446744073709551616) : Nat) : Int), .int .i64 e80.V.P, .int .i64 e80.Floor, .slice A93 n94 c95] := ⟨A93, n94, c95, rfl, (Nat.mod_lt _ (by decide)), ⟨b89, b90⟩, ⟨b91, b92⟩, hl96⟩
                refine st_m (m_appK (d := kState) (ys := [(GState.mk (GViewID.mk ((e80.V.N + 1) % 18446744073709551616) e80.V.P) e80.Floor e80.Items)]) (news := [.int .u64 ((((e80.V.N + 1) % 18446744073709551616) : Nat) : Int), .int .i64 e80.V.P, .int .i64 e80.Floor, .slice A93 n94 c95]) Try.underlying22 inf38 rfl hs160 ok_al hk_al (.tmp rfl rfl) (.tmp rfl rfl) (Kn.rows_one hr168) rfl (hs160.at_ 1 rfl 0 rfl) (by have : ([(GState.mk (GViewID.mk ((e80.V.N + 1) % 18446744073709551616) e80.V.P) e80.Floor e80.Items)] : List GState).length = 1 := rfl; omega) (by decide)) ?_
                rintro v161 w162 ⟨cs163, ok164, hk165, hs166⟩
                have hn167 : (al ++ [(GState.mk (GViewID.mk ((e80.V.N + 1) % 18446744073709551616) e80.V.P) e80.Floor e80.Items)]).length = al.length + 1 := by simp
                refine st (v := v161) (x_assign (.tmp rfl rfl)) ?_
                refine c_nil ?_
                refine n_block ?_
                refine n_then ?_
                refine c_region ?_
                refine st (v := .int .i64 ((q : Nat) : Int)) (x_move (.tmp rfl hρ77)) ?_
                refine st (v := .int .i64 (((q + 1) : Nat) : Int)) (x_add (k := .i64) (a := ((q : Nat) : Int)) (b := 1) (.tmp rfl rfl) .const ((w64 (by omega) (by omega)).trans (by omega))) ?_
                refine st (v := .int .i64 (((q + 1) : Nat) : Int)) (x_assign (.tmp rfl rfl)) ?_
                refine c_nil ?_
                have hne : (GViewID.mk ((e80.V.N + 1) % 18446744073709551616) e80.V.P) ≠ v := vid_next_ne hp104 b_vN
                refine n_then ⟨_, _, rfl, ?_, (al ++ [(GState.mk (GViewID.mk ((e80.V.N + 1) % 18446744073709551616) e80.V.P) e80.Floor e80.Items)]), v161, cs163, (q + 1), hρ73, hρ74, hρ75, rfl, rfl, ok164, hk165, (by omega), (apart_x hal (by omega) hne), (by omega), (app_floor hfl (by assumption)), (((((hs166.pick 1 rfl rfl).drop.pick 1 rfl rfl).drop.pick 2 rfl rfl).pick 2 rfl rfl).pick 2 rfl rfl), rfl⟩
                omega
            · have hp104 : ¬ (e80.V = v) := of_decide_eq_false hc104
              refine c_cond_f (t := false) (.tmp rfl ((congrArg Value.bool (GViewID.beq_dec e80.V v)).trans (congrArg Value.bool hc104))) rfl ?_
              refine c_skip ?_
              refine n_then ?_
              refine c_seq ?_
              refine c_seq ?_
              refine c_region ?_
              refine st (v := .int .i64 ((q : Nat) : Int)) (x_move (.tmp rfl hρ77)) ?_
              refine st (v := v_mine) (x_move (.tmp rfl hρ75)) ?_
              obtain ⟨A169, c170, hv171, hc172⟩ := ok_mine.slice
              refine st (v := .int .i64 ((mine.length : Nat) : Int)) (x_len (n := mine.length) Try.underlying22 (.tmp rfl hv171)) ?_
              refine st (v := .bool (decide ((((q : Nat) : Int) : Int) < ((mine.length : Nat) : Int)))) (x_lss (k := .i64) (a := ((q : Nat) : Int)) (b := ((mine.length : Nat) : Int)) (.tmp rfl rfl) (.tmp rfl rfl)) ?_
              refine c_nil ?_
              refine n_then ?_
              rcases Bool.eq_false_or_eq_true (decide ((((q : Nat) : Int) : Int) < ((mine.length : Nat) : Int))) with hc173 | hc173
              · have hp173 : (((q : Nat) : Int) : Int) < ((mine.length : Nat) : Int) := of_decide_eq_true hc173
                refine c_cond_t (t := true) (.tmp rfl (congrArg Value.bool hc173)) rfl ?_
                refine c_region ?_
                refine st (v := v_al) (x_move (.tmp rfl hρ76)) ?_
                refine st (v := v_mine) (x_move (.tmp rfl hρ75)) ?_
                refine st (v := .int .i64 ((q : Nat) : Int)) (x_move (.tmp rfl hρ77)) ?_
                obtain ⟨g174, c175, hv176⟩ := ok_mine.pos (by omega)
                obtain ⟨e177, cs178, hx179, hr180, hsub181⟩ := Kn.rows_get (i := q) hk_mine (by omega)
                obtain ⟨A187, n188, c189, rfl, b182, ⟨b183, b184⟩, ⟨b185, b186⟩, hl190⟩ := hr180
                have := hl190.len; have : n188 * 32 ≤ 140737488351232 := hl190.bnd; have := hl190.le
                have hme177 := hmv e177 (List.mem_of_getElem? hx179)
                refine st (v := .pointer (some ⟨g174, (q * 4), none⟩)) (ixo22 (.tmp rfl hv176) rfl (i := ((q : Nat) : Int)) (.tmp rfl rfl) (by omega) (by omega) (by omega)) ?_
                refine st (v := .agg #[.int .u64 ((e177.V.N : Nat) : Int), .int .i64 e177.V.P, .int .i64 e177.Floor, .slice A187 n188 c189]) (ld38 (cs := [.int .u64 ((e177.V.N : Nat) : Int), .int .i64 e177.V.P, .int .i64 e177.Floor, .slice A187 n188 c189]) (.tmp rfl rfl) ((hs103.rowAt 2 rfl hv176 (q * 4) hsub181).sub 0 rfl) rfl) ?_
                refine st_m (m_lit (n := 1) (ps := [(0, .agg #[.int .u64 ((e177.V.N : Nat) : Int), .int .i64 e177.V.P, .int .i64 e177.Floor, .slice A187 n188 c189])]) (cs := [.int .u64 ((e177.V.N : Nat) : Int), .int .i64 e177.V.P, .int .i64 e177.Floor, .slice A187 n188 c189]) Try.underlying22 inf38 (.cons (.tmp rfl rfl) Evp.nil) (by decide) (by decide) rfl rfl hs103) ?_
                rintro _ w192 ⟨g191, rfl, hs194⟩
                have hs195 : St H _ (row 38 4 v_al al.length c_al :: obj g191 38 [.int .u64 ((e177.V.N : Nat) : Int), .int .i64 e177.V.P, .int .i64 e177.Floor, .slice A187 n188 c189] :: obj g97 38 [.int .u64 ((e80.V.N : Nat) : Int), .int .i64 e80.V.P, .int .i64 e80.Floor, .slice A93 n94 c95] :: row 38 4 v_mine mine.length c_mine :: obj g4 25 [.int .u64 ((v.N : Nat) : Int), .int .i64 v.P] :: L) := hs194.pick 2 rfl rfl
                have hr203 : kState.rep H e177 [.int .u64 ((e177.V.N : Nat) : Int), .int .i64 e177.V.P, .int .i64 e177.Floor, .slice A187 n188 c189] := ⟨A187, n188, c189, rfl, b182, ⟨b183, b184⟩, ⟨b185, b186⟩, hl190⟩
                refine st_m (m_appK (d := kState) (ys := [e177]) (news := [.int .u64 ((e177.V.N : Nat) : Int), .int .i64 e177.V.P, .int .i64 e177.Floor, .slice A187 n188 c189]) Try.underlying22 inf38 rfl hs195 ok_al hk_al (.tmp rfl rfl) (.tmp rfl rfl) (Kn.rows_one hr203) rfl (hs195.at_ 1 rfl 0 rfl) (by have : ([e177] : List GState).length = 1 := rfl; omega) (by decide)) ?_
                rintro v196 w197 ⟨cs198, ok199, hk200, hs201⟩
                have hn202 : (al ++ [e177]).length = al.length + 1 := by simp
                refine st (v := v196) (x_assign (.tmp rfl rfl)) ?_
                refine c_nil ?_
                refine n_then ?_
                refine c_region ?_
                refine st (v := v196) (x_move (.tmp rfl rfl)) ?_
                refine st (v := .agg #[.int .u64 ((e80.V.N : Nat) : Int), .int .i64 e80.V.P, .int .i64 e80.Floor, .slice A93 n94 c95]) (ld38 (cs := [.int .u64 ((e80.V.N : Nat) : Int), .int .i64 e80.V.P, .int .i64 e80.Floor, .slice A93 n94 c95]) (.tmp rfl rfl) (hs201.at_ 2 rfl (0) rfl) rfl) ?_
                refine st_m (m_lit (n := 1) (ps := [(0, .agg #[.int .u64 ((e80.V.N : Nat) : Int), .int .i64 e80.V.P, .int .i64 e80.Floor, .slice A93 n94 c95])]) (cs := [.int .u64 ((e80.V.N : Nat) : Int), .int .i64 e80.V.P, .int .i64 e80.Floor, .slice A93 n94 c95]) Try.underlying22 inf38 (.cons (.tmp rfl rfl) Evp.nil) (by decide) (by decide) rfl rfl hs201) ?_
                rintro _ w205 ⟨g204, rfl, hs207⟩
                have hs208 : St H _ (row 38 4 v196 ((al ++ [e177]).length) cs198 :: obj g204 38 [.int .u64 ((e80.V.N : Nat) : Int), .int .i64 e80.V.P, .int .i64 e80.Floor, .slice A93 n94 c95] :: obj g191 38 [.int .u64 ((e177.V.N : Nat) : Int), .int .i64 e177.V.P, .int .i64 e177.Floor, .slice A187 n188 c189] :: obj g97 38 [.int .u64 ((e80.V.N : Nat) : Int), .int .i64 e80.V.P, .int .i64 e80.Floor, .slice A93 n94 c95] :: row 38 4 v_mine mine.length c_mine :: obj g4 25 [.int .u64 ((v.N : Nat) : Int), .int .i64 v.P] :: L) := hs207.pick 1 rfl rfl
                have hr216 : kState.rep H e80 [.int .u64 ((e80.V.N : Nat) : Int), .int .i64 e80.V.P, .int .i64 e80.Floor, .slice A93 n94 c95] := ⟨A93, n94, c95, rfl, b88, ⟨b89, b90⟩, ⟨b91, b92⟩, hl96⟩
                refine st_m (m_appK (d := kState) (ys := [e80]) (news := [.int .u64 ((e80.V.N : Nat) : Int), .int .i64 e80.V.P, .int .i64 e80.Floor, .slice A93 n94 c95]) Try.underlying22 inf38 rfl hs208 ok199 hk200 (.tmp rfl rfl) (.tmp rfl rfl) (Kn.rows_one hr216) rfl (hs208.at_ 1 rfl 0 rfl) (by have : ([e80] : List GState).length = 1 := rfl; omega) (by decide)) ?_
                rintro v209 w210 ⟨cs211, ok212, hk213, hs214⟩
                have hn215 : ((al ++ [e177]) ++ [e80]).length = (al ++ [e177]).length + 1 := by simp
                refine st (v := v209) (x_assign (.tmp rfl rfl)) ?_
                refine c_nil ?_
                refine n_block ?_
                refine n_then ?_
                refine c_region ?_
                refine st (v := .int .i64 ((q : Nat) : Int)) (x_move (.tmp rfl hρ77)) ?_
                refine st (v := .int .i64 (((q + 1) : Nat) : Int)) (x_add (k := .i64) (a := ((q : Nat) : Int)) (b := 1) (.tmp rfl rfl) .const ((w64 (by omega) (by omega)).trans (by omega))) ?_
                refine st (v := .int .i64 (((q + 1) : Nat) : Int)) (x_assign (.tmp rfl rfl)) ?_
                refine c_nil ?_
                have hne : e80.V ≠ v := hp104
                refine n_then ⟨_, _, rfl, ?_, ((al ++ [e177]) ++ [e80]), v209, cs211, (q + 1), hρ73, hρ74, hρ75, rfl, rfl, ok212, hk213, (by omega), (apart_both hal hx179 hme177.1 hne), (by omega), (app_floor (app_floor hfl hme177.2) (by assumption)), ((((((hs214.pick 1 rfl rfl).drop.pick 1 rfl rfl).drop.pick 1 rfl rfl).drop.pick 2 rfl rfl).pick 2 rfl rfl).pick 2 rfl rfl), rfl⟩
                omega
              · have hp173 : ¬ ((((q : Nat) : Int) : Int) < ((mine.length : Nat) : Int)) := of_decide_eq_false hc173
                refine c_cond_f (t := false) (.tmp rfl (congrArg Value.bool hc173)) rfl ?_
                refine c_skip ?_
                refine n_then ?_
                refine c_region ?_
                refine st (v := v_al) (x_move (.tmp rfl hρ76)) ?_
                refine st (v := .agg #[.int .u64 ((e80.V.N : Nat) : Int), .int .i64 e80.V.P, .int .i64 e80.Floor, .slice A93 n94 c95]) (ld38 (cs := [.int .u64 ((e80.V.N : Nat) : Int), .int .i64 e80.V.P, .int .i64 e80.Floor, .slice A93 n94 c95]) (.tmp rfl rfl) (hs103.at_ 0 rfl (0) rfl) rfl) ?_
                refine st_m (m_lit (n := 1) (ps := [(0, .agg #[.int .u64 ((e80.V.N : Nat) : Int), .int .i64 e80.V.P, .int .i64 e80.Floor, .slice A93 n94 c95])]) (cs := [.int .u64 ((e80.V.N : Nat) : Int), .int .i64 e80.V.P, .int .i64 e80.Floor, .slice A93 n94 c95]) Try.underlying22 inf38 (.cons (.tmp rfl rfl) Evp.nil) (by decide) (by decide) rfl rfl hs103) ?_
                rintro _ w218 ⟨g217, rfl, hs220⟩
                have hs221 : St H _ (row 38 4 v_al al.length c_al :: obj g217 38 [.int .u64 ((e80.V.N : Nat) : Int), .int .i64 e80.V.P, .int .i64 e80.Floor, .slice A93 n94 c95] :: obj g97 38 [.int .u64 ((e80.V.N : Nat) : Int), .int .i64 e80.V.P, .int .i64 e80.Floor, .slice A93 n94 c95] :: row 38 4 v_mine mine.length c_mine :: obj g4 25 [.int .u64 ((v.N : Nat) : Int), .int .i64 v.P] :: L) := hs220.pick 2 rfl rfl
                have hr229 : kState.rep H e80 [.int .u64 ((e80.V.N : Nat) : Int), .int .i64 e80.V.P, .int .i64 e80.Floor, .slice A93 n94 c95] := ⟨A93, n94, c95, rfl, b88, ⟨b89, b90⟩, ⟨b91, b92⟩, hl96⟩
                refine st_m (m_appK (d := kState) (ys := [e80]) (news := [.int .u64 ((e80.V.N : Nat) : Int), .int .i64 e80.V.P, .int .i64 e80.Floor, .slice A93 n94 c95]) Try.underlying22 inf38 rfl hs221 ok_al hk_al (.tmp rfl rfl) (.tmp rfl rfl) (Kn.rows_one hr229) rfl (hs221.at_ 1 rfl 0 rfl) (by have : ([e80] : List GState).length = 1 := rfl; omega) (by decide)) ?_
                rintro v222 w223 ⟨cs224, ok225, hk226, hs227⟩
                have hn228 : (al ++ [e80]).length = al.length + 1 := by simp
                refine st (v := v222) (x_assign (.tmp rfl rfl)) ?_
                refine c_nil ?_
                refine n_block ?_
                refine n_then ?_
                refine c_region ?_
                refine st (v := .int .i64 ((q : Nat) : Int)) (x_move (.tmp rfl hρ77)) ?_
                refine st (v := .int .i64 (((q + 1) : Nat) : Int)) (x_add (k := .i64) (a := ((q : Nat) : Int)) (b := 1) (.tmp rfl rfl) .const ((w64 (by omega) (by omega)).trans (by omega))) ?_
                refine st (v := .int .i64 (((q + 1) : Nat) : Int)) (x_assign (.tmp rfl rfl)) ?_
                refine c_nil ?_
                have hne : e80.V ≠ v := hp104
                refine n_then ⟨_, _, rfl, ?_, (al ++ [e80]), v222, cs224, (q + 1), hρ73, hρ74, hρ75, rfl, rfl, ok225, hk226, (by omega), (apart_x hal (by omega) hne), (by omega), (app_floor hfl (by assumption)), (((((hs227.pick 1 rfl rfl).drop.pick 1 rfl rfl).drop.pick 2 rfl rfl).pick 2 rfl rfl).pick 2 rfl rfl), rfl⟩
                omega
          · have hp79 : ¬ ((((q : Nat) : Int) : Int) < ((n_b : Nat) : Int)) := of_decide_eq_false hc79
            refine c_cond_f (t := false) (.tmp rfl (congrArg Value.bool hc79)) rfl ?_
            refine c_exit ?_
            refine x_then ?_
            refine x_then ?_
            refine x_here ?_
            refine n_then ?_
            refine c_seq ?_
            refine c_seq ?_
            refine c_region ?_
            refine st (v := .slice A_b n_b c_b) (x_move (.tmp rfl hρ73)) ?_
            refine st (v := .int .i64 ((n_b : Nat) : Int)) (x_len (n := n_b) Try.underlying22 (.tmp rfl rfl)) ?_
            refine st (v := .int .i64 ((n_b : Nat) : Int)) (x_assign (.tmp rfl rfl)) ?_
            refine c_nil ?_
            refine n_then ?_
            refine c_block ?_
            refine c_loop (fun ρ w mm => ∃ (al2 : List GState) (v_al2 : Value) (c_al2 : List Value) (r : Nat), ρ 5 = .pointer (some ⟨g4, 0, none⟩) ∧ ρ 7 = v_mine ∧ ρ 8 = v_al2 ∧ ρ 13 = .int .i64 ((r : Nat) : Int) ∧ (RowOk kState.sz v_al2 al2.length c_al2) ∧ (kState.toKn.rows H al2 c_al2) ∧ (n_b ≤ r) ∧ (al2.filter (fun s => decide (s.V = v)) = mine.take r) ∧ (al2.length ≤ n_b + r) ∧ (∀ x ∈ al2, 0 ≤ x.Floor ∧ x.Floor ≤ 1073741824) ∧ (r ≤ n_b + mine.length) ∧ St H w (row 38 4 v_al2 al2.length c_al2 :: row 38 4 v_mine mine.length c_mine :: obj g4 25 [.int .u64 ((v.N : Nat) : Int), .int .i64 v.P] :: L) ∧ mm = mine.length - r) _ ⟨al, v_al, c_al, n_b, hρ74, hρ75, hρ76, rfl, ok_al, hk_al, (by omega), (by rw [show n_b = q from by omega]; exact hal), (by omega), hfl, (by omega), (((hs78.pick 2 rfl rfl).pick 2 rfl rfl).pick 2 rfl rfl), rfl⟩ ?_
            rintro ρ w mm ⟨al2, v_al2, c_al2, r, hρ231, hρ232, hρ233, hρ234, ok_al2, hk_al2, hr, hal2, hlen2, hfl2, hrm, hs235, rfl⟩
            refine c_seq ?_
            refine c_seq ?_
            refine c_region ?_
            refine st (v := .int .i64 ((r : Nat) : Int)) (x_move (.tmp rfl hρ234)) ?_
            refine st (v := v_mine) (x_move (.tmp rfl hρ232)) ?_
            obtain ⟨A236, c237, hv238, hc239⟩ := ok_mine.slice
            refine st (v := .int .i64 ((mine.length : Nat) : Int)) (x_len (n := mine.length) Try.underlying22 (.tmp rfl hv238)) ?_
            refine st (v := .bool (decide ((((r : Nat) : Int) : Int) < ((mine.length : Nat) : Int)))) (x_lss (k := .i64) (a := ((r : Nat) : Int)) (b := ((mine.length : Nat) : Int)) (.tmp rfl rfl) (.tmp rfl rfl)) ?_
            refine c_nil ?_
            refine n_then ?_
            rcases Bool.eq_false_or_eq_true (decide ((((r : Nat) : Int) : Int) < ((mine.length : Nat) : Int))) with hc240 | hc240
            · have hp240 : (((r : Nat) : Int) : Int) < ((mine.length : Nat) : Int) := of_decide_eq_true hc240
              refine c_cond_t (t := true) (.tmp rfl (congrArg Value.bool hc240)) rfl ?_
              refine c_skip ?_
              refine n_then ?_
              refine c_seq ?_
              refine c_block ?_
              refine c_region ?_
              refine st (v := v_al2) (x_move (.tmp rfl hρ233)) ?_
              refine st (v := v_mine) (x_move (.tmp rfl hρ232)) ?_
              refine st (v := .int .i64 ((r : Nat) : Int)) (x_move (.tmp rfl hρ234)) ?_
              obtain ⟨g241, c242, hv243⟩ := ok_mine.pos (by omega)
              obtain ⟨e244, cs245, hx246, hr247, hsub248⟩ := Kn.rows_get (i := r) hk_mine (by omega)
              obtain ⟨A254, n255, c256, rfl, b249, ⟨b250, b251⟩, ⟨b252, b253⟩, hl257⟩ := hr247
              have := hl257.len; have : n255 * 32 ≤ 140737488351232 := hl257.bnd; have := hl257.le
              have hme244 := hmv e244 (List.mem_of_getElem? hx246)
              refine st (v := .pointer (some ⟨g241, (r * 4), none⟩)) (ixo22 (.tmp rfl hv243) rfl (i := ((r : Nat) : Int)) (.tmp rfl rfl) (by omega) (by omega) (by omega)) ?_
              refine st (v := .agg #[.int .u64 ((e244.V.N : Nat) : Int), .int .i64 e244.V.P, .int .i64 e244.Floor, .slice A254 n255 c256]) (ld38 (cs := [.int .u64 ((e244.V.N : Nat) : Int), .int .i64 e244.V.P, .int .i64 e244.Floor, .slice A254 n255 c256]) (.tmp rfl rfl) ((hs235.rowAt 1 rfl hv243 (r * 4) hsub248).sub 0 rfl) rfl) ?_
              refine st_m (m_lit (n := 1) (ps := [(0, .agg #[.int .u64 ((e244.V.N : Nat) : Int), .int .i64 e244.V.P, .int .i64 e244.Floor, .slice A254 n255 c256])]) (cs := [.int .u64 ((e244.V.N : Nat) : Int), .int .i64 e244.V.P, .int .i64 e244.Floor, .slice A254 n255 c256]) Try.underlying22 inf38 (.cons (.tmp rfl rfl) Evp.nil) (by decide) (by decide) rfl rfl hs235) ?_
              rintro _ w259 ⟨g258, rfl, hs261⟩
              have hs262 : St H _ (row 38 4 v_al2 al2.length c_al2 :: obj g258 38 [.int .u64 ((e244.V.N : Nat) : Int), .int .i64 e244.V.P, .int .i64 e244.Floor, .slice A254 n255 c256] :: row 38 4 v_mine mine.length c_mine :: obj g4 25 [.int .u64 ((v.N : Nat) : Int), .int .i64 v.P] :: L) := hs261.pick 1 rfl rfl
              have hr270 : kState.rep H e244 [.int .u64 ((e244.V.N : Nat) : Int), .int .i64 e244.V.P, .int .i64 e244.Floor, .slice A254 n255 c256] := ⟨A254, n255, c256, rfl, b249, ⟨b250, b251⟩, ⟨b252, b253⟩, hl257⟩
              refine st_m (m_appK (d := kState) (ys := [e244]) (news := [.int .u64 ((e244.V.N : Nat) : Int), .int .i64 e244.V.P, .int .i64 e244.Floor, .slice A254 n255 c256]) Try.underlying22 inf38 rfl hs262 ok_al2 hk_al2 (.tmp rfl rfl) (.tmp rfl rfl) (Kn.rows_one hr270) rfl (hs262.at_ 1 rfl 0 rfl) (by have : ([e244] : List GState).length = 1 := rfl; omega) (by decide)) ?_
              rintro v263 w264 ⟨cs265, ok266, hk267, hs268⟩
              have hn269 : (al2 ++ [e244]).length = al2.length + 1 := by simp
              refine st (v := v263) (x_assign (.tmp rfl rfl)) ?_
              refine c_nil ?_
              refine n_block ?_
              refine n_then ?_
              refine c_region ?_
              refine st (v := .int .i64 ((r : Nat) : Int)) (x_move (.tmp rfl hρ234)) ?_
              refine st (v := .int .i64 (((r + 1) : Nat) : Int)) (x_add (k := .i64) (a := ((r : Nat) : Int)) (b := 1) (.tmp rfl rfl) .const ((w64 (by omega) (by omega)).trans (by omega))) ?_
              refine st (v := .int .i64 (((r + 1) : Nat) : Int)) (x_assign (.tmp rfl rfl)) ?_
              refine c_nil ?_
              refine n_then ⟨_, _, rfl, ?_, (al2 ++ [e244]), v263, cs265, (r + 1), hρ231, hρ232, rfl, rfl, ok266, hk267, (by omega), (apart_m hal2 hx246 hme244.1), (by omega), (app_floor hfl2 hme244.2), (by omega), ((((hs268.pick 1 rfl rfl).drop.pick 2 rfl rfl).pick 2 rfl rfl).pick 2 rfl rfl), rfl⟩
              omega
            · have hp240 : ¬ ((((r : Nat) : Int) : Int) < ((mine.length : Nat) : Int)) := of_decide_eq_false hc240
              refine c_cond_f (t := false) (.tmp rfl (congrArg Value.bool hc240)) rfl ?_
              refine c_exit ?_
              refine x_then ?_
              refine x_then ?_
              refine x_here ?_
              refine n_then ?_
              refine c_seq ?_
              refine c_region ?_
              have hj1 : (joinS mine).length ≤ 1 := joinS_le_one (fun x hx => (hmv x hx).1)
              have hfil : (joinS al2).filter (fun s => decide (s.V = v)) = joinS mine := by rw [joinS_filter, hal2, List.take_of_length_le (by omega)]
              have hjl : (joinS al2).length ≤ al2.length := joinTo_length al2 al2.length
              refine st (v := v_mine) (x_move (.tmp rfl hρ232)) ?_
              have hs271 : St H _ (row 38 4 v_mine mine.length c_mine :: row 38 4 v_al2 al2.length c_al2 :: obj g4 25 [.int .u64 ((v.N : Nat) : Int), .int .i64 v.P] :: L) := hs235.pick 1 rfl rfl
              have : mine.length * 48 ≤ 140737488351232 := by omega
              obtain ⟨H272, A273, c274, hle275, hs276, rfl, sp277⟩ := hs271.freezeSl (d := kState) ok_mine hk_mine this
              have := sp277.len; have := sp277.le
              refine st_c cb17 .func (evs1 (.tmp rfl rfl)) (join_spec hs276 mine sp277 (fun s hs => (hmv s hs).2)) ?_
              rintro e w278 ⟨v280, cs283, rfl, ok281, hk284, hs279⟩
              have := sp277.len
              refine ⟨_, rfl, ?_⟩
              refine st (v := v280) (x_assign (.tmp rfl rfl)) ?_
              refine c_nil ?_
              refine n_then ?_
              refine c_seq ?_
              refine c_region ?_
              refine st (v := v_al2) (x_move (.tmp rfl hρ233)) ?_
              have hs285 : St H272 _ (row 38 4 v_al2 al2.length c_al2 :: row 38 4 v280 ((joinS mine).length) cs283 :: obj g4 25 [.int .u64 ((v.N : Nat) : Int), .int .i64 v.P] :: L) := hs279.pick 1 rfl rfl
              have : al2.length * 48 ≤ 140737488351232 := by omega
              obtain ⟨H286, A287, c288, hle289, hs290, rfl, sp291⟩ := hs285.freezeSl (d := kState) ok_al2 (Kn.rows_mono hk_al2 hle275) this
              have := sp291.len; have := sp291.le
              refine st_c cb17 .func (evs1 (.tmp rfl rfl)) (join_spec hs290 al2 sp291 hfl2) ?_
              rintro e w292 ⟨v294, cs297, rfl, ok295, hk298, hs293⟩
              have := sp291.len
              refine ⟨_, rfl, ?_⟩
              refine st (v := v294) (x_assign (.tmp rfl rfl)) ?_
              refine c_nil ?_
              refine n_then ?_
              refine c_seq ?_
              refine c_region ?_
              have hs299 : St H286 _ (row 38 4 v280 ((joinS mine).length) cs283 :: row 38 4 v294 ((joinS al2).length) cs297 :: obj g4 25 [.int .u64 ((v.N : Nat) : Int), .int .i64 v.P] :: L) := hs293.pick 1 rfl rfl
              have : (joinS mine).length * 48 ≤ 140737488351232 := by omega
              obtain ⟨H300, A301, c302, hle303, hs304, rfl, sp305⟩ := hs299.freezeSl (d := kState) ok281 (Kn.rows_mono hk284 hle289) this
              have := sp305.len; have := sp305.le
              have : (joinS al2).length * 48 ≤ 140737488351232 := by omega
              obtain ⟨H306, A307, c308, hle309, hs310, rfl, sp311⟩ := hs304.freezeSl (d := kState) ok295 (Kn.rows_mono hk298 hle303) this
              have := sp311.len; have := sp311.le
              skip
              refine st (v := .int .i64 0) (x_assign .const) ?_
              refine c_nil ?_
              refine n_then ?_
              refine c_seq ?_
              refine c_seq ?_
              refine c_region ?_
              refine st (v := .int .i64 0) (x_assign .const) ?_
              refine c_nil ?_
              refine n_then ?_
              refine c_block ?_
              refine c_loop (fun ρ w mm => ∃ (cn : Nat) (z : Nat), ρ 5 = .pointer (some ⟨g4, 0, none⟩) ∧ ρ 14 = .slice A301 ((joinS mine).length) c302 ∧ ρ 15 = .slice A307 ((joinS al2).length) c308 ∧ ρ 16 = .int .i64 ((cn : Nat) : Int) ∧ ρ 17 = .int .i64 ((z : Nat) : Int) ∧ (z ≤ (joinS al2).length) ∧ (cn ≤ z) ∧ (cn = (((joinS al2).take z).filter (fun s => decide (s.V = v))).length) ∧ St H306 w (obj g4 25 [.int .u64 ((v.N : Nat) : Int), .int .i64 v.P] :: L) ∧ mm = (joinS al2).length - z) _ ⟨0, 0, hρ231, rfl, rfl, rfl, rfl, (by omega), (by omega), rfl, hs310, rfl⟩ ?_
              rintro ρ w mm ⟨cn, z, hρ313, hρ314, hρ315, hρ316, hρ317, hz, hcz, hcn, hs318, rfl⟩
              refine c_seq ?_
              refine c_seq ?_
              refine c_region ?_
              refine st (v := .int .i64 ((z : Nat) : Int)) (x_move (.tmp rfl hρ317)) ?_
              refine st (v := .slice A307 ((joinS al2).length) c308) (x_move (.tmp rfl hρ315)) ?_
              refine st (v := .int .i64 ((((joinS al2).length) : Nat) : Int)) (x_len (n := ((joinS al2).length)) Try.underlying22 (.tmp rfl rfl)) ?_
              refine st (v := .bool (decide ((((z : Nat) : Int) : Int) < ((((joinS al2).length) : Nat) : Int)))) (x_lss (k := .i64) (a := ((z : Nat) : Int)) (b := ((((joinS al2).length) : Nat) : Int)) (.tmp rfl rfl) (.tmp rfl rfl)) ?_
              refine c_nil ?_
              refine n_then ?_
              rcases Bool.eq_false_or_eq_true (decide ((((z : Nat) : Int) : Int) < ((((joinS al2).length) : Nat) : Int))) with hc319 | hc319
              · have hp319 : (((z : Nat) : Int) : Int) < ((((joinS al2).length) : Nat) : Int) := of_decide_eq_true hc319
                refine c_cond_t (t := true) (.tmp rfl (congrArg Value.bool hc319)) rfl ?_
                refine c_skip ?_
                refine n_then ?_
                refine c_seq ?_
                refine c_block ?_
                refine c_seq ?_
                refine q_region mixed hs318 (by kernel_rfl) ?_
                refine q_st (v := .slice A307 ((joinS al2).length) c308) (fun w hs => (x_move (.tmp rfl hρ315))) ?_
                refine q_st (v := .int .i64 ((z : Nat) : Int)) (fun w hs => (x_move (.tmp rfl hρ317))) ?_
                obtain ⟨e320, b321, o322, cs323, hx324, hA325, hr326, hat327⟩ := sp311.get (i := z) (by omega)
                obtain ⟨A333, n334, c335, rfl, b328, ⟨b329, b330⟩, ⟨b331, b332⟩, hl336⟩ := hr326
                have := hl336.len; have : n334 * 32 ≤ 140737488351232 := hl336.bnd; have := hl336.le
                have hat327x : ∀ {w : World} {L : List Res}, St H306 w L → At w ⟨b321, o322 + z * 4, none⟩ [.int .u64 ((e320.V.N : Nat) : Int), .int .i64 e320.V.P, .int .i64 e320.Floor, .slice A333 n334 c335] := fun h => hat327 h
                refine q_st (v := .pointer (some ⟨b321, (o322 + z * 4), none⟩)) (fun w hs => (ixo22 (.tmp rfl rfl) hA325 (i := ((z : Nat) : Int)) (.tmp rfl rfl) (by omega) (by omega) (by omega))) ?_
                refine q_st (v := .pointer (some ⟨b321, (o322 + z * 4) + 0, none⟩)) (fun w hs => (fa38_0 (.tmp rfl rfl))) ?_
                refine q_st (v := .agg #[.int .u64 ((e320.V.N : Nat) : Int), .int .i64 e320.V.P]) (fun w hs => (ld25 (cs := [.int .u64 ((e320.V.N : Nat) : Int), .int .i64 e320.V.P]) (.tmp rfl rfl) ((hat327x hs).sub 0 rfl) rfl)) ?_
                refine q_st (v := .agg #[.int .u64 ((v.N : Nat) : Int), .int .i64 v.P]) (fun w hs => (ld25 (cs := [.int .u64 ((v.N : Nat) : Int), .int .i64 v.P]) (.tmp rfl hρ313) (hs.at_ 0 rfl (0) rfl) rfl)) ?_
                refine q_st (v := .bool ((((e320.V.N : Nat) : Int) == ((v.N : Nat) : Int)) && ((e320.V.P == v.P) && true))) (fun w hs => (x_eqlA eqg25 (.tmp rfl rfl) (.tmp rfl rfl) (fun d => eqs25 (d + 98) _ ((e320.V.N : Nat) : Int) ((v.N : Nat) : Int) e320.V.P v.P))) ?_
                refine q_nil ?_
                intro w hs337
                refine n_then ?_
                rcases Bool.eq_false_or_eq_true (decide (e320.V = v)) with hc338 | hc338
                · have hp338 : e320.V = v := of_decide_eq_true hc338
                  refine c_cond_t (t := true) (.tmp rfl ((congrArg Value.bool (GViewID.beq_dec e320.V v)).trans (congrArg Value.bool hc338))) rfl ?_
                  refine c_seq ?_
                  refine c_seq ?_
                  refine c_region ?_
                  have hone := apart_at hfil hj1 hx324 hp338; have hone1 : (joinS mine).length = 1 := by rw [hone]; rfl
                  refine st (v := .slice A301 ((joinS mine).length) c302) (x_move (.tmp rfl hρ314)) ?_
                  refine st (v := .int .i64 ((((joinS mine).length) : Nat) : Int)) (x_len (n := ((joinS mine).length)) Try.underlying22 (.tmp rfl rfl)) ?_
                  refine st (v := .bool (decide ((((((joinS mine).length) : Nat) : Int) : Int) ≠ 1))) (x_neq (k := .i64) (a := ((((joinS mine).length) : Nat) : Int)) (b := 1) (.tmp rfl rfl) .const) ?_
                  refine st (v := .bool (decide ((((((joinS mine).length) : Nat) : Int) : Int) ≠ 1))) (x_move (.tmp rfl rfl)) ?_
                  have hc339 : (decide ((((((joinS mine).length) : Nat) : Int) : Int) ≠ 1)) = false := (decide_eq_false (by omega))
                  refine g_yes (yl (dj := 122) (b := false) rfl rfl (congrArg Value.bool hc339)) ?_
                  refine st (v := .slice A307 ((joinS al2).length) c308) (x_move (.tmp rfl hρ315)) ?_
                  refine g_yes (yl (dj := 122) (b := false) rfl rfl (congrArg Value.bool hc339)) ?_
                  refine st (v := .int .i64 ((z : Nat) : Int)) (x_move (.tmp rfl hρ317)) ?_
                  refine g_yes (yl (dj := 122) (b := false) rfl rfl (congrArg Value.bool hc339)) ?_
                  refine st (v := .pointer (some ⟨b321, (o322 + z * 4), none⟩)) (ixo22 (.tmp rfl rfl) hA325 (i := ((z : Nat) : Int)) (.tmp rfl rfl) (by omega) (by omega) (by omega)) ?_
                  refine g_yes (yl (dj := 122) (b := false) rfl rfl (congrArg Value.bool hc339)) ?_
                  refine st (v := .agg #[.int .u64 ((e320.V.N : Nat) : Int), .int .i64 e320.V.P, .int .i64 e320.Floor, .slice A333 n334 c335]) (ld38 (cs := [.int .u64 ((e320.V.N : Nat) : Int), .int .i64 e320.V.P, .int .i64 e320.Floor, .slice A333 n334 c335]) (.tmp rfl rfl) ((hat327x hs337).sub 0 rfl) rfl) ?_
                  refine g_yes (yl (dj := 122) (b := false) rfl rfl (congrArg Value.bool hc339)) ?_
                  refine st_m (m_lit (n := 1) (ps := [(0, .agg #[.int .u64 ((e320.V.N : Nat) : Int), .int .i64 e320.V.P, .int .i64 e320.Floor, .slice A333 n334 c335])]) (cs := [.int .u64 ((e320.V.N : Nat) : Int), .int .i64 e320.V.P, .int .i64 e320.Floor, .slice A333 n334 c335]) Try.underlying22 inf38 (.cons (.tmp rfl rfl) Evp.nil) (by decide) (by decide) rfl rfl hs337) ?_
                  rintro _ w341 ⟨g340, rfl, hs343⟩
                  refine g_yes (yl (dj := 122) (b := false) rfl rfl (congrArg Value.bool hc339)) ?_
                  refine st (v := .slice A301 ((joinS mine).length) c302) (x_move (.tmp rfl hρ314)) ?_
                  refine g_yes (yl (dj := 122) (b := false) rfl rfl (congrArg Value.bool hc339)) ?_
                  have hr349 : kState.rep H306 e320 [.int .u64 ((e320.V.N : Nat) : Int), .int .i64 e320.V.P, .int .i64 e320.Floor, .slice A333 n334 c335] := ⟨A333, n334, c335, rfl, b328, ⟨b329, b330⟩, ⟨b331, b332⟩, hl336⟩
                  have hk350 : kState.toKn.rows H306 [e320] [.int .u64 ((e320.V.N : Nat) : Int), .int .i64 e320.V.P, .int .i64 e320.Floor, .slice A333 n334 c335] := Kn.rows_one hr349
                  obtain ⟨H344, hle345, hs346, rd347, hb348⟩ := hs343.freezeObj
                  have sp351 : Sl kState H344 ((some ⟨g340, 0, none⟩)) 1 1 [e320] := ⟨⟨_, rd347, Kn.rows_mono hk350 hle345⟩, rfl, Nat.le_refl _, by decide, by decide⟩
                  refine st_c cb18 .func (evs2 (.tmp rfl rfl) (.tmp rfl rfl)) (same_spec hs346 [e320] sp351 (joinS mine) ((sp305.mono hle309).mono hle345) ) ?_
                  rintro e w352 ⟨rfl, hs353⟩
                  refine ⟨_, rfl, ?_⟩
                  refine g_yes (yl (dj := 122) (b := false) rfl rfl (congrArg Value.bool hc339)) ?_
                  refine st (v := .bool (!(decide ([e320] = (joinS mine))))) (x_not (.tmp rfl rfl)) ?_
                  refine st (v := .bool (!(decide ([e320] = (joinS mine))))) (x_pick_f (.tmp rfl (congrArg Value.bool hc339)) (.tmp rfl rfl)) ?_
                  refine c_nil ?_
                  refine n_then ?_
                  have hc354 : (decide ([e320] = (joinS mine))) = true := (decide_eq_true hone.symm)
                  refine c_cond_f (t := false) (.tmp rfl (congrArg Value.bool (by rw [hc354]; rfl))) rfl ?_
                  refine c_skip ?_
                  refine n_then ?_
                  refine c_region ?_
                  refine st (v := .int .i64 ((cn : Nat) : Int)) (x_move (.tmp rfl hρ316)) ?_
                  refine st (v := .int .i64 (((cn + 1) : Nat) : Int)) (x_add (k := .i64) (a := ((cn : Nat) : Int)) (b := 1) (.tmp rfl rfl) .const ((w64 (by omega) (by omega)).trans (by omega))) ?_
                  refine st (v := .int .i64 (((cn + 1) : Nat) : Int)) (x_assign (.tmp rfl rfl)) ?_
                  refine c_nil ?_
                  refine n_block ?_
                  refine n_then ?_
                  refine c_region ?_
                  refine st (v := .int .i64 ((z : Nat) : Int)) (x_move (.tmp rfl hρ317)) ?_
                  refine st (v := .int .i64 (((z + 1) : Nat) : Int)) (x_add (k := .i64) (a := ((z : Nat) : Int)) (b := 1) (.tmp rfl rfl) .const ((w64 (by omega) (by omega)).trans (by omega))) ?_
                  refine st (v := .int .i64 (((z + 1) : Nat) : Int)) (x_assign (.tmp rfl rfl)) ?_
                  refine c_nil ?_
                  refine n_then ⟨_, _, rfl, ?_, (cn + 1), (z + 1), hρ313, hρ314, hρ315, rfl, rfl, (by omega), (by omega), (count_yes hcn hx324 hc338), (hs353.weaken hle345), rfl⟩
                  omega
                · have hp338 : ¬ (e320.V = v) := of_decide_eq_false hc338
                  refine c_cond_f (t := false) (.tmp rfl ((congrArg Value.bool (GViewID.beq_dec e320.V v)).trans (congrArg Value.bool hc338))) rfl ?_
                  refine c_skip ?_
                  refine n_block ?_
                  refine n_then ?_
                  refine c_region ?_
                  refine st (v := .int .i64 ((z : Nat) : Int)) (x_move (.tmp rfl hρ317)) ?_
                  refine st (v := .int .i64 (((z + 1) : Nat) : Int)) (x_add (k := .i64) (a := ((z : Nat) : Int)) (b := 1) (.tmp rfl rfl) .const ((w64 (by omega) (by omega)).trans (by omega))) ?_
                  refine st (v := .int .i64 (((z + 1) : Nat) : Int)) (x_assign (.tmp rfl rfl)) ?_
                  refine c_nil ?_
                  refine n_then ⟨_, _, rfl, ?_, cn, (z + 1), hρ313, hρ314, hρ315, hρ316, rfl, (by omega), (by omega), (count_no hcn hx324 hc338), hs337, rfl⟩
                  omega
              · have hp319 : ¬ ((((z : Nat) : Int) : Int) < ((((joinS al2).length) : Nat) : Int)) := of_decide_eq_false hc319
                refine c_cond_f (t := false) (.tmp rfl (congrArg Value.bool hc319)) rfl ?_
                refine c_exit ?_
                refine x_then ?_
                refine x_then ?_
                refine x_here ?_
                refine n_then ?_
                refine c_seq ?_
                refine c_region ?_
                have hcf : cn = (joinS mine).length := by rw [← hfil, hcn, List.take_of_length_le (by omega)]
                refine st (v := .int .i64 ((cn : Nat) : Int)) (x_move (.tmp rfl hρ316)) ?_
                refine st (v := .slice A301 ((joinS mine).length) c302) (x_move (.tmp rfl hρ314)) ?_
                refine st (v := .int .i64 ((((joinS mine).length) : Nat) : Int)) (x_len (n := ((joinS mine).length)) Try.underlying22 (.tmp rfl rfl)) ?_
                refine st (v := .bool (decide ((((cn : Nat) : Int) : Int) = ((((joinS mine).length) : Nat) : Int)))) (x_eql (k := .i64) (a := ((cn : Nat) : Int)) (b := ((((joinS mine).length) : Nat) : Int)) (.tmp rfl rfl) (.tmp rfl rfl)) ?_
                refine st (v := .bool (decide ((((cn : Nat) : Int) : Int) = ((((joinS mine).length) : Nat) : Int)))) (x_move (.tmp rfl rfl)) ?_
                have hc355 : (decide ((((cn : Nat) : Int) : Int) = ((((joinS mine).length) : Nat) : Int))) = true := (decide_eq_true (by omega))
                refine g_yes (yl (dj := 138) (b := true) rfl rfl (congrArg Value.bool hc355)) ?_
                refine st (v := .slice A301 ((joinS mine).length) c302) (x_move (.tmp rfl hρ314)) ?_
                refine g_yes (yl (dj := 138) (b := true) rfl rfl (congrArg Value.bool hc355)) ?_
                refine st (v := .int .i64 ((((joinS mine).length) : Nat) : Int)) (x_len (n := ((joinS mine).length)) Try.underlying22 (.tmp rfl rfl)) ?_
                refine g_yes (yl (dj := 138) (b := true) rfl rfl (congrArg Value.bool hc355)) ?_
                refine st (v := .bool (decide ((((((joinS mine).length) : Nat) : Int) : Int) ≤ 1))) (x_leq (k := .i64) (a := ((((joinS mine).length) : Nat) : Int)) (b := 1) (.tmp rfl rfl) .const) ?_
                refine st (v := .bool (decide ((((((joinS mine).length) : Nat) : Int) : Int) ≤ 1))) (x_pick_t (.tmp rfl (congrArg Value.bool hc355)) (.tmp rfl rfl)) ?_
                refine st (v := .bool (decide ((((((joinS mine).length) : Nat) : Int) : Int) ≤ 1))) (x_assign (.tmp rfl rfl)) ?_
                refine c_nil ?_
                refine n_then ?_
                refine c_ret ?_
                refine leave_ret (res_one (v := .bool (decide ((((((joinS mine).length) : Nat) : Int) : Int) ≤ 1))) rfl (.mk rfl rfl)) ?_
                have hyes : (decide ((((((joinS mine).length) : Nat) : Int) : Int) ≤ 1)) = true := (decide_eq_true (by omega))
                rw [hyes]
                exact ⟨rfl, (hs318.drop.weaken (((hle275.trans hle289).trans hle303).trans hle309))⟩
    · refine g_no (yl (dj := 30) (b := true) rfl rfl (congrArg Value.bool (by rw [hc15]; rfl))) rfl ?_
      refine g_no (yl (dj := 30) (b := true) rfl rfl (congrArg Value.bool (by rw [hc15]; rfl))) rfl ?_
      refine g_no (yl (dj := 30) (b := true) rfl rfl (congrArg Value.bool (by rw [hc15]; rfl))) rfl ?_
      refine st (v := .bool true) (x_pick_t (.tmp rfl (congrArg Value.bool (by rw [hc15]; rfl))) .const) ?_
      refine c_nil ?_
      refine n_then ?_
      refine c_cond_t (t := true) (.tmp rfl rfl) rfl ?_
      refine c_seq ?_
      refine c_region ?_
      refine st_c cb10 .func (evs0 ) (awake_spec hs14  ) ?_
      rintro e w356 ⟨rfl, hs357⟩
      refine ⟨_, rfl, ?_⟩
      refine st (v := .bool true) (x_assign (.tmp rfl rfl)) ?_
      refine c_nil ?_
      refine n_then ?_
      refine c_ret ?_
      refine r_then ?_
      refine leave_ret (res_one (v := .bool true) rfl (.mk rfl rfl)) ?_
      exact ⟨rfl, hs357.drop⟩
  · refine g_no (yl (dj := 25) (b := true) rfl rfl (congrArg Value.bool (by rw [hc12]; rfl))) rfl ?_
    refine g_no (yl (dj := 25) (b := true) rfl rfl (congrArg Value.bool (by rw [hc12]; rfl))) rfl ?_
    refine g_no (yl (dj := 25) (b := true) rfl rfl (congrArg Value.bool (by rw [hc12]; rfl))) rfl ?_
    refine st (v := .bool true) (x_pick_t (.tmp rfl (congrArg Value.bool (by rw [hc12]; rfl))) .const) ?_
    refine st (v := .bool true) (x_move (.tmp rfl rfl)) ?_
    refine g_no (yl (dj := 30) (b := true) rfl rfl rfl) rfl ?_
    refine g_no (yl (dj := 30) (b := true) rfl rfl rfl) rfl ?_
    refine g_no (yl (dj := 30) (b := true) rfl rfl rfl) rfl ?_
    refine st (v := .bool true) (x_pick_t (.tmp rfl rfl) .const) ?_
    refine c_nil ?_
    refine n_then ?_
    refine c_cond_t (t := true) (.tmp rfl rfl) rfl ?_
    refine c_seq ?_
    refine c_region ?_
    refine st_c cb10 .func (evs0 ) (awake_spec hs11  ) ?_
    rintro e w358 ⟨rfl, hs359⟩
    refine ⟨_, rfl, ?_⟩
    refine st (v := .bool true) (x_assign (.tmp rfl rfl)) ?_
    refine c_nil ?_
    refine n_then ?_
    refine c_ret ?_
    refine r_then ?_
    refine leave_ret (res_one (v := .bool true) rfl (.mk rfl rfl)) ?_
    exact ⟨rfl, hs359.drop⟩

end Go.Proofs.Ytkbllbphkdnmbaa
