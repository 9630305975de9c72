/- Steps of the proofs over the functions of this seat, printed by a program (gen.py) and checked by Lean. -/
import Derived.Test.YtkbllbphkdnmbaaUty
import Derived.Test.YtkbllbphkdnmbaaFmM6
import Derived.Test.YtkbllbphkdnmbaaU6a
set_option linter.unusedVariables false
set_option linter.unusedSimpArgs false
namespace Go.Proofs.Ytkbllbphkdnmbaa
open Go Go.FM Go.Proofs
attribute [local irreducible] wpList wpQuiet wpS Code.wp Calls
set_option maxHeartbeats 8000000 in
theorem end_spec {H : Hp} {w : World} {L : List Res} (hs : St H w (L)) (s : GState) {k_s : List Value} (h_s : kState.rep H s k_s) (hF1 : 0 ≤ s.Floor) (hF2 : s.Floor ≤ 1073741824) : Calls Try.prog 16 #[.agg k_s.toArray] w (fun e w' => e = .returned (.int .i64 (sEnd s)) ∧ St H w' (L)) := by
  obtain ⟨A6, n7, c8, rfl, b1, ⟨b2, b3⟩, ⟨b4, b5⟩, hl9⟩ := h_s
  have := hl9.len; have : n7 * 32 ≤ 140737488351232 := hl9.bnd; have := hl9.le
  refine enter (args := [.agg #[.int .u64 ((s.V.N : Nat) : Int), .int .i64 s.V.P, .int .i64 s.Floor, .slice A6 n7 c8]]) (N := 9) Try.func16 rfl rfl rfl ?_
  refine c_seq ?_
  refine c_region ?_
  refine st_m (m_box (cs := [.int .u64 ((s.V.N : Nat) : Int), .int .i64 s.V.P, .int .i64 s.Floor, .slice A6 n7 c8]) hs (v := .agg #[.int .u64 ((s.V.N : Nat) : Int), .int .i64 s.V.P, .int .i64 s.Floor, .slice A6 n7 c8]) (.tmp rfl rfl) rfl) ?_
  rintro _ w11 ⟨g10, rfl, hs13⟩
  refine st (v := .int .i64 0) (x_assign .const) ?_
  refine c_nil ?_
  refine n_then ?_
  refine c_seq ?_
  refine c_region ?_
  refine st (v := .pointer (some ⟨g10, 0 + 2, none⟩)) (fa38_1 (.tmp rfl rfl)) ?_
  refine st (v := .int .i64 s.Floor) (ld3 (.tmp rfl rfl) (hs13.cell 0 rfl (0 + 2) rfl)) ?_
  refine st (v := .pointer (some ⟨g10, 0 + 3, none⟩)) (fa38_2 (.tmp rfl rfl)) ?_
  refine st (v := .slice A6 n7 c8) (ld29 (.tmp rfl rfl) (hs13.cell 0 rfl (0 + 3) rfl)) ?_
  refine st (v := .int .i64 ((n7 : Nat) : Int)) (x_len (n := n7) Try.underlying29 (.tmp rfl rfl)) ?_
  refine st (v := .int .i64 (s.Floor + ((n7 : Nat) : Int))) (x_add (k := .i64) (a := s.Floor) (b := ((n7 : Nat) : Int)) (.tmp rfl rfl) (.tmp rfl rfl) (w64 (by omega) (by omega))) ?_
  refine st (v := .int .i64 (s.Floor + ((n7 : Nat) : Int))) (x_assign (.tmp rfl rfl)) ?_
  refine c_nil ?_
  refine n_then ?_
  refine c_ret ?_
  refine leave_ret (res_one (v := .int .i64 (s.Floor + ((n7 : Nat) : Int))) rfl (.mk rfl rfl)) ?_
  have hans14 : sEnd s = (s.Floor + ((n7 : Nat) : Int)) := by unfold sEnd; omega
  rw [hans14]
  exact ⟨rfl, hs13.drop⟩

set_option maxHeartbeats 8000000 in
theorem rend_spec {H : Hp} {w : World} {L : List Res} (hs : St H w (L)) (s : GState) {k_s : List Value} (h_s : kState.rep H s k_s) (hF1 : 0 ≤ s.Floor) (hF2 : s.Floor ≤ 1073741824) : Calls Try.prog 21 #[.agg k_s.toArray] w (fun e w' => e = .returned (.int .i64 (sEnd s)) ∧ St H w' (L)) := by
  obtain ⟨A6, n7, c8, rfl, b1, ⟨b2, b3⟩, ⟨b4, b5⟩, hl9⟩ := h_s
  have := hl9.len; have : n7 * 32 ≤ 140737488351232 := hl9.bnd; have := hl9.le
  refine enter (args := [.agg #[.int .u64 ((s.V.N : Nat) : Int), .int .i64 s.V.P, .int .i64 s.Floor, .slice A6 n7 c8]]) (N := 9) Try.func21 rfl rfl rfl ?_
  refine c_seq ?_
  refine c_region ?_
  refine st_m (m_box (cs := [.int .u64 ((s.V.N : Nat) : Int), .int .i64 s.V.P, .int .i64 s.Floor, .slice A6 n7 c8]) hs (v := .agg #[.int .u64 ((s.V.N : Nat) : Int), .int .i64 s.V.P, .int .i64 s.Floor, .slice A6 n7 c8]) (.tmp rfl rfl) rfl) ?_
  rintro _ w11 ⟨g10, rfl, hs13⟩
  refine st (v := .int .i64 0) (x_assign .const) ?_
  refine c_nil ?_
  refine n_then ?_
  refine c_seq ?_
  refine c_region ?_
  refine st (v := .pointer (some ⟨g10, 0 + 2, none⟩)) (fa38_1 (.tmp rfl rfl)) ?_
  refine st (v := .int .i64 s.Floor) (ld3 (.tmp rfl rfl) (hs13.cell 0 rfl (0 + 2) rfl)) ?_
  refine st (v := .pointer (some ⟨g10, 0 + 3, none⟩)) (fa38_2 (.tmp rfl rfl)) ?_
  refine st (v := .slice A6 n7 c8) (ld29 (.tmp rfl rfl) (hs13.cell 0 rfl (0 + 3) rfl)) ?_
  refine st (v := .int .i64 ((n7 : Nat) : Int)) (x_len (n := n7) Try.underlying29 (.tmp rfl rfl)) ?_
  refine st (v := .int .i64 (s.Floor + ((n7 : Nat) : Int))) (x_add (k := .i64) (a := s.Floor) (b := ((n7 : Nat) : Int)) (.tmp rfl rfl) (.tmp rfl rfl) (w64 (by omega) (by omega))) ?_
  refine st (v := .int .i64 (s.Floor + ((n7 : Nat) : Int))) (x_assign (.tmp rfl rfl)) ?_
  refine c_nil ?_
  refine n_then ?_
  refine c_ret ?_
  refine leave_ret (res_one (v := .int .i64 (s.Floor + ((n7 : Nat) : Int))) rfl (.mk rfl rfl)) ?_
  have hans14 : sEnd s = (s.Floor + ((n7 : Nat) : Int)) := by unfold sEnd; omega
  rw [hans14]
  exact ⟨rfl, hs13.drop⟩

set_option maxHeartbeats 8000000 in
theorem rest_p {H : Hp} {w : World} {L : List Res} (hs : St H w (L)) (s : GState) {k_s : List Value} (h_s : kState.rep H s k_s) {g_v : Nat} (v : GViewID) {k_v : List Value} (hg_v : Rd H (some ⟨g_v, 0, none⟩) k_v) (h_v : kViewID.rep H v k_v) : Calls Try.prog 24 #[.agg k_s.toArray, .pointer (some ⟨g_v, 0, none⟩)] w (fun e w' => e = .returned (.bool (decide (s.V = v))) ∧ St H w' (L)) := by
  obtain ⟨A6, n7, c8, rfl, b1, ⟨b2, b3⟩, ⟨b4, b5⟩, hl9⟩ := h_s
  have := hl9.len; have : n7 * 32 ≤ 140737488351232 := hl9.bnd; have := hl9.le
  obtain ⟨rfl, b10, ⟨b11, b12⟩⟩ := h_v
  have hat13 : ∀ {w : World} {L : List Res}, St H w L → At w ⟨g_v, 0, none⟩ [.int .u64 ((v.N : Nat) : Int), .int .i64 v.P] := fun h => hg_v.hat h
  refine enter (args := [.agg #[.int .u64 ((s.V.N : Nat) : Int), .int .i64 s.V.P, .int .i64 s.Floor, .slice A6 n7 c8], .pointer (some ⟨g_v, 0, none⟩)]) (N := 8) Try.func24 rfl rfl rfl ?_
  refine c_seq ?_
  refine c_region ?_
  refine st_m (m_box (cs := [.int .u64 ((s.V.N : Nat) : Int), .int .i64 s.V.P, .int .i64 s.Floor, .slice A6 n7 c8]) hs (v := .agg #[.int .u64 ((s.V.N : Nat) : Int), .int .i64 s.V.P, .int .i64 s.Floor, .slice A6 n7 c8]) (.tmp rfl rfl) rfl) ?_
  rintro _ w15 ⟨g14, rfl, hs17⟩
  refine st (v := .bool false) (x_assign .const) ?_
  refine c_nil ?_
  refine n_then ?_
  refine c_seq ?_
  refine c_region ?_
  refine st (v := .pointer (some ⟨g14, 0 + 0, none⟩)) (fa38_0 (.tmp rfl rfl)) ?_
  refine st (v := .agg #[.int .u64 ((s.V.N : Nat) : Int), .int .i64 s.V.P]) (ld25 (cs := [.int .u64 ((s.V.N : Nat) : Int), .int .i64 s.V.P]) (.tmp rfl rfl) (hs17.at_ 0 rfl (0 + 0) rfl) rfl) ?_
  refine st (v := .agg #[.int .u64 ((v.N : Nat) : Int), .int .i64 v.P]) (ld25 (cs := [.int .u64 ((v.N : Nat) : Int), .int .i64 v.P]) (.tmp rfl rfl) ((hat13 hs17).sub 0 rfl) rfl) ?_
  refine st (v := .bool ((((s.V.N : Nat) : Int) == ((v.N : Nat) : Int)) && ((s.V.P == v.P) && true))) (x_eqlA eqg25 (.tmp rfl rfl) (.tmp rfl rfl) (fun d => eqs25 (d + 98) _ ((s.V.N : Nat) : Int) ((v.N : Nat) : Int) s.V.P v.P)) ?_
  refine st (v := .bool (decide (s.V = v))) (x_assign (.tmp rfl (congrArg Value.bool (GViewID.beq_dec s.V v)))) ?_
  refine c_nil ?_
  refine n_then ?_
  refine c_ret ?_
  refine leave_ret (res_one (v := .bool (decide (s.V = v))) rfl (.mk rfl rfl)) ?_
  exact ⟨rfl, hs17.drop⟩

set_option maxHeartbeats 8000000 in
theorem index_state {H : Hp} {w : World} {L : List Res} (hs : St H w (L)) {A_l : Option Addr} {n_l c_l : Nat} (l : (List GState)) (h_l : Sl kState H A_l n_l c_l l) {f_p : Nat} {cap_p : Array Value} (p : GState → Bool) (cb_p : Cb Try.prog f_p) (h_p : ∀ {w : World} {L : List Res} (hs : St H w L) (x0_ : GState) {k_x0_ : List Value} (h_x0_ : kState.rep H x0_ k_x0_), Calls Try.prog f_p (#[.agg k_x0_.toArray] ++ cap_p) w (fun e w' => e = .returned (.bool (p x0_)) ∧ St H w' L)) : Calls Try.prog 23 #[.slice A_l n_l c_l, .func (.func f_p) #[] cap_p] w (fun e w' => e = .returned (.int .i64 (idxP p l)) ∧ St H w' (L)) := by
  have := h_l.len; have := h_l.le; have : n_l * 48 ≤ 140737488351232 := h_l.bnd
  refine enter (args := [.slice A_l n_l c_l, .func (.func f_p) #[] cap_p]) (N := 19) Try.func23 rfl rfl rfl ?_
  refine c_seq ?_
  refine c_region ?_
  refine st (v := .int .i64 0) (x_assign .const) ?_
  refine c_nil ?_
  refine n_then ?_
  refine c_seq ?_
  refine c_seq ?_
  refine c_region ?_
  refine st (v := .slice A_l n_l c_l) (x_move (.tmp rfl rfl)) ?_
  refine st (v := .int .i64 ((n_l : Nat) : Int)) (x_len (n := n_l) Try.underlying22 (.tmp rfl rfl)) ?_
  refine st (v := .int .i64 0) (x_move .const) ?_
  refine c_nil ?_
  refine n_then ?_
  refine c_block ?_
  refine c_loop (fun ρ w mm => ∃ (i : Nat), ρ 0 = .slice A_l n_l c_l ∧ ρ 1 = .func (.func f_p) #[] cap_p ∧ ρ 7 = .int .i64 ((n_l : Nat) : Int) ∧ ρ 8 = .int .i64 ((i : Nat) : Int) ∧ (i ≤ n_l) ∧ (∀ (j : Nat) (y : GState), j < i → l[j]? = some y → p y = false) ∧ St H w (L) ∧ mm = n_l - i) _ ⟨0, rfl, rfl, rfl, rfl, (by omega), (fun j y h _ => absurd h (Nat.not_lt_zero _)), hs, rfl⟩ ?_
  rintro ρ w mm ⟨i, hρ2, hρ3, hρ4, hρ5, hi, ha, hs6, rfl⟩
  refine c_seq ?_
  refine c_region ?_
  refine st (v := .bool (decide ((((i : Nat) : Int) : Int) < ((n_l : Nat) : Int)))) (x_lss (k := .i64) (a := ((i : Nat) : Int)) (b := ((n_l : Nat) : Int)) (.tmp rfl hρ5) (.tmp rfl hρ4)) ?_
  refine c_nil ?_
  refine n_then ?_
  refine c_seq ?_
  rcases Bool.eq_false_or_eq_true (decide ((((i : Nat) : Int) : Int) < ((n_l : Nat) : Int))) with hc7 | hc7
  · have hp7 : (((i : Nat) : Int) : Int) < ((n_l : Nat) : Int) := of_decide_eq_true hc7
    refine c_cond_t (t := true) (.tmp rfl (congrArg Value.bool hc7)) rfl ?_
    refine c_skip ?_
    refine n_then ?_
    refine c_seq ?_
    refine c_block ?_
    refine c_seq ?_
    refine c_region ?_
    refine st (v := .int .i64 ((i : Nat) : Int)) (x_move (.tmp rfl hρ5)) ?_
    refine st (v := .int .i64 ((i : Nat) : Int)) (x_assign (.tmp rfl rfl)) ?_
    refine c_nil ?_
    refine n_then ?_
    refine c_seq ?_
    refine c_region ?_
    refine st (v := .func (.func f_p) #[] cap_p) (x_move (.tmp rfl hρ3)) ?_
    refine st (v := .slice A_l n_l c_l) (x_move (.tmp rfl hρ2)) ?_
    refine st (v := .int .i64 ((i : Nat) : Int)) (x_move (.tmp rfl rfl)) ?_
    obtain ⟨e8, b9, o10, cs11, hx12, hA13, hr14, hat15⟩ := h_l.get (i := i) (by omega)
    obtain ⟨A21, n22, c23, rfl, b16, ⟨b17, b18⟩, ⟨b19, b20⟩, hl24⟩ := hr14
    have := hl24.len; have : n22 * 32 ≤ 140737488351232 := hl24.bnd; have := hl24.le
    have hat15x : ∀ {w : World} {L : List Res}, St H w L → At w ⟨b9, o10 + i * 4, none⟩ [.int .u64 ((e8.V.N : Nat) : Int), .int .i64 e8.V.P, .int .i64 e8.Floor, .slice A21 n22 c23] := fun h => hat15 h
    refine st (v := .pointer (some ⟨b9, (o10 + i * 4), none⟩)) (ixo22 (.tmp rfl rfl) hA13 (i := ((i : Nat) : Int)) (.tmp rfl rfl) (by omega) (by omega) (by omega)) ?_
    refine st (v := .agg #[.int .u64 ((e8.V.N : Nat) : Int), .int .i64 e8.V.P, .int .i64 e8.Floor, .slice A21 n22 c23]) (ld38 (cs := [.int .u64 ((e8.V.N : Nat) : Int), .int .i64 e8.V.P, .int .i64 e8.Floor, .slice A21 n22 c23]) (.tmp rfl rfl) ((hat15x hs6).sub 0 rfl) rfl) ?_
    have hr25 : kState.rep H e8 [.int .u64 ((e8.V.N : Nat) : Int), .int .i64 e8.V.P, .int .i64 e8.Floor, .slice A21 n22 c23] := ⟨A21, n22, c23, rfl, b16, ⟨b17, b18⟩, ⟨b19, b20⟩, hl24⟩
    refine st_cc cb_p (.tmp rfl rfl) (evs1 (.tmp rfl rfl)) rfl (h_p hs6 e8 hr25) ?_
    rintro e w26 ⟨rfl, hs27⟩
    refine ⟨_, rfl, ?_⟩
    refine c_nil ?_
    refine n_then ?_
    rcases Bool.eq_false_or_eq_true (p e8) with hc28 | hc28
    · refine c_cond_t (t := true) (.tmp rfl (congrArg Value.bool hc28)) rfl ?_
      refine c_seq ?_
      refine c_region ?_
      refine st (v := .int .i64 ((i : Nat) : Int)) (x_move (.tmp rfl rfl)) ?_
      refine st (v := .int .i64 ((i : Nat) : Int)) (x_assign (.tmp rfl rfl)) ?_
      refine c_nil ?_
      refine n_then ?_
      refine c_ret ?_
      refine r_block ?_
      refine r_then ?_
      refine r_then ?_
      refine r_block ?_
      refine r_then ?_
      refine leave_ret (res_one (v := .int .i64 ((i : Nat) : Int)) rfl (.mk rfl rfl)) ?_
      have hans29 : idxP p l = ((i : Nat) : Int) := idxP_at p l i _ hx12 hc28 ha
      rw [hans29]
      exact ⟨rfl, hs27⟩
    · refine c_cond_f (t := false) (.tmp rfl (congrArg Value.bool hc28)) rfl ?_
      refine c_skip ?_
      refine n_block ?_
      refine n_then ?_
      refine c_region ?_
      refine st (v := .int .i64 (((i + 1) : Nat) : Int)) (x_add (k := .i64) (a := ((i : Nat) : Int)) (b := 1) (.tmp rfl hρ5) .const ((w64 (by omega) (by omega)).trans (by omega))) ?_
      refine st (v := .int .i64 (((i + 1) : Nat) : Int)) (x_move (.tmp rfl rfl)) ?_
      refine c_nil ?_
      refine n_then ⟨_, _, rfl, ?_, (i + 1), hρ2, hρ3, hρ4, rfl, (by omega), (before_next ha hx12 hc28), hs27, rfl⟩
      omega
  · have hp7 : ¬ ((((i : Nat) : Int) : Int) < ((n_l : Nat) : Int)) := of_decide_eq_false hc7
    refine c_cond_f (t := false) (.tmp rfl (congrArg Value.bool hc7)) rfl ?_
    refine c_exit ?_
    refine x_then ?_
    refine x_then ?_
    refine x_here ?_
    refine n_then ?_
    refine c_seq ?_
    refine c_region ?_
    refine st (v := .int .i64 (-1)) (x_assign .const) ?_
    refine c_nil ?_
    refine n_then ?_
    refine c_ret ?_
    refine leave_ret (res_one (v := .int .i64 (-1)) rfl (.mk rfl rfl)) ?_
    have hans30 : idxP p l = -1 := idxP_none p l (fun j y hy => ha j y (by have := (List.getElem?_eq_some_iff.1 hy).1; omega) hy)
    rw [hans30]
    exact ⟨rfl, hs6⟩

set_option maxHeartbeats 8000000 in
theorem clone_item {H : Hp} {w : World} {L : List Res} (hs : St H w (L)) {A_l : Option Addr} {n_l c_l : Nat} (l : (List GItem)) (h_l : Sl kItem H A_l n_l c_l l) : Calls Try.prog 25 #[.slice A_l n_l c_l] w (fun e w' => ∃ (v0 : Value) (cs0 : List Value), e = .returned (v0) ∧ RowOk kItem.sz v0 (l).length cs0 ∧ kItem.toKn.rows H (l) cs0 ∧ St H w' (row 47 kItem.sz v0 (l).length cs0 :: L)) := by
  have := h_l.len; have := h_l.le; have : n_l * 32 ≤ 140737488351232 := h_l.bnd
  refine enter (args := [.slice A_l n_l c_l]) (N := 8) Try.func25 rfl rfl rfl ?_
  refine c_seq ?_
  refine c_region ?_
  refine st (v := .slice none 0 0) (x_assign .const) ?_
  refine c_nil ?_
  refine n_then ?_
  refine c_seq ?_
  refine c_seq ?_
  refine c_region ?_
  refine st (v := .slice A_l n_l c_l) (x_move (.tmp rfl rfl)) ?_
  refine st (v := .bool (A_l.isNone)) (x_eqlSN Try.underlying29 (.tmp rfl rfl) .const) ?_
  refine c_nil ?_
  refine n_then ?_
  rcases Bool.eq_false_or_eq_true (A_l.isNone) with hc1 | hc1
  · refine c_cond_t (t := true) (.tmp rfl (congrArg Value.bool hc1)) rfl ?_
    refine c_seq ?_
    refine c_region ?_
    refine st (v := .slice none 0 0) (x_assign .const) ?_
    refine c_nil ?_
    refine n_then ?_
    refine c_ret ?_
    refine r_then ?_
    refine leave_ret (res_one (v := .slice none 0 0) rfl (.mk rfl rfl)) ?_
    obtain rfl : l = [] := h_l.isNone hc1
    have hs2 : St H _ (row 47 2 (.slice none 0 0) (([] : List GItem).length) [] :: L) := hs.krowNil 47 kItem
    exact ⟨(.slice none 0 0), [], rfl, (RowOk.knil kItem), (Kn.rows_nil _ _), hs2⟩
  · refine c_cond_f (t := false) (.tmp rfl (congrArg Value.bool hc1)) rfl ?_
    refine c_skip ?_
    refine n_then ?_
    refine c_seq ?_
    refine c_region ?_
    refine st_m (m_lit0 Try.underlying29 inf47 hs) ?_
    rintro _ w5 ⟨g4, rfl, hs6⟩
    obtain ⟨hs7, ok8⟩ := hs6.krow0 (d := kItem)
    have : ([] : List GItem).length = 0 := rfl
    refine st (v := .slice A_l n_l c_l) (x_move (.tmp rfl rfl)) ?_
    refine st_m (m_appSl (d := kItem) (ys := l) Try.underlying29 inf47 rfl hs7 ok8 (Kn.rows_nil _ _) (.tmp rfl rfl) (.tmp rfl rfl) h_l (by omega) (by decide)) ?_
    rintro v10 w11 ⟨cs12, ok13, hk14, hs15⟩
    have hn16 : (([] : List GItem) ++ l).length = ([] : List GItem).length + n_l := by rw [List.length_append, h_l.len]
    have hn16 : l.length = n_l := h_l.len
    have ok13 : RowOk kItem.sz v10 l.length cs12 := ok13
    have hk14 : kItem.toKn.rows H l cs12 := hk14
    have hs15 : St H _ (row 47 2 v10 l.length cs12 :: L) := hs15
    refine st (v := v10) (x_assign (.tmp rfl rfl)) ?_
    refine c_nil ?_
    refine n_then ?_
    refine c_ret ?_
    refine leave_ret (res_one (v := v10) rfl (.mk rfl rfl)) ?_
    rw [List.nil_append] at *
    exact ⟨v10, cs12, rfl, ok13, hk14, hs15⟩

set_option maxHeartbeats 8000000 in
theorem rest_spec {H : Hp} {w : World} {L : List Res} (hs : St H w (L)) {A_l : Option Addr} {n_l c_l : Nat} (l : (List GState)) (h_l : Sl kState H A_l n_l c_l l) (v : GViewID) {k_v : List Value} (h_v : kViewID.rep H v k_v) (had : Int) (b_had : IB had) (hb : ∀ s ∈ l, 0 ≤ s.Floor ∧ s.Floor ≤ 1073741824) : Calls Try.prog 13 #[.slice A_l n_l c_l, .agg k_v.toArray, .int .i64 had] w (fun e w' => ∃ (H' : Hp) (A0 : Option Addr) (n0 c0 : Nat), H.le H' ∧ e = .returned (.tuple #[.slice A0 n0 c0, .int .i64 (((restS l v had).2 : Nat) : Int)]) ∧ Sl kItem H' A0 n0 c0 ((restS l v had).1) ∧ St H' w' (L)) := by
  have := h_l.len; have := h_l.le; have : n_l * 48 ≤ 140737488351232 := h_l.bnd
  obtain ⟨rfl, b1, ⟨b2, b3⟩⟩ := h_v
  obtain ⟨b_had1, b_had2⟩ := b_had
  refine enter (args := [.slice A_l n_l c_l, .agg #[.int .u64 ((v.N : Nat) : Int), .int .i64 v.P], .int .i64 had]) (N := 40) Try.func13 rfl rfl rfl ?_
  refine c_seq ?_
  refine c_region ?_
  refine st_m (m_box (cs := [.int .u64 ((v.N : Nat) : Int), .int .i64 v.P]) hs (v := .agg #[.int .u64 ((v.N : Nat) : Int), .int .i64 v.P]) (.tmp rfl rfl) rfl) ?_
  rintro _ w5 ⟨g4, rfl, hs7⟩
  refine st (v := .slice none 0 0) (x_assign .const) ?_
  refine st (v := .int .i64 0) (x_assign .const) ?_
  refine c_nil ?_
  refine n_then ?_
  refine c_seq ?_
  refine c_seq ?_
  refine c_region ?_
  refine st (v := .pointer (some ⟨g4, 0 + 0, none⟩)) (fa25_0 (.tmp rfl rfl)) ?_
  refine st (v := .int .u64 ((v.N : Nat) : Int)) (ld23 (.tmp rfl rfl) (hs7.cell 0 rfl (0 + 0) rfl)) ?_
  refine st (v := .bool (decide ((((v.N : Nat) : Int) : Int) = 0))) (x_eql (k := .u64) (a := ((v.N : Nat) : Int)) (b := 0) (.tmp rfl rfl) .const) ?_
  refine c_nil ?_
  refine n_then ?_
  rcases Bool.eq_false_or_eq_true (decide ((((v.N : Nat) : Int) : Int) = 0)) with hc8 | hc8
  · have hp8 : (((v.N : Nat) : Int) : Int) = 0 := of_decide_eq_true hc8
    refine c_cond_t (t := true) (.tmp rfl (congrArg Value.bool hc8)) rfl ?_
    refine c_seq ?_
    refine c_region ?_
    refine st (v := .slice none 0 0) (x_assign .const) ?_
    refine st (v := .int .i64 0) (x_assign .const) ?_
    refine c_nil ?_
    refine n_then ?_
    refine c_ret ?_
    refine r_then ?_
    refine leave_ret (res_two (v := .slice none 0 0) (u := .int .i64 0) rfl (.mk rfl rfl) (.mk rfl rfl)) ?_
    have hans9 : restS l v had = ([], 0) := restS_zero (by omega)
    rw [hans9]
    exact ⟨H, none, 0, 0, (Hp.le.refl _), rfl, (Sl.nil _ _ none), hs7.drop⟩
  · have hp8 : ¬ ((((v.N : Nat) : Int) : Int) = 0) := of_decide_eq_false hc8
    refine c_cond_f (t := false) (.tmp rfl (congrArg Value.bool hc8)) rfl ?_
    refine c_skip ?_
    refine n_then ?_
    refine c_seq ?_
    refine c_region ?_
    refine st (v := .slice A_l n_l c_l) (x_move (.tmp rfl rfl)) ?_
    obtain ⟨H10, hle11, hs12, rd13, hb14⟩ := hs7.freezeObj
    have hat15 : ∀ {w : World} {L : List Res}, St H10 w L → At w ⟨g4, 0, none⟩ [.int .u64 ((v.N : Nat) : Int), .int .i64 v.P] := fun h => rd13.hat h
    refine st (v := .func (.func 24) #[] #[.pointer (some ⟨g4, 0, none⟩)]) (x_makeFunc (vs := #[]) (us := #[.pointer (some ⟨g4, 0, none⟩)]) evs0 (evs1 (.tmp rfl rfl))) ?_
    refine st_c cb23 .func (evs2 (.tmp rfl rfl) (.tmp rfl rfl)) (index_state hs12 l (h_l.mono hle11) (fun (y0 : GState) => (decide (y0.V = v))) cb24 (fun {_} {_} hs y0 {_} h0 => rest_p hs y0 h0 v rd13 ⟨rfl, b1, ⟨b2, b3⟩⟩) ) ?_
    rintro e w16 ⟨rfl, hs17⟩
    refine ⟨_, rfl, ?_⟩
    refine st (v := .int .i64 (idxP (fun (y0 : GState) => (decide (y0.V = v))) l)) (x_assign (.tmp rfl rfl)) ?_
    refine c_nil ?_
    refine n_then ?_
    refine c_seq ?_
    refine c_seq ?_
    refine c_region ?_
    have := idxP_ge (fun y0 : GState => (decide (y0.V = v))) l
    refine st (v := .int .i64 (idxP (fun (y0 : GState) => (decide (y0.V = v))) l)) (x_move (.tmp rfl rfl)) ?_
    refine st (v := .bool (decide (((idxP (fun (y0 : GState) => (decide (y0.V = v))) l) : Int) < 0))) (x_lss (k := .i64) (a := (idxP (fun (y0 : GState) => (decide (y0.V = v))) l)) (b := 0) (.tmp rfl rfl) .const) ?_
    refine c_nil ?_
    refine n_then ?_
    rcases Bool.eq_false_or_eq_true (decide (((idxP (fun (y0 : GState) => (decide (y0.V = v))) l) : Int) < 0)) with hc18 | hc18
    · have hp18 : ((idxP (fun (y0 : GState) => (decide (y0.V = v))) l) : Int) < 0 := of_decide_eq_true hc18
      refine c_cond_t (t := true) (.tmp rfl (congrArg Value.bool hc18)) rfl ?_
      refine c_seq ?_
      refine c_region ?_
      refine st (v := .slice none 0 0) (x_assign .const) ?_
      refine st (v := .int .i64 6) (x_assign .const) ?_
      refine c_nil ?_
      refine n_then ?_
      refine c_ret ?_
      refine r_then ?_
      refine leave_ret (res_two (v := .slice none 0 0) (u := .int .i64 6) rfl (.mk rfl rfl) (.mk rfl rfl)) ?_
      have hans19 : restS l v had = ([], 6) := restS_none (by omega) (by omega)
      rw [hans19]
      exact ⟨H10, none, 0, 0, hle11, rfl, (Sl.nil _ _ none), hs17⟩
    · have hp18 : ¬ (((idxP (fun (y0 : GState) => (decide (y0.V = v))) l) : Int) < 0) := of_decide_eq_false hc18
      refine c_cond_f (t := false) (.tmp rfl (congrArg Value.bool hc18)) rfl ?_
      refine c_skip ?_
      refine n_then ?_
      refine c_seq ?_
      refine c_region ?_
      refine st (v := .slice A_l n_l c_l) (x_move (.tmp rfl rfl)) ?_
      refine st (v := .int .i64 (idxP (fun (y0 : GState) => (decide (y0.V = v))) l)) (x_move (.tmp rfl rfl)) ?_
      obtain ⟨e20, b21, o22, cs23, hx24, hA25, hr26, hat27⟩ := (h_l.mono hle11).get (i := (idxP (fun (y0 : GState) => (decide (y0.V = v))) l).toNat) (by omega)
      obtain ⟨A33, n34, c35, rfl, b28, ⟨b29, b30⟩, ⟨b31, b32⟩, hl36⟩ := hr26
      have := hl36.len; have : n34 * 32 ≤ 140737488351232 := hl36.bnd; have := hl36.le
      have hat27x : ∀ {w : World} {L : List Res}, St H10 w L → At w ⟨b21, o22 + ((idxP (fun (y0 : GState) => (decide (y0.V = v))) l).toNat) * 4, none⟩ [.int .u64 ((e20.V.N : Nat) : Int), .int .i64 e20.V.P, .int .i64 e20.Floor, .slice A33 n34 c35] := fun h => hat27 h
      have := hb e20 (List.mem_of_getElem? hx24)
      have hEe20 : sEnd e20 = e20.Floor + (e20.Items.length : Int) := rfl
      refine st (v := .pointer (some ⟨b21, (o22 + ((idxP (fun (y0 : GState) => (decide (y0.V = v))) l).toNat) * 4), none⟩)) (ixo22 (.tmp rfl rfl) hA25 (i := (idxP (fun (y0 : GState) => (decide (y0.V = v))) l)) (.tmp rfl rfl) (by omega) (by omega) (by omega)) ?_
      refine st (v := .agg #[.int .u64 ((e20.V.N : Nat) : Int), .int .i64 e20.V.P, .int .i64 e20.Floor, .slice A33 n34 c35]) (ld38 (cs := [.int .u64 ((e20.V.N : Nat) : Int), .int .i64 e20.V.P, .int .i64 e20.Floor, .slice A33 n34 c35]) (.tmp rfl rfl) ((hat27x hs17).sub 0 rfl) rfl) ?_
      refine st_m (al38 (cs := [.int .u64 0, .int .i64 0, .int .i64 0, .slice none 0 0]) hs17 rfl) ?_
      rintro _ w38 ⟨g37, rfl, hs40⟩
      refine st_m0 (sto38 (cs' := [.int .u64 ((e20.V.N : Nat) : Int), .int .i64 e20.V.P, .int .i64 e20.Floor, .slice A33 n34 c35]) (i := 0) hs40 (v := .agg #[.int .u64 ((e20.V.N : Nat) : Int), .int .i64 e20.V.P, .int .i64 e20.Floor, .slice A33 n34 c35]) (.tmp rfl rfl) (.tmp rfl rfl) rfl (Nat.le_of_ble_eq_true rfl) (oneA rfl) rfl) ?_
      rintro w41 hs43
      refine c_nil ?_
      refine n_then ?_
      refine c_seq ?_
      refine c_seq ?_
      refine c_region ?_
      refine st (v := .int .i64 had) (x_move (.tmp rfl rfl)) ?_
      refine st (v := .pointer (some ⟨g37, 0 + 2, none⟩)) (fa38_1 (.tmp rfl rfl)) ?_
      refine st (v := .int .i64 e20.Floor) (ld3 (.tmp rfl rfl) (hs43.cell 0 rfl (0 + 2) rfl)) ?_
      refine st (v := .bool (decide ((had : Int) < e20.Floor))) (x_lss (k := .i64) (a := had) (b := e20.Floor) (.tmp rfl rfl) (.tmp rfl rfl)) ?_
      refine st (v := .bool (decide ((had : Int) < e20.Floor))) (x_move (.tmp rfl rfl)) ?_
      rcases Bool.eq_false_or_eq_true (decide ((had : Int) < e20.Floor)) with hc44 | hc44
      · have hp44 : (had : Int) < e20.Floor := of_decide_eq_true hc44
        refine g_no (yl (dj := 26) (b := true) rfl rfl (congrArg Value.bool hc44)) rfl ?_
        refine g_no (yl (dj := 26) (b := true) rfl rfl (congrArg Value.bool hc44)) rfl ?_
        refine g_no (yl (dj := 26) (b := true) rfl rfl (congrArg Value.bool hc44)) rfl ?_
        refine g_no (yl (dj := 26) (b := true) rfl rfl (congrArg Value.bool hc44)) rfl ?_
        refine st (v := .bool true) (x_pick_t (.tmp rfl (congrArg Value.bool hc44)) .const) ?_
        refine c_nil ?_
        refine n_then ?_
        refine c_cond_t (t := true) (.tmp rfl rfl) rfl ?_
        refine c_seq ?_
        refine c_region ?_
        refine st (v := .slice none 0 0) (x_assign .const) ?_
        refine st (v := .int .i64 1) (x_assign .const) ?_
        refine c_nil ?_
        refine n_then ?_
        refine c_ret ?_
        refine r_then ?_
        refine leave_ret (res_two (v := .slice none 0 0) (u := .int .i64 1) rfl (.mk rfl rfl) (.mk rfl rfl)) ?_
        have hf := restS_find (by omega) hx24
        have hans45 : restS l v had = ([], 1) := restS_out (by omega) hf (by omega)
        rw [hans45]
        exact ⟨H10, none, 0, 0, hle11, rfl, (Sl.nil _ _ none), hs43.drop⟩
      · have hp44 : ¬ ((had : Int) < e20.Floor) := of_decide_eq_false hc44
        refine g_yes (yl (dj := 26) (b := false) rfl rfl (congrArg Value.bool hc44)) ?_
        refine st (v := .int .i64 had) (x_move (.tmp rfl rfl)) ?_
        refine g_yes (yl (dj := 26) (b := false) rfl rfl (congrArg Value.bool hc44)) ?_
        refine st (v := .agg #[.int .u64 ((e20.V.N : Nat) : Int), .int .i64 e20.V.P, .int .i64 e20.Floor, .slice A33 n34 c35]) (ld38 (cs := [.int .u64 ((e20.V.N : Nat) : Int), .int .i64 e20.V.P, .int .i64 e20.Floor, .slice A33 n34 c35]) (.tmp rfl rfl) (hs43.at_ 0 rfl (0) rfl) rfl) ?_
        refine g_yes (yl (dj := 26) (b := false) rfl rfl (congrArg Value.bool hc44)) ?_
        have hr46 : kState.rep H10 e20 [.int .u64 ((e20.V.N : Nat) : Int), .int .i64 e20.V.P, .int .i64 e20.Floor, .slice A33 n34 c35] := ⟨A33, n34, c35, rfl, b28, ⟨b29, b30⟩, ⟨b31, b32⟩, hl36⟩
        refine st_c cb16 .func (evs1 (.tmp rfl rfl)) (end_spec hs43 e20 hr46 (show (0 : Int) ≤ e20.Floor from by omega) (show e20.Floor ≤ (1073741824 : Int) from by omega)) ?_
        rintro e w47 ⟨rfl, hs48⟩
        refine ⟨_, rfl, ?_⟩
        refine g_yes (yl (dj := 26) (b := false) rfl rfl (congrArg Value.bool hc44)) ?_
        refine st (v := .bool (decide (((sEnd e20) : Int) < had))) (x_gtr (k := .i64) (a := had) (b := (sEnd e20)) (.tmp rfl rfl) (.tmp rfl rfl)) ?_
        refine st (v := .bool (decide (((sEnd e20) : Int) < had))) (x_pick_f (.tmp rfl (congrArg Value.bool hc44)) (.tmp rfl rfl)) ?_
        refine c_nil ?_
        refine n_then ?_
        rcases Bool.eq_false_or_eq_true (decide (((sEnd e20) : Int) < had)) with hc49 | hc49
        · have hp49 : ((sEnd e20) : Int) < had := of_decide_eq_true hc49
          refine c_cond_t (t := true) (.tmp rfl (congrArg Value.bool hc49)) rfl ?_
          refine c_seq ?_
          refine c_region ?_
          refine st (v := .slice none 0 0) (x_assign .const) ?_
          refine st (v := .int .i64 1) (x_assign .const) ?_
          refine c_nil ?_
          refine n_then ?_
          refine c_ret ?_
          refine r_then ?_
          refine leave_ret (res_two (v := .slice none 0 0) (u := .int .i64 1) rfl (.mk rfl rfl) (.mk rfl rfl)) ?_
          have hf := restS_find (by omega) hx24
          have hans50 : restS l v had = ([], 1) := restS_out (by omega) hf (by omega)
          rw [hans50]
          exact ⟨H10, none, 0, 0, hle11, rfl, (Sl.nil _ _ none), hs48.drop⟩
        · have hp49 : ¬ (((sEnd e20) : Int) < had) := of_decide_eq_false hc49
          refine c_cond_f (t := false) (.tmp rfl (congrArg Value.bool hc49)) rfl ?_
          refine c_skip ?_
          refine n_then ?_
          refine c_seq ?_
          refine c_region ?_
          refine st (v := .pointer (some ⟨g37, 0 + 3, none⟩)) (fa38_2 (.tmp rfl rfl)) ?_
          refine st (v := .slice A33 n34 c35) (ld29 (.tmp rfl rfl) (hs48.cell 0 rfl (0 + 3) rfl)) ?_
          refine st (v := .int .i64 had) (x_move (.tmp rfl rfl)) ?_
          refine st (v := .pointer (some ⟨g37, 0 + 2, none⟩)) (fa38_1 (.tmp rfl rfl)) ?_
          refine st (v := .int .i64 e20.Floor) (ld3 (.tmp rfl rfl) (hs48.cell 0 rfl (0 + 2) rfl)) ?_
          refine st (v := .int .i64 (had - e20.Floor)) (x_sub (k := .i64) (a := had) (b := e20.Floor) (.tmp rfl rfl) (.tmp rfl rfl) (w64 (by omega) (by omega))) ?_
          refine st (v := .slice (cutA A33 c35 ((had - e20.Floor).toNat) 2) (n34 - ((had - e20.Floor).toNat)) (c35 - ((had - e20.Floor).toNat))) (sl_l (d := kItem) Try.underlying29 inf47 (a := (had - e20.Floor)) (.tmp rfl rfl) (.tmp rfl rfl) (by omega) (by omega) (by omega)) ?_
          refine st_c cb25 .func (evs1 (.tmp rfl rfl)) (clone_item hs48 (e20.Items.drop ((had - e20.Floor).toNat)) (hl36.drop (k := ((had - e20.Floor).toNat)) (by omega)) ) ?_
          rintro e w51 ⟨v53, cs56, rfl, ok54, hk57, hs52⟩
          have := (hl36.drop (k := ((had - e20.Floor).toNat)) (by omega)).len
          refine ⟨_, rfl, ?_⟩
          refine st (v := v53) (x_assign (.tmp rfl rfl)) ?_
          refine st (v := .int .i64 0) (x_assign .const) ?_
          refine c_nil ?_
          refine n_then ?_
          refine c_ret ?_
          refine leave_ret (res_two (v := v53) (u := .int .i64 0) rfl (.mk rfl rfl) (.mk rfl rfl)) ?_
          have hf := restS_find (by omega) hx24
          have hans58 : restS l v had = ((e20.Items.drop ((had - e20.Floor).toNat)), 0) := restS_in (by omega) hf (by omega)
          rw [hans58]
          have : (e20.Items.drop ((had - e20.Floor).toNat)).length * 32 ≤ 140737488351232 := by omega
          obtain ⟨H59, A60, c61, hle62, hs63, rfl, sp64⟩ := hs52.freezeSl (d := kItem) ok54 hk57 this
          have := sp64.len; have := sp64.le
          exact ⟨H59, A60, ((e20.Items.drop ((had - e20.Floor).toNat)).length), c61, (hle11.trans hle62), rfl, sp64, hs63.drop⟩

set_option maxHeartbeats 8000000 in
theorem rrest_spec {H : Hp} {w : World} {L : List Res} (hs : St H w (L)) {A_l : Option Addr} {n_l c_l : Nat} (l : (List GState)) (h_l : Sl kState H A_l n_l c_l l) (v : GViewID) {k_v : List Value} (h_v : kViewID.rep H v k_v) (had : Int) (b_had : IB had) (hb : ∀ s ∈ l, 0 ≤ s.Floor ∧ s.Floor ≤ 1073741824) : Calls Try.prog 14 #[.slice A_l n_l c_l, .agg k_v.toArray, .int .i64 had] w (fun e w' => ∃ (A0 : Option Addr) (n0 c0 : Nat), e = .returned (.tuple #[.slice A0 n0 c0, .int .i64 (((restS l v had).2 : Nat) : Int)]) ∧ Sl kItem H A0 n0 c0 ((restS l v had).1) ∧ St H w' (L)) := by
  have := h_l.len; have := h_l.le; have : n_l * 48 ≤ 140737488351232 := h_l.bnd
  obtain ⟨rfl, b1, ⟨b2, b3⟩⟩ := h_v
  obtain ⟨b_had1, b_had2⟩ := b_had
  refine enter (args := [.slice A_l n_l c_l, .agg #[.int .u64 ((v.N : Nat) : Int), .int .i64 v.P], .int .i64 had]) (N := 54) Try.func14 rfl rfl rfl ?_
  refine c_seq ?_
  refine c_region ?_
  refine st_m (m_box (cs := [.int .u64 ((v.N : Nat) : Int), .int .i64 v.P]) hs (v := .agg #[.int .u64 ((v.N : Nat) : Int), .int .i64 v.P]) (.tmp rfl rfl) rfl) ?_
  rintro _ w5 ⟨g4, rfl, hs7⟩
  refine st (v := .slice none 0 0) (x_assign .const) ?_
  refine st (v := .int .i64 0) (x_assign .const) ?_
  refine c_nil ?_
  refine n_then ?_
  refine c_seq ?_
  refine c_seq ?_
  refine c_region ?_
  refine st (v := .pointer (some ⟨g4, 0 + 0, none⟩)) (fa25_0 (.tmp rfl rfl)) ?_
  refine st (v := .int .u64 ((v.N : Nat) : Int)) (ld23 (.tmp rfl rfl) (hs7.cell 0 rfl (0 + 0) rfl)) ?_
  refine st (v := .bool (decide ((((v.N : Nat) : Int) : Int) = 0))) (x_eql (k := .u64) (a := ((v.N : Nat) : Int)) (b := 0) (.tmp rfl rfl) .const) ?_
  refine c_nil ?_
  refine n_then ?_
  rcases Bool.eq_false_or_eq_true (decide ((((v.N : Nat) : Int) : Int) = 0)) with hc8 | hc8
  · have hp8 : (((v.N : Nat) : Int) : Int) = 0 := of_decide_eq_true hc8
    refine c_cond_t (t := true) (.tmp rfl (congrArg Value.bool hc8)) rfl ?_
    refine c_seq ?_
    refine c_region ?_
    refine st (v := .slice none 0 0) (x_assign .const) ?_
    refine st (v := .int .i64 0) (x_assign .const) ?_
    refine c_nil ?_
    refine n_then ?_
    refine c_ret ?_
    refine r_then ?_
    refine leave_ret (res_two (v := .slice none 0 0) (u := .int .i64 0) rfl (.mk rfl rfl) (.mk rfl rfl)) ?_
    have hans9 : restS l v had = ([], 0) := restS_zero (by omega)
    rw [hans9]
    exact ⟨none, 0, 0, rfl, (Sl.nil _ _ none), hs7.drop⟩
  · have hp8 : ¬ ((((v.N : Nat) : Int) : Int) = 0) := of_decide_eq_false hc8
    refine c_cond_f (t := false) (.tmp rfl (congrArg Value.bool hc8)) rfl ?_
    refine c_skip ?_
    refine n_then ?_
    refine c_seq ?_
    refine c_seq ?_
    refine c_region ?_
    refine st (v := .int .i64 0) (x_assign .const) ?_
    refine c_nil ?_
    refine n_then ?_
    refine c_block ?_
    refine c_loop (fun ρ w mm => ∃ (i : Nat), ρ 0 = .slice A_l n_l c_l ∧ ρ 2 = .int .i64 had ∧ ρ 4 = .pointer (some ⟨g4, 0, none⟩) ∧ ρ 8 = .int .i64 ((i : Nat) : Int) ∧ (i ≤ n_l) ∧ (∀ (j : Nat) (y : GState), j < i → l[j]? = some y → decide (y.V = v) = false) ∧ St H w (obj g4 25 [.int .u64 ((v.N : Nat) : Int), .int .i64 v.P] :: L) ∧ mm = n_l - i) _ ⟨0, rfl, rfl, rfl, rfl, (by omega), (fun j y h _ => absurd h (Nat.not_lt_zero _)), hs7, rfl⟩ ?_
    rintro ρ w mm ⟨i, hρ11, hρ12, hρ13, hρ14, hi, ha, hs15, rfl⟩
    refine c_seq ?_
    refine c_seq ?_
    refine c_region ?_
    refine st (v := .int .i64 ((i : Nat) : Int)) (x_move (.tmp rfl hρ14)) ?_
    refine st (v := .slice A_l n_l c_l) (x_move (.tmp rfl hρ11)) ?_
    refine st (v := .int .i64 ((n_l : Nat) : Int)) (x_len (n := n_l) Try.underlying22 (.tmp rfl rfl)) ?_
    refine st (v := .bool (decide ((((i : Nat) : Int) : Int) < ((n_l : Nat) : Int)))) (x_lss (k := .i64) (a := ((i : Nat) : Int)) (b := ((n_l : Nat) : Int)) (.tmp rfl rfl) (.tmp rfl rfl)) ?_
    refine c_nil ?_
    refine n_then ?_
    rcases Bool.eq_false_or_eq_true (decide ((((i : Nat) : Int) : Int) < ((n_l : Nat) : Int))) with hc16 | hc16
    · have hp16 : (((i : Nat) : Int) : Int) < ((n_l : Nat) : Int) := of_decide_eq_true hc16
      refine c_cond_t (t := true) (.tmp rfl (congrArg Value.bool hc16)) rfl ?_
      refine c_skip ?_
      refine n_then ?_
      refine c_seq ?_
      refine c_block ?_
      refine c_seq ?_
      refine c_seq ?_
      refine q_region mixed hs15 (by kernel_rfl) ?_
      refine q_st (v := .slice A_l n_l c_l) (fun w hs => (x_move (.tmp rfl hρ11))) ?_
      refine q_st (v := .int .i64 ((i : Nat) : Int)) (fun w hs => (x_move (.tmp rfl hρ14))) ?_
      obtain ⟨e17, b18, o19, cs20, hx21, hA22, hr23, hat24⟩ := h_l.get (i := i) (by omega)
      obtain ⟨A30, n31, c32, rfl, b25, ⟨b26, b27⟩, ⟨b28, b29⟩, hl33⟩ := hr23
      have := hl33.len; have : n31 * 32 ≤ 140737488351232 := hl33.bnd; have := hl33.le
      have hat24x : ∀ {w : World} {L : List Res}, St H w L → At w ⟨b18, o19 + i * 4, none⟩ [.int .u64 ((e17.V.N : Nat) : Int), .int .i64 e17.V.P, .int .i64 e17.Floor, .slice A30 n31 c32] := fun h => hat24 h
      have := hb e17 (List.mem_of_getElem? hx21)
      have hEe17 : sEnd e17 = e17.Floor + (e17.Items.length : Int) := rfl
      refine q_st (v := .pointer (some ⟨b18, (o19 + i * 4), none⟩)) (fun w hs => (ixo22 (.tmp rfl rfl) hA22 (i := ((i : Nat) : Int)) (.tmp rfl rfl) (by omega) (by omega) (by omega))) ?_
      refine q_st (v := .pointer (some ⟨b18, (o19 + i * 4) + 0, none⟩)) (fun w hs => (fa38_0 (.tmp rfl rfl))) ?_
      refine q_st (v := .agg #[.int .u64 ((e17.V.N : Nat) : Int), .int .i64 e17.V.P]) (fun w hs => (ld25 (cs := [.int .u64 ((e17.V.N : Nat) : Int), .int .i64 e17.V.P]) (.tmp rfl rfl) ((hat24x hs).sub 0 rfl) rfl)) ?_
      refine q_st (v := .agg #[.int .u64 ((v.N : Nat) : Int), .int .i64 v.P]) (fun w hs => (ld25 (cs := [.int .u64 ((v.N : Nat) : Int), .int .i64 v.P]) (.tmp rfl hρ13) (hs.at_ 0 rfl (0) rfl) rfl)) ?_
      refine q_st (v := .bool (!((((e17.V.N : Nat) : Int) == ((v.N : Nat) : Int)) && ((e17.V.P == v.P) && true)))) (fun w hs => (x_neqA eqg25 (.tmp rfl rfl) (.tmp rfl rfl) (fun d => eqs25 (d + 98) _ ((e17.V.N : Nat) : Int) ((v.N : Nat) : Int) e17.V.P v.P))) ?_
      refine q_nil ?_
      intro w hs34
      refine n_then ?_
      rcases Bool.eq_false_or_eq_true (decide (e17.V = v)) with hc35 | hc35
      · have hp35 : e17.V = v := of_decide_eq_true hc35
        refine c_cond_f (t := false) (.tmp rfl ((congrArg (fun z => Value.bool (!z)) (GViewID.beq_dec e17.V v)).trans (congrArg Value.bool (by rw [hc35]; rfl)))) rfl ?_
        refine c_skip ?_
        refine n_then ?_
        refine c_seq ?_
        refine c_seq ?_
        refine c_region ?_
        refine st (v := .int .i64 had) (x_move (.tmp rfl hρ12)) ?_
        refine st (v := .slice A_l n_l c_l) (x_move (.tmp rfl hρ11)) ?_
        refine st (v := .int .i64 ((i : Nat) : Int)) (x_move (.tmp rfl hρ14)) ?_
        refine st (v := .pointer (some ⟨b18, (o19 + i * 4), none⟩)) (ixo22 (.tmp rfl rfl) hA22 (i := ((i : Nat) : Int)) (.tmp rfl rfl) (by omega) (by omega) (by omega)) ?_
        refine st (v := .pointer (some ⟨b18, (o19 + i * 4) + 2, none⟩)) (fa38_1 (.tmp rfl rfl)) ?_
        refine st (v := .int .i64 e17.Floor) (ld3 (.tmp rfl rfl) ((hat24x hs34).cell 2 rfl)) ?_
        refine st (v := .bool (decide ((had : Int) < e17.Floor))) (x_lss (k := .i64) (a := had) (b := e17.Floor) (.tmp rfl rfl) (.tmp rfl rfl)) ?_
        refine st (v := .bool (decide ((had : Int) < e17.Floor))) (x_move (.tmp rfl rfl)) ?_
        rcases Bool.eq_false_or_eq_true (decide ((had : Int) < e17.Floor)) with hc36 | hc36
        · have hp36 : (had : Int) < e17.Floor := of_decide_eq_true hc36
          refine g_no (yl (dj := 32) (b := true) rfl rfl (congrArg Value.bool hc36)) rfl ?_
          refine g_no (yl (dj := 32) (b := true) rfl rfl (congrArg Value.bool hc36)) rfl ?_
          refine g_no (yl (dj := 32) (b := true) rfl rfl (congrArg Value.bool hc36)) rfl ?_
          refine g_no (yl (dj := 32) (b := true) rfl rfl (congrArg Value.bool hc36)) rfl ?_
          refine g_no (yl (dj := 32) (b := true) rfl rfl (congrArg Value.bool hc36)) rfl ?_
          refine g_no (yl (dj := 32) (b := true) rfl rfl (congrArg Value.bool hc36)) rfl ?_
          refine g_no (yl (dj := 32) (b := true) rfl rfl (congrArg Value.bool hc36)) rfl ?_
          refine st (v := .bool true) (x_pick_t (.tmp rfl (congrArg Value.bool hc36)) .const) ?_
          refine c_nil ?_
          refine n_then ?_
          refine c_cond_t (t := true) (.tmp rfl rfl) rfl ?_
          refine c_seq ?_
          refine c_region ?_
          refine st (v := .slice none 0 0) (x_assign .const) ?_
          refine st (v := .int .i64 1) (x_assign .const) ?_
          refine c_nil ?_
          refine n_then ?_
          refine c_ret ?_
          refine r_then ?_
          refine r_block ?_
          refine r_then ?_
          refine r_then ?_
          refine r_block ?_
          refine r_then ?_
          refine leave_ret (res_two (v := .slice none 0 0) (u := .int .i64 1) rfl (.mk rfl rfl) (.mk rfl rfl)) ?_
          have hf := find_at (p := fun s : GState => decide (s.V = v)) hx21 hc35 ha
          have hans37 : restS l v had = ([], 1) := restS_out (by omega) hf (by omega)
          rw [hans37]
          exact ⟨none, 0, 0, rfl, (Sl.nil _ _ none), hs34.drop⟩
        · have hp36 : ¬ ((had : Int) < e17.Floor) := of_decide_eq_false hc36
          refine g_yes (yl (dj := 32) (b := false) rfl rfl (congrArg Value.bool hc36)) ?_
          refine st (v := .int .i64 had) (x_move (.tmp rfl hρ12)) ?_
          refine g_yes (yl (dj := 32) (b := false) rfl rfl (congrArg Value.bool hc36)) ?_
          refine st (v := .slice A_l n_l c_l) (x_move (.tmp rfl hρ11)) ?_
          refine g_yes (yl (dj := 32) (b := false) rfl rfl (congrArg Value.bool hc36)) ?_
          refine st (v := .int .i64 ((i : Nat) : Int)) (x_move (.tmp rfl hρ14)) ?_
          refine g_yes (yl (dj := 32) (b := false) rfl rfl (congrArg Value.bool hc36)) ?_
          refine st (v := .pointer (some ⟨b18, (o19 + i * 4), none⟩)) (ixo22 (.tmp rfl rfl) hA22 (i := ((i : Nat) : Int)) (.tmp rfl rfl) (by omega) (by omega) (by omega)) ?_
          refine g_yes (yl (dj := 32) (b := false) rfl rfl (congrArg Value.bool hc36)) ?_
          refine st (v := .agg #[.int .u64 ((e17.V.N : Nat) : Int), .int .i64 e17.V.P, .int .i64 e17.Floor, .slice A30 n31 c32]) (ld38 (cs := [.int .u64 ((e17.V.N : Nat) : Int), .int .i64 e17.V.P, .int .i64 e17.Floor, .slice A30 n31 c32]) (.tmp rfl rfl) ((hat24x hs34).sub 0 rfl) rfl) ?_
          refine g_yes (yl (dj := 32) (b := false) rfl rfl (congrArg Value.bool hc36)) ?_
          have hr38 : kState.rep H e17 [.int .u64 ((e17.V.N : Nat) : Int), .int .i64 e17.V.P, .int .i64 e17.Floor, .slice A30 n31 c32] := ⟨A30, n31, c32, rfl, b25, ⟨b26, b27⟩, ⟨b28, b29⟩, hl33⟩
          refine st_c cb21 .func (evs1 (.tmp rfl rfl)) (rend_spec hs34 e17 hr38 (show (0 : Int) ≤ e17.Floor from by omega) (show e17.Floor ≤ (1073741824 : Int) from by omega)) ?_
          rintro e w39 ⟨rfl, hs40⟩
          refine ⟨_, rfl, ?_⟩
          refine g_yes (yl (dj := 32) (b := false) rfl rfl (congrArg Value.bool hc36)) ?_
          refine st (v := .bool (decide (((sEnd e17) : Int) < had))) (x_gtr (k := .i64) (a := had) (b := (sEnd e17)) (.tmp rfl rfl) (.tmp rfl rfl)) ?_
          refine st (v := .bool (decide (((sEnd e17) : Int) < had))) (x_pick_f (.tmp rfl (congrArg Value.bool hc36)) (.tmp rfl rfl)) ?_
          refine c_nil ?_
          refine n_then ?_
          rcases Bool.eq_false_or_eq_true (decide (((sEnd e17) : Int) < had)) with hc41 | hc41
          · have hp41 : ((sEnd e17) : Int) < had := of_decide_eq_true hc41
            refine c_cond_t (t := true) (.tmp rfl (congrArg Value.bool hc41)) rfl ?_
            refine c_seq ?_
            refine c_region ?_
            refine st (v := .slice none 0 0) (x_assign .const) ?_
            refine st (v := .int .i64 1) (x_assign .const) ?_
            refine c_nil ?_
            refine n_then ?_
            refine c_ret ?_
            refine r_then ?_
            refine r_block ?_
            refine r_then ?_
            refine r_then ?_
            refine r_block ?_
            refine r_then ?_
            refine leave_ret (res_two (v := .slice none 0 0) (u := .int .i64 1) rfl (.mk rfl rfl) (.mk rfl rfl)) ?_
            have hf := find_at (p := fun s : GState => decide (s.V = v)) hx21 hc35 ha
            have hans42 : restS l v had = ([], 1) := restS_out (by omega) hf (by omega)
            rw [hans42]
            exact ⟨none, 0, 0, rfl, (Sl.nil _ _ none), hs40.drop⟩
          · have hp41 : ¬ (((sEnd e17) : Int) < had) := of_decide_eq_false hc41
            refine c_cond_f (t := false) (.tmp rfl (congrArg Value.bool hc41)) rfl ?_
            refine c_skip ?_
            refine n_then ?_
            refine c_seq ?_
            refine q_region mixed hs40 (by kernel_rfl) ?_
            refine q_st (v := .slice A_l n_l c_l) (fun w hs => (x_move (.tmp rfl hρ11))) ?_
            refine q_st (v := .int .i64 ((i : Nat) : Int)) (fun w hs => (x_move (.tmp rfl hρ14))) ?_
            refine q_st (v := .pointer (some ⟨b18, (o19 + i * 4), none⟩)) (fun w hs => (ixo22 (.tmp rfl rfl) hA22 (i := ((i : Nat) : Int)) (.tmp rfl rfl) (by omega) (by omega) (by omega))) ?_
            refine q_st (v := .pointer (some ⟨b18, (o19 + i * 4) + 3, none⟩)) (fun w hs => (fa38_2 (.tmp rfl rfl))) ?_
            refine q_st (v := .slice A30 n31 c32) (fun w hs => (ld29 (.tmp rfl rfl) ((hat24x hs).cell 3 rfl))) ?_
            refine q_st (v := .int .i64 had) (fun w hs => (x_move (.tmp rfl hρ12))) ?_
            refine q_st (v := .slice A_l n_l c_l) (fun w hs => (x_move (.tmp rfl hρ11))) ?_
            refine q_st (v := .int .i64 ((i : Nat) : Int)) (fun w hs => (x_move (.tmp rfl hρ14))) ?_
            refine q_st (v := .pointer (some ⟨b18, (o19 + i * 4), none⟩)) (fun w hs => (ixo22 (.tmp rfl rfl) hA22 (i := ((i : Nat) : Int)) (.tmp rfl rfl) (by omega) (by omega) (by omega))) ?_
            refine q_st (v := .pointer (some ⟨b18, (o19 + i * 4) + 2, none⟩)) (fun w hs => (fa38_1 (.tmp rfl rfl))) ?_
            refine q_st (v := .int .i64 e17.Floor) (fun w hs => (ld3 (.tmp rfl rfl) ((hat24x hs).cell 2 rfl))) ?_
            refine q_st (v := .int .i64 (had - e17.Floor)) (fun w hs => (x_sub (k := .i64) (a := had) (b := e17.Floor) (.tmp rfl rfl) (.tmp rfl rfl) (w64 (by omega) (by omega)))) ?_
            refine q_st (v := .slice (cutA A30 c32 ((had - e17.Floor).toNat) 2) (n31 - ((had - e17.Floor).toNat)) (c32 - ((had - e17.Floor).toNat))) (fun w hs => (sl_l (d := kItem) Try.underlying29 inf47 (a := (had - e17.Floor)) (.tmp rfl rfl) (.tmp rfl rfl) (by omega) (by omega) (by omega))) ?_
            refine q_st (v := .slice (cutA A30 c32 ((had - e17.Floor).toNat) 2) (n31 - ((had - e17.Floor).toNat)) (c32 - ((had - e17.Floor).toNat))) (fun w hs => (x_assign (.tmp rfl rfl))) ?_
            refine q_st (v := .int .i64 0) (fun w hs => (x_assign .const)) ?_
            refine q_nil ?_
            intro w hs43
            refine n_then ?_
            refine c_ret ?_
            refine r_block ?_
            refine r_then ?_
            refine r_then ?_
            refine r_block ?_
            refine r_then ?_
            refine leave_ret (res_two (v := .slice (cutA A30 c32 ((had - e17.Floor).toNat) 2) (n31 - ((had - e17.Floor).toNat)) (c32 - ((had - e17.Floor).toNat))) (u := .int .i64 0) rfl (.mk rfl rfl) (.mk rfl rfl)) ?_
            have hf := find_at (p := fun s : GState => decide (s.V = v)) hx21 hc35 ha
            have hans44 : restS l v had = ((e17.Items.drop ((had - e17.Floor).toNat)), 0) := restS_in (by omega) hf (by omega)
            rw [hans44]
            exact ⟨(cutA A30 c32 ((had - e17.Floor).toNat) 2), (n31 - ((had - e17.Floor).toNat)), (c32 - ((had - e17.Floor).toNat)), rfl, (hl33.drop (k := ((had - e17.Floor).toNat)) (by omega)), hs43.drop⟩
      · have hp35 : ¬ (e17.V = v) := of_decide_eq_false hc35
        refine c_cond_t (t := true) (.tmp rfl ((congrArg (fun z => Value.bool (!z)) (GViewID.beq_dec e17.V v)).trans (congrArg Value.bool (by rw [hc35]; rfl)))) rfl ?_
        refine c_exit ?_
        refine x_then ?_
        refine x_here ?_
        refine n_then ?_
        refine c_region ?_
        refine st (v := .int .i64 ((i : Nat) : Int)) (x_move (.tmp rfl hρ14)) ?_
        refine st (v := .int .i64 (((i + 1) : Nat) : Int)) (x_add (k := .i64) (a := ((i : Nat) : Int)) (b := 1) (.tmp rfl rfl) .const ((w64 (by omega) (by omega)).trans (by omega))) ?_
        refine st (v := .int .i64 (((i + 1) : Nat) : Int)) (x_assign (.tmp rfl rfl)) ?_
        refine c_nil ?_
        refine n_then ⟨_, _, rfl, ?_, (i + 1), hρ11, hρ12, hρ13, rfl, (by omega), (before_next ha hx21 hc35), hs34, rfl⟩
        omega
    · have hp16 : ¬ ((((i : Nat) : Int) : Int) < ((n_l : Nat) : Int)) := of_decide_eq_false hc16
      refine c_cond_f (t := false) (.tmp rfl (congrArg Value.bool hc16)) rfl ?_
      refine c_exit ?_
      refine x_then ?_
      refine x_then ?_
      refine x_here ?_
      refine n_then ?_
      refine c_seq ?_
      refine c_region ?_
      refine st (v := .slice none 0 0) (x_assign .const) ?_
      refine st (v := .int .i64 6) (x_assign .const) ?_
      refine c_nil ?_
      refine n_then ?_
      refine c_ret ?_
      refine leave_ret (res_two (v := .slice none 0 0) (u := .int .i64 6) rfl (.mk rfl rfl) (.mk rfl rfl)) ?_
      have hans45 : restS l v had = ([], 6) := by unfold restS; rw [if_neg (by omega), find_none (fun j y hy => ha j y (by have := (List.getElem?_eq_some_iff.1 hy).1; omega) hy)]
      rw [hans45]
      exact ⟨none, 0, 0, rfl, (Sl.nil _ _ none), hs15.drop⟩

end Go.Proofs.Ytkbllbphkdnmbaa
