/- Steps of the proofs over the functions of this seat, printed by a program (gen.py) and checked by Lean. -/
import Derived.Test.YtkbllbphkdnmbaaTy
import Derived.Test.YtkbllbphkdnmbaaFmM6
import Derived.Test.YtkbllbphkdnmbaaU6i
set_option linter.unusedVariables false
set_option linter.unusedSimpArgs false
namespace Go.Proofs.Ytkbllbphkdnmbaa
open Go Go.FM Go.Proofs
attribute [local irreducible] wpList wpQuiet wpS Code.wp Calls
set_option maxHeartbeats 8000000 in
theorem cutKeeps_spec {H : Hp} {w : World} {L : List Res} (hs : St H w (L)) {A_l : Option Addr} {n_l c_l : Nat} (l : (List GState)) (h_l : Sl kState H A_l n_l c_l l) : Calls Try.prog 7 #[.slice A_l n_l c_l] w (fun e w' => e = .returned (.bool true) ∧ St H w' (L)) := by
  have := h_l.len; have := h_l.le; have : n_l * 48 ≤ 140737488351232 := h_l.bnd
  refine enter (args := [.slice A_l n_l c_l]) (N := 40) Try.func7 rfl rfl rfl ?_
  refine c_seq ?_
  refine c_region ?_
  refine st (v := .bool false) (x_assign .const) ?_
  refine c_nil ?_
  refine n_then ?_
  refine c_seq ?_
  refine c_seq ?_
  refine c_region ?_
  refine st_c cb10 .func (evs0 ) (awake_spec hs  ) ?_
  rintro e w1 ⟨rfl, hs2⟩
  refine ⟨_, rfl, ?_⟩
  refine st (v := .bool false) (x_not (b := true) (.tmp rfl rfl)) ?_
  refine st (v := .bool false) (x_move (.tmp rfl rfl)) ?_
  refine g_yes (yl (dj := 8) (b := false) rfl rfl rfl) ?_
  refine st (v := .slice A_l n_l c_l) (x_move (.tmp rfl rfl)) ?_
  refine g_yes (yl (dj := 8) (b := false) rfl rfl rfl) ?_
  refine st_c cb11 .func (evs1 (.tmp rfl rfl)) (right_spec hs2 l h_l ) ?_
  rintro e w3 ⟨rfl, hs4⟩
  refine ⟨_, rfl, ?_⟩
  refine g_yes (yl (dj := 8) (b := false) rfl rfl rfl) ?_
  refine st (v := .bool (!(rightS l))) (x_not (.tmp rfl rfl)) ?_
  refine st (v := .bool (!(rightS l))) (x_pick_f (.tmp rfl rfl) (.tmp rfl rfl)) ?_
  refine c_nil ?_
  refine n_then ?_
  rcases Bool.eq_false_or_eq_true (rightS l) with hc5 | hc5
  · refine c_cond_f (t := false) (.tmp rfl (congrArg Value.bool (by rw [hc5]; rfl))) rfl ?_
    refine c_skip ?_
    refine n_then ?_
    refine c_seq ?_
    refine c_region ?_
    have hrt := rightS_spec hc5; have hl40 := hrt.2; have hjl : (joinS l).length ≤ 40 := Nat.le_trans (joinTo_length l l.length) hrt.2
    refine st (v := .slice none 0 0) (x_assign .const) ?_
    refine c_nil ?_
    refine n_then ?_
    refine c_seq ?_
    refine c_region ?_
    refine st (v := .slice none 0 0) (x_move (.tmp rfl rfl)) ?_
    refine st (v := .slice A_l n_l c_l) (x_move (.tmp rfl rfl)) ?_
    have hs6 : St H _ (row 38 4 (.slice none 0 0) (([] : List GState).length) [] :: L) := hs4.krowNil 38 kState
    have : ([] : List GState).length = 0 := rfl
    refine st_m (m_appSl (d := kState) (ys := l) Try.underlying22 inf38 rfl hs6 (RowOk.knil kState) (Kn.rows_nil _ _) (.tmp rfl rfl) (.tmp rfl rfl) h_l (by omega) (by decide)) ?_
    rintro v8 w9 ⟨cs10, ok11, hk12, hs13⟩
    have hn14 : (([] : List GState) ++ l).length = ([] : List GState).length + n_l := by rw [List.length_append, h_l.len]
    have hn14 : l.length = n_l := h_l.len
    have ok11 : RowOk kState.sz v8 l.length cs10 := ok11
    have hk12 : kState.toKn.rows H l cs10 := hk12
    have hs13 : St H _ (row 38 4 v8 l.length cs10 :: L) := hs13
    refine st (v := v8) (x_assign (.tmp rfl rfl)) ?_
    refine c_nil ?_
    refine n_then ?_
    refine c_seq ?_
    refine c_region ?_
    refine st (v := v8) (x_move (.tmp rfl rfl)) ?_
    have : l.length * 48 ≤ 140737488351232 := by omega
    obtain ⟨H15, A16, c17, hle18, hs19, rfl, sp20⟩ := hs13.freezeSl (d := kState) ok11 hk12 this
    have := sp20.len; have := sp20.le
    refine st_c cb17 .func (evs1 (.tmp rfl rfl)) (join_spec hs19 l sp20 hrt.1) ?_
    rintro e w21 ⟨v23, cs26, rfl, ok24, hk27, hs22⟩
    have := sp20.len
    refine ⟨_, rfl, ?_⟩
    refine st (v := v23) (x_assign (.tmp rfl rfl)) ?_
    refine c_nil ?_
    refine n_then ?_
    refine c_seq ?_
    refine c_seq ?_
    refine c_region ?_
    refine st (v := .slice A16 l.length c17) (x_move (.tmp rfl rfl)) ?_
    refine st (v := .slice A_l n_l c_l) (x_move (.tmp rfl rfl)) ?_
    refine st_c cb18 .func (evs2 (.tmp rfl rfl) (.tmp rfl rfl)) (same_spec hs22 l sp20 l (h_l.mono hle18) ) ?_
    rintro e w28 ⟨rfl, hs29⟩
    refine ⟨_, rfl, ?_⟩
    refine st (v := .bool (!(decide (l = l)))) (x_not (.tmp rfl rfl)) ?_
    refine c_nil ?_
    refine n_then ?_
    have hc30 : (decide (l = l)) = true := (decide_eq_true (by simp))
    refine c_cond_f (t := false) (.tmp rfl (congrArg Value.bool (by rw [hc30]; rfl))) rfl ?_
    refine c_skip ?_
    refine n_then ?_
    refine c_seq ?_
    refine c_seq ?_
    refine c_region ?_
    refine st (v := .int .i64 0) (x_assign .const) ?_
    refine c_nil ?_
    refine n_then ?_
    refine c_block ?_
    refine c_loop (fun ρ w mm => ∃ (js : List GState) (v_js : Value) (c_js : List Value) (i : Nat), ρ 0 = .slice A_l n_l c_l ∧ ρ 3 = .slice A16 l.length c17 ∧ ρ 4 = v_js ∧ ρ 5 = .int .i64 ((i : Nat) : Int) ∧ (RowOk kState.sz v_js js.length c_js) ∧ (kState.toKn.rows H15 js c_js) ∧ (i ≤ js.length) ∧ (js.length ≤ 40) ∧ (∀ (k : Nat) (x : GState), i ≤ k → js[k]? = some x → 0 ≤ x.Floor ∧ x.Floor ≤ 1073741824) ∧ St H15 w (row 38 4 v_js js.length c_js :: L) ∧ mm = js.length - i) _ ⟨(joinS l), v23, cs26, 0, rfl, rfl, rfl, rfl, ok24, hk27, (by omega), hjl, (fun k x _ hx => hrt.1 x (joinS_sub (List.mem_of_getElem? hx))), hs29, rfl⟩ ?_
    rintro ρ w mm ⟨js, v_js, c_js, i, hρ32, hρ33, hρ34, hρ35, ok_js, hk_js, hi, hjs, hfl, hs36, rfl⟩
    refine c_seq ?_
    refine c_seq ?_
    refine c_region ?_
    refine st (v := .int .i64 ((i : Nat) : Int)) (x_move (.tmp rfl hρ35)) ?_
    refine st (v := v_js) (x_move (.tmp rfl hρ34)) ?_
    obtain ⟨A37, c38, hv39, hc40⟩ := ok_js.slice
    refine st (v := .int .i64 ((js.length : Nat) : Int)) (x_len (n := js.length) Try.underlying22 (.tmp rfl hv39)) ?_
    refine st (v := .bool (decide ((((i : Nat) : Int) : Int) < ((js.length : Nat) : Int)))) (x_lss (k := .i64) (a := ((i : Nat) : Int)) (b := ((js.length : Nat) : Int)) (.tmp rfl rfl) (.tmp rfl rfl)) ?_
    refine c_nil ?_
    refine n_then ?_
    rcases Bool.eq_false_or_eq_true (decide ((((i : Nat) : Int) : Int) < ((js.length : Nat) : Int))) with hc41 | hc41
    · have hp41 : (((i : Nat) : Int) : Int) < ((js.length : Nat) : Int) := of_decide_eq_true hc41
      refine c_cond_t (t := true) (.tmp rfl (congrArg Value.bool hc41)) rfl ?_
      refine c_skip ?_
      refine n_then ?_
      refine c_seq ?_
      refine c_block ?_
      refine c_region ?_
      refine st (v := v_js) (x_move (.tmp rfl hρ34)) ?_
      refine st (v := .int .i64 ((i : Nat) : Int)) (x_move (.tmp rfl hρ35)) ?_
      obtain ⟨g42, c43, hv44⟩ := ok_js.pos (by omega)
      obtain ⟨e45, cs46, hx47, hr48, hsub49⟩ := Kn.rows_get (i := i) hk_js (by omega)
      obtain ⟨A55, n56, c57, rfl, b50, ⟨b51, b52⟩, ⟨b53, b54⟩, hl58⟩ := hr48
      have := hl58.len; have : n56 * 32 ≤ 140737488351232 := hl58.bnd; have := hl58.le
      have := hfl i e45 (Nat.le_refl _) hx47
      refine st (v := .pointer (some ⟨g42, (i * 4), none⟩)) (ixo22 (.tmp rfl hv44) rfl (i := ((i : Nat) : Int)) (.tmp rfl rfl) (by omega) (by omega) (by omega)) ?_
      refine st (v := .pointer (some ⟨g42, (i * 4) + 2, none⟩)) (fa38_1 (.tmp rfl rfl)) ?_
      refine st (v := .int .i64 e45.Floor) (ld3 (.tmp rfl rfl) ((hs36.rowAt 0 rfl hv44 (i * 4) hsub49).cell 2 rfl)) ?_
      refine st (v := .int .i64 (e45.Floor + 1)) (x_add (k := .i64) (a := e45.Floor) (b := 1) (.tmp rfl rfl) .const (w64 (by omega) (by omega))) ?_
      obtain ⟨g59, c60, hv61⟩ := ok_js.pos (by omega)
      refine st (v := .pointer (some ⟨g59, (i * 4), none⟩)) (ixo22 (.tmp rfl hv61) rfl (i := ((i : Nat) : Int)) (.tmp rfl rfl) (by omega) (by omega) (by omega)) ?_
      refine st (v := .pointer (some ⟨g59, (i * 4) + 2, none⟩)) (fa38_1 (.tmp rfl rfl)) ?_
      have hl67 : i * 4 + 4 ≤ c_js.length := by have h1 := (hk_js).1; have h2 : kState.sz = 4 := rfl; rw [h2] at h1; omega
      have hr66 : kState.rep H15 (GState.mk e45.V (e45.Floor + 1) e45.Items) [.int .u64 ((e45.V.N : Nat) : Int), .int .i64 e45.V.P, .int .i64 (e45.Floor + 1), .slice A55 n56 c57] := ⟨A55, n56, c57, rfl, b50, ⟨b51, b52⟩, (show IB (e45.Floor + 1) from ⟨by omega, by omega⟩), hl58⟩
      refine st_m0 (stor3 hs36 hv61 (i := (i * 4) + 2) (xs' := splice c_js (i * 4) [.int .u64 ((e45.V.N : Nat) : Int), .int .i64 e45.V.P, .int .i64 (e45.Floor + 1), .slice A55 n56 c57]) (.tmp rfl rfl) (u := .int .i64 (e45.Floor + 1)) (.tmp rfl rfl) rfl (by omega) one1 (splice_part (c := [.int .u64 ((e45.V.N : Nat) : Int), .int .i64 e45.V.P, .int .i64 e45.Floor, .slice A55 n56 c57]) (k := 2) hsub49 (Nat.le_of_ble_eq_true rfl) (by simpa using hl67))) ?_
      rintro w62 hs63
      have hk65 := Kn.rows_set (d := kState.toKn) hk_js (i := i) (by omega) hr66
      have ok64 := ok_js.splice (i := i * 4) (vs := [.int .u64 ((e45.V.N : Nat) : Int), .int .i64 e45.V.P, .int .i64 (e45.Floor + 1), .slice A55 n56 c57]) (by simpa using hl67)
      have hn68 : (js.set i (GState.mk e45.V (e45.Floor + 1) e45.Items)).length = js.length := List.length_set
      rw [← hn68] at hs63 ok64
      refine c_nil ?_
      refine n_block ?_
      refine n_then ?_
      refine c_region ?_
      refine st (v := .int .i64 ((i : Nat) : Int)) (x_move (.tmp rfl hρ35)) ?_
      refine st (v := .int .i64 (((i + 1) : Nat) : Int)) (x_add (k := .i64) (a := ((i : Nat) : Int)) (b := 1) (.tmp rfl rfl) .const ((w64 (by omega) (by omega)).trans (by omega))) ?_
      refine st (v := .int .i64 (((i + 1) : Nat) : Int)) (x_assign (.tmp rfl rfl)) ?_
      refine c_nil ?_
      refine n_then ⟨_, _, rfl, ?_, (js.set i (GState.mk e45.V (e45.Floor + 1) e45.Items)), v_js, (splice c_js (i * 4) [.int .u64 ((e45.V.N : Nat) : Int), .int .i64 e45.V.P, .int .i64 (e45.Floor + 1), .slice A55 n56 c57]), (i + 1), hρ32, hρ33, hρ34, rfl, ok64, hk65, (by omega), (by rw [List.length_set]; exact hjs), (fun k x hk hx => hfl k x (by omega) (by rw [List.getElem?_set, if_neg (by omega)] at hx; exact hx)), hs63, rfl⟩
      omega
    · have hp41 : ¬ ((((i : Nat) : Int) : Int) < ((js.length : Nat) : Int)) := of_decide_eq_false hc41
      refine c_cond_f (t := false) (.tmp rfl (congrArg Value.bool hc41)) rfl ?_
      refine c_exit ?_
      refine x_then ?_
      refine x_then ?_
      refine x_here ?_
      refine n_then ?_
      refine c_seq ?_
      refine c_region ?_
      refine st (v := .slice A16 l.length c17) (x_move (.tmp rfl hρ33)) ?_
      refine st (v := .slice A_l n_l c_l) (x_move (.tmp rfl hρ32)) ?_
      refine st_c cb18 .func (evs2 (.tmp rfl rfl) (.tmp rfl rfl)) (same_spec hs36 l sp20 l (h_l.mono hle18) ) ?_
      rintro e w69 ⟨rfl, hs70⟩
      refine ⟨_, rfl, ?_⟩
      refine st (v := .bool true) (x_assign (.tmp rfl (congrArg Value.bool hc30))) ?_
      refine c_nil ?_
      refine n_then ?_
      refine c_ret ?_
      refine leave_ret (res_one (v := .bool true) rfl (.mk rfl rfl)) ?_
      exact ⟨rfl, (hs70.drop.weaken hle18)⟩
  · refine c_cond_t (t := true) (.tmp rfl (congrArg Value.bool (by rw [hc5]; rfl))) rfl ?_
    refine c_seq ?_
    refine c_region ?_
    refine st_c cb10 .func (evs0 ) (awake_spec hs4  ) ?_
    rintro e w71 ⟨rfl, hs72⟩
    refine ⟨_, rfl, ?_⟩
    refine st (v := .bool true) (x_assign (.tmp rfl rfl)) ?_
    refine c_nil ?_
    refine n_then ?_
    refine c_ret ?_
    refine r_then ?_
    refine leave_ret (res_one (v := .bool true) rfl (.mk rfl rfl)) ?_
    exact ⟨rfl, hs72⟩

end Go.Proofs.Ytkbllbphkdnmbaa
