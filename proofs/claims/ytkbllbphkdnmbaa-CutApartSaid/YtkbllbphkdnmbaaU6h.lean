/- Steps of the proofs over the functions of this seat, printed by a program (gen.py) and checked by Lean. -/
import Derived.Test.YtkbllbphkdnmbaaUty
import Derived.Test.YtkbllbphkdnmbaaFmM6
import Derived.Test.YtkbllbphkdnmbaaFmM6b
import Derived.Test.YtkbllbphkdnmbaaU6g
set_option linter.unusedVariables false
set_option linter.unusedSimpArgs false
namespace Go.Proofs.Ytkbllbphkdnmbaa
open Go Go.FM Go.Proofs
attribute [local irreducible] bsIx bsOk stepC wpList wpQuiet wpS Code.wp Calls
set_option maxHeartbeats 8000000 in
theorem join_c {H : Hp} {w : World} {L : List Res} (hs : St H w (L)) (a : GState) {k_a : List Value} (h_a : kState.rep H a k_a) (v : GViewID) {k_v : List Value} (h_v : kViewID.rep H v k_v) : Calls Try.prog 27 #[.agg k_a.toArray, .agg k_v.toArray] w (fun e w' => e = .returned (.int .i64 (vcmp a.V v)) ∧ St H w' (L)) := by
  obtain ⟨A6, n7, c8, rfl, b1, ⟨b2, b3⟩, ⟨b4, b5⟩, hl9⟩ := h_a
  have := hl9.len; have : n7 * 32 ≤ 140737488351232 := hl9.bnd; have := hl9.le
  obtain ⟨rfl, b10, ⟨b11, b12⟩⟩ := h_v
  refine enter (args := [.agg #[.int .u64 ((a.V.N : Nat) : Int), .int .i64 a.V.P, .int .i64 a.Floor, .slice A6 n7 c8], .agg #[.int .u64 ((v.N : Nat) : Int), .int .i64 v.P]]) (N := 9) Try.func27 rfl rfl rfl ?_
  refine c_seq ?_
  refine c_region ?_
  refine st_m (m_box (cs := [.int .u64 ((a.V.N : Nat) : Int), .int .i64 a.V.P, .int .i64 a.Floor, .slice A6 n7 c8]) hs (v := .agg #[.int .u64 ((a.V.N : Nat) : Int), .int .i64 a.V.P, .int .i64 a.Floor, .slice A6 n7 c8]) (.tmp rfl rfl) rfl) ?_
  rintro _ w14 ⟨g13, rfl, hs16⟩
  refine st_m (m_box (cs := [.int .u64 ((v.N : Nat) : Int), .int .i64 v.P]) hs16 (v := .agg #[.int .u64 ((v.N : Nat) : Int), .int .i64 v.P]) (.tmp rfl rfl) rfl) ?_
  rintro _ w18 ⟨g17, rfl, hs20⟩
  refine st (v := .int .i64 0) (x_assign .const) ?_
  refine c_nil ?_
  refine n_then ?_
  refine c_seq ?_
  refine c_region ?_
  refine st (v := .pointer (some ⟨g13, 0 + 0, none⟩)) (fa38_0 (.tmp rfl rfl)) ?_
  refine st (v := .agg #[.int .u64 ((a.V.N : Nat) : Int), .int .i64 a.V.P]) (ld25 (cs := [.int .u64 ((a.V.N : Nat) : Int), .int .i64 a.V.P]) (.tmp rfl rfl) (hs20.at_ 1 rfl (0 + 0) rfl) rfl) ?_
  refine st (v := .agg #[.int .u64 ((v.N : Nat) : Int), .int .i64 v.P]) (ld25 (cs := [.int .u64 ((v.N : Nat) : Int), .int .i64 v.P]) (.tmp rfl rfl) (hs20.at_ 0 rfl (0) rfl) rfl) ?_
  refine st_c cb28 .func (evs2 (.tmp rfl rfl) (.tmp rfl rfl)) (compare_spec hs20 a.V.N a.V.P v.N v.P) ?_
  rintro e w21 ⟨rfl, hs22⟩
  refine ⟨_, rfl, ?_⟩
  refine st (v := .int .i64 (cmpV a.V.N a.V.P v.N v.P)) (x_assign (.tmp rfl rfl)) ?_
  refine c_nil ?_
  refine n_then ?_
  refine c_ret ?_
  refine leave_ret (res_one (v := .int .i64 (cmpV a.V.N a.V.P v.N v.P)) rfl (.mk rfl rfl)) ?_
  exact ⟨rfl, hs22.drop.drop⟩

set_option maxHeartbeats 8000000 in
theorem join_p {H : Hp} {w : World} {L : List Res} (hs : St H w (L)) (s : GState) {k_s : List Value} (h_s : kState.rep H s k_s) : Calls Try.prog 31 #[.agg k_s.toArray] w (fun e w' => e = .returned (.bool (decide (((s.V.N : Nat) : Int) = 0))) ∧ St H w' (L)) := by
  obtain ⟨A6, n7, c8, rfl, b1, ⟨b2, b3⟩, ⟨b4, b5⟩, hl9⟩ := h_s
  have := hl9.len; have : n7 * 32 ≤ 140737488351232 := hl9.bnd; have := hl9.le
  refine enter (args := [.agg #[.int .u64 ((s.V.N : Nat) : Int), .int .i64 s.V.P, .int .i64 s.Floor, .slice A6 n7 c8]]) (N := 7) Try.func31 rfl rfl rfl ?_
  refine c_seq ?_
  refine c_region ?_
  refine st_m (m_box (cs := [.int .u64 ((s.V.N : Nat) : Int), .int .i64 s.V.P, .int .i64 s.Floor, .slice A6 n7 c8]) hs (v := .agg #[.int .u64 ((s.V.N : Nat) : Int), .int .i64 s.V.P, .int .i64 s.Floor, .slice A6 n7 c8]) (.tmp rfl rfl) rfl) ?_
  rintro _ w11 ⟨g10, rfl, hs13⟩
  refine st (v := .bool false) (x_assign .const) ?_
  refine c_nil ?_
  refine n_then ?_
  refine c_seq ?_
  refine c_region ?_
  refine st (v := .pointer (some ⟨g10, 0 + 0, none⟩)) (fa38_0 (.tmp rfl rfl)) ?_
  refine st (v := .pointer (some ⟨g10, 0 + 0 + 0, none⟩)) (fa25_0 (.tmp rfl rfl)) ?_
  refine st (v := .int .u64 ((s.V.N : Nat) : Int)) (ld23 (.tmp rfl rfl) (hs13.cell 0 rfl (0 + 0 + 0) rfl)) ?_
  refine st (v := .bool (decide ((((s.V.N : Nat) : Int) : Int) = 0))) (x_eql (k := .u64) (a := ((s.V.N : Nat) : Int)) (b := 0) (.tmp rfl rfl) .const) ?_
  refine st (v := .bool (decide ((((s.V.N : Nat) : Int) : Int) = 0))) (x_assign (.tmp rfl rfl)) ?_
  refine c_nil ?_
  refine n_then ?_
  refine c_ret ?_
  refine leave_ret (res_one (v := .bool (decide ((((s.V.N : Nat) : Int) : Int) = 0))) rfl (.mk rfl rfl)) ?_
  exact ⟨rfl, hs13.drop⟩

set_option maxHeartbeats 8000000 in
theorem join_spec {H : Hp} {w : World} {L : List Res} (hs : St H w (L)) {A_l : Option Addr} {n_l c_l : Nat} (l : (List GState)) (h_l : Sl kState H A_l n_l c_l l) (hb : ∀ s ∈ l, 0 ≤ s.Floor ∧ s.Floor ≤ 1073741824) : Calls Try.prog 17 #[.slice A_l n_l c_l] w (fun e w' => ∃ (v0 : Value) (cs0 : List Value), e = .returned (v0) ∧ RowOk kState.sz v0 (joinS l).length cs0 ∧ kState.toKn.rows H (joinS l) cs0 ∧ St H w' (row 38 kState.sz v0 (joinS l).length cs0 :: L)) := by
  have := h_l.len; have := h_l.le; have : n_l * 48 ≤ 140737488351232 := h_l.bnd
  refine enter (args := [.slice A_l n_l c_l]) (N := 45) Try.func17 rfl rfl rfl ?_
  refine c_seq ?_
  refine c_region ?_
  refine st (v := .slice none 0 0) (x_assign .const) ?_
  refine c_nil ?_
  refine n_then ?_
  refine c_seq ?_
  refine c_region ?_
  refine st (v := .slice none 0 0) (x_assign .const) ?_
  refine c_nil ?_
  refine n_then ?_
  refine c_seq ?_
  refine c_seq ?_
  refine c_region ?_
  refine st (v := .slice A_l n_l c_l) (x_move (.tmp rfl rfl)) ?_
  refine st (v := .int .i64 ((n_l : Nat) : Int)) (x_len (n := n_l) Try.underlying22 (.tmp rfl rfl)) ?_
  refine st (v := .int .i64 0) (x_move .const) ?_
  refine c_nil ?_
  refine n_then ?_
  refine c_block ?_
  have hs2 : St H _ (row 38 4 (.slice none 0 0) (([] : List GState).length) [] :: L) := hs.krowNil 38 kState
  have : ([] : List GState).length = 0 := rfl
  refine c_loop (fun ρ w mm => ∃ (out : List GState) (v_out : Value) (c_out : List Value) (i : Nat), ρ 3 = v_out ∧ ρ 8 = .slice A_l n_l c_l ∧ ρ 9 = .int .i64 ((n_l : Nat) : Int) ∧ ρ 10 = .int .i64 ((i : Nat) : Int) ∧ (RowOk kState.sz v_out out.length c_out) ∧ (kState.toKn.rows H out c_out) ∧ (i ≤ n_l) ∧ (out = cutTo l i) ∧ (out.length ≤ i) ∧ (∀ x ∈ out, x ∈ l) ∧ St H w (row 38 4 v_out out.length c_out :: L) ∧ mm = n_l - i) _ ⟨([] : List GState), (.slice none 0 0), [], 0, rfl, rfl, rfl, rfl, (RowOk.knil kState), (Kn.rows_nil _ _), (by omega), rfl, (by omega), (fun x hx => absurd hx List.not_mem_nil), hs2, rfl⟩ ?_
  rintro ρ w mm ⟨out, v_out, c_out, i, hρ4, hρ5, hρ6, hρ7, ok_out, hk_out, hi, hout, hol, hin, hs8, rfl⟩
  refine c_seq ?_
  refine c_region ?_
  refine st (v := .bool (decide ((((i : Nat) : Int) : Int) < ((n_l : Nat) : Int)))) (x_lss (k := .i64) (a := ((i : Nat) : Int)) (b := ((n_l : Nat) : Int)) (.tmp rfl hρ7) (.tmp rfl hρ6)) ?_
  refine c_nil ?_
  refine n_then ?_
  refine c_seq ?_
  rcases Bool.eq_false_or_eq_true (decide ((((i : Nat) : Int) : Int) < ((n_l : Nat) : Int))) with hc9 | hc9
  · have hp9 : (((i : Nat) : Int) : Int) < ((n_l : Nat) : Int) := of_decide_eq_true hc9
    refine c_cond_t (t := true) (.tmp rfl (congrArg Value.bool hc9)) rfl ?_
    refine c_skip ?_
    refine n_then ?_
    refine c_seq ?_
    refine c_block ?_
    refine c_seq ?_
    refine c_region ?_
    obtain ⟨e10, b11, o12, cs13, hx14, hA15, hr16, hat17⟩ := h_l.get (i := i) (by omega)
    obtain ⟨A23, n24, c25, rfl, b18, ⟨b19, b20⟩, ⟨b21, b22⟩, hl26⟩ := hr16
    have := hl26.len; have : n24 * 32 ≤ 140737488351232 := hl26.bnd; have := hl26.le
    have hat17x : ∀ {w : World} {L : List Res}, St H w L → At w ⟨b11, o12 + i * 4, none⟩ [.int .u64 ((e10.V.N : Nat) : Int), .int .i64 e10.V.P, .int .i64 e10.Floor, .slice A23 n24 c25] := fun h => hat17 h
    have := hb e10 (List.mem_of_getElem? hx14)
    refine st (v := .pointer (some ⟨b11, (o12 + i * 4), none⟩)) (ixo22 (.tmp rfl hρ5) hA15 (i := ((i : Nat) : Int)) (.tmp rfl hρ7) (by omega) (by omega) (by omega)) ?_
    refine st (v := .agg #[.int .u64 ((e10.V.N : Nat) : Int), .int .i64 e10.V.P, .int .i64 e10.Floor, .slice A23 n24 c25]) (ld38 (cs := [.int .u64 ((e10.V.N : Nat) : Int), .int .i64 e10.V.P, .int .i64 e10.Floor, .slice A23 n24 c25]) (.tmp rfl rfl) ((hat17x hs8).sub 0 rfl) rfl) ?_
    refine st_m (al38 (cs := [.int .u64 0, .int .i64 0, .int .i64 0, .slice none 0 0]) hs8 rfl) ?_
    rintro _ w28 ⟨g27, rfl, hs30⟩
    refine st_m0 (sto38 (cs' := [.int .u64 ((e10.V.N : Nat) : Int), .int .i64 e10.V.P, .int .i64 e10.Floor, .slice A23 n24 c25]) (i := 0) hs30 (v := .agg #[.int .u64 ((e10.V.N : Nat) : Int), .int .i64 e10.V.P, .int .i64 e10.Floor, .slice A23 n24 c25]) (.tmp rfl rfl) (.tmp rfl rfl) rfl (Nat.le_of_ble_eq_true rfl) (oneA rfl) rfl) ?_
    rintro w31 hs33
    refine c_nil ?_
    refine n_then ?_
    refine c_seq ?_
    refine c_region ?_
    refine st (v := v_out) (x_move (.tmp rfl hρ4)) ?_
    refine st (v := .pointer (some ⟨g27, 0 + 0, none⟩)) (fa38_0 (.tmp rfl rfl)) ?_
    refine st (v := .agg #[.int .u64 ((e10.V.N : Nat) : Int), .int .i64 e10.V.P]) (ld25 (cs := [.int .u64 ((e10.V.N : Nat) : Int), .int .i64 e10.V.P]) (.tmp rfl rfl) (hs33.at_ 0 rfl (0 + 0) rfl) rfl) ?_
    have hs34 : St H _ (row 38 4 v_out out.length c_out :: obj g27 38 [.int .u64 ((e10.V.N : Nat) : Int), .int .i64 e10.V.P, .int .i64 e10.Floor, .slice A23 n24 c25] :: L) := hs33.pick 1 rfl rfl
    have hr35 : kViewID.rep H e10.V [.int .u64 ((e10.V.N : Nat) : Int), .int .i64 e10.V.P] := ⟨rfl, b18, ⟨b19, b20⟩⟩
    refine st_c cb26 .func (evs3 (.tmp rfl rfl) (.tmp rfl rfl) .func) (binary_state hs34 ok_out hk_out e10.V hr35 (fun (y0 : GState) (y1 : GViewID) => (vcmp y0.V y1)) cb27 (fun {_} {_} hs y0 {_} h0 y1 {_} h1 => join_c hs y0 h0 y1 h1 ) (by omega)) ?_
    rintro e w36 ⟨rfl, hs37⟩
    refine ⟨_, rfl, ?_⟩
    refine st (v := .tuple #[.int .i64 ((bsIx (fun (y0 : GState) (y1 : GViewID) => (vcmp y0.V y1)) out e10.V : Nat) : Int), .bool (bsOk (fun (y0 : GState) (y1 : GViewID) => (vcmp y0.V y1)) out e10.V)]) (x_move (.tmp rfl rfl)) ?_
    refine st (v := .int .i64 ((bsIx (fun (y0 : GState) (y1 : GViewID) => (vcmp y0.V y1)) out e10.V : Nat) : Int)) (x_extract (.tmp rfl rfl) (i := 0) rfl) ?_
    refine st (v := .bool (bsOk (fun (y0 : GState) (y1 : GViewID) => (vcmp y0.V y1)) out e10.V)) (x_extract (.tmp rfl rfl) (i := 1) rfl) ?_
    refine st (v := .int .i64 ((bsIx (fun (y0 : GState) (y1 : GViewID) => (vcmp y0.V y1)) out e10.V : Nat) : Int)) (x_assign (.tmp rfl rfl)) ?_
    refine st (v := .bool (bsOk (fun (y0 : GState) (y1 : GViewID) => (vcmp y0.V y1)) out e10.V)) (x_assign (.tmp rfl rfl)) ?_
    refine c_nil ?_
    refine n_then ?_
    refine c_block ?_
    refine c_seq ?_
    refine c_region ?_
    have hix := bsIx_le (f := (fun (y0 : GState) (y1 : GViewID) => (vcmp y0.V y1))) (x := out) (t := e10.V)
    refine st (v := .bool (bsOk (fun (y0 : GState) (y1 : GViewID) => (vcmp y0.V y1)) out e10.V)) (x_move (.tmp rfl rfl)) ?_
    refine st (v := .bool (!(bsOk (fun (y0 : GState) (y1 : GViewID) => (vcmp y0.V y1)) out e10.V))) (x_not (.tmp rfl rfl)) ?_
    refine st (v := .bool (!(bsOk (fun (y0 : GState) (y1 : GViewID) => (vcmp y0.V y1)) out e10.V))) (x_assign (.tmp rfl rfl)) ?_
    refine c_nil ?_
    refine n_then ?_
    rcases Bool.eq_false_or_eq_true (bsOk (fun (y0 : GState) (y1 : GViewID) => (vcmp y0.V y1)) out e10.V) with hc38 | hc38
    · refine c_cond_f (t := false) (.tmp rfl (congrArg Value.bool (by rw [hc38]; rfl))) rfl ?_
      refine c_seq ?_
      refine q_region mixed hs37 (by kernel_rfl) ?_
      have hlt := bsOk_lt hc38
      refine q_st (v := .agg #[.int .u64 ((e10.V.N : Nat) : Int), .int .i64 e10.V.P, .int .i64 e10.Floor, .slice A23 n24 c25]) (fun w hs => (ld38 (cs := [.int .u64 ((e10.V.N : Nat) : Int), .int .i64 e10.V.P, .int .i64 e10.Floor, .slice A23 n24 c25]) (.tmp rfl rfl) (hs.at_ 1 rfl (0) rfl) rfl)) ?_
      refine q_c (v := .int .i64 (sEnd e10)) cb16 .func (evs1 (.tmp rfl rfl)) (fun w hs => end_spec hs e10 (k_s := [.int .u64 ((e10.V.N : Nat) : Int), .int .i64 e10.V.P, .int .i64 e10.Floor, .slice A23 n24 c25]) ⟨A23, n24, c25, rfl, b18, ⟨b19, b20⟩, ⟨b21, b22⟩, hl26⟩ (show (0 : Int) ≤ e10.Floor from by omega) (show e10.Floor ≤ (1073741824 : Int) from by omega)) ?_
      refine q_st (v := v_out) (fun w hs => (x_move (.tmp rfl hρ4))) ?_
      refine q_st (v := .int .i64 ((bsIx (fun (y0 : GState) (y1 : GViewID) => (vcmp y0.V y1)) out e10.V : Nat) : Int)) (fun w hs => (x_move (.tmp rfl rfl))) ?_
      obtain ⟨g40, c41, hv42⟩ := ok_out.pos (by omega)
      obtain ⟨e43, cs44, hx45, hr46, hsub47⟩ := Kn.rows_get (i := (bsIx (fun (y0 : GState) (y1 : GViewID) => (vcmp y0.V y1)) out e10.V)) hk_out (by omega)
      obtain ⟨A53, n54, c55, rfl, b48, ⟨b49, b50⟩, ⟨b51, b52⟩, hl56⟩ := hr46
      have := hl56.len; have : n54 * 32 ≤ 140737488351232 := hl56.bnd; have := hl56.le
      have := hb e43 (hin e43 (List.mem_of_getElem? hx45))
      refine q_st (v := .pointer (some ⟨g40, ((bsIx (fun (y0 : GState) (y1 : GViewID) => (vcmp y0.V y1)) out e10.V) * 4), none⟩)) (fun w hs => (ixo22 (.tmp rfl hv42) rfl (i := ((bsIx (fun (y0 : GState) (y1 : GViewID) => (vcmp y0.V y1)) out e10.V : Nat) : Int)) (.tmp rfl rfl) (by omega) (by omega) (by omega))) ?_
      refine q_st (v := .agg #[.int .u64 ((e43.V.N : Nat) : Int), .int .i64 e43.V.P, .int .i64 e43.Floor, .slice A53 n54 c55]) (fun w hs => (ld38 (cs := [.int .u64 ((e43.V.N : Nat) : Int), .int .i64 e43.V.P, .int .i64 e43.Floor, .slice A53 n54 c55]) (.tmp rfl rfl) ((hs.rowAt 0 rfl hv42 ((bsIx (fun (y0 : GState) (y1 : GViewID) => (vcmp y0.V y1)) out e10.V) * 4) hsub47).sub 0 rfl) rfl)) ?_
      refine q_c (v := .int .i64 (sEnd e43)) cb16 .func (evs1 (.tmp rfl rfl)) (fun w hs => end_spec hs e43 (k_s := [.int .u64 ((e43.V.N : Nat) : Int), .int .i64 e43.V.P, .int .i64 e43.Floor, .slice A53 n54 c55]) ⟨A53, n54, c55, rfl, b48, ⟨b49, b50⟩, ⟨b51, b52⟩, hl56⟩ (show (0 : Int) ≤ e43.Floor from by omega) (show e43.Floor ≤ (1073741824 : Int) from by omega)) ?_
      refine q_st (v := .bool (decide (((sEnd e43) : Int) < (sEnd e10)))) (fun w hs => (x_gtr (k := .i64) (a := (sEnd e10)) (b := (sEnd e43)) (.tmp rfl rfl) (.tmp rfl rfl))) ?_
      refine q_st (v := .bool (decide (((sEnd e43) : Int) < (sEnd e10)))) (fun w hs => (x_assign (.tmp rfl rfl))) ?_
      refine q_nil ?_
      intro w hs58
      refine n_then ?_
      rcases Bool.eq_false_or_eq_true (decide (((sEnd e43) : Int) < (sEnd e10))) with hc59 | hc59
      · have hp59 : ((sEnd e43) : Int) < (sEnd e10) := of_decide_eq_true hc59
        refine c_cond_t (t := true) (.tmp rfl (congrArg Value.bool hc59)) rfl ?_
        refine c_region ?_
        refine st (v := v_out) (x_move (.tmp rfl hρ4)) ?_
        refine st (v := .int .i64 ((bsIx (fun (y0 : GState) (y1 : GViewID) => (vcmp y0.V y1)) out e10.V : Nat) : Int)) (x_move (.tmp rfl rfl)) ?_
        refine st (v := .agg #[.int .u64 ((e10.V.N : Nat) : Int), .int .i64 e10.V.P, .int .i64 e10.Floor, .slice A23 n24 c25]) (ld38 (cs := [.int .u64 ((e10.V.N : Nat) : Int), .int .i64 e10.V.P, .int .i64 e10.Floor, .slice A23 n24 c25]) (.tmp rfl rfl) (hs58.at_ 1 rfl (0) rfl) rfl) ?_
        obtain ⟨g60, c61, hv62⟩ := ok_out.pos (by omega)
        refine st (v := .pointer (some ⟨g60, ((bsIx (fun (y0 : GState) (y1 : GViewID) => (vcmp y0.V y1)) out e10.V) * 4), none⟩)) (ixo22 (.tmp rfl hv62) rfl (i := ((bsIx (fun (y0 : GState) (y1 : GViewID) => (vcmp y0.V y1)) out e10.V : Nat) : Int)) (.tmp rfl rfl) (by omega) (by omega) (by omega)) ?_
        have hl68 : (bsIx (fun (y0 : GState) (y1 : GViewID) => (vcmp y0.V y1)) out e10.V) * 4 + 4 ≤ c_out.length := by have h1 := (hk_out).1; have h2 : kState.sz = 4 := rfl; rw [h2] at h1; omega
        have hr67 : kState.rep H e10 [.int .u64 ((e10.V.N : Nat) : Int), .int .i64 e10.V.P, .int .i64 e10.Floor, .slice A23 n24 c25] := ⟨A23, n24, c25, rfl, b18, ⟨b19, b20⟩, ⟨b21, b22⟩, hl26⟩
        refine st_m0 (stor38 hs58 hv62 (i := ((bsIx (fun (y0 : GState) (y1 : GViewID) => (vcmp y0.V y1)) out e10.V) * 4)) (xs' := splice c_out ((bsIx (fun (y0 : GState) (y1 : GViewID) => (vcmp y0.V y1)) out e10.V) * 4) [.int .u64 ((e10.V.N : Nat) : Int), .int .i64 e10.V.P, .int .i64 e10.Floor, .slice A23 n24 c25]) (.tmp rfl rfl) (u := .agg #[.int .u64 ((e10.V.N : Nat) : Int), .int .i64 e10.V.P, .int .i64 e10.Floor, .slice A23 n24 c25]) (.tmp rfl rfl) rfl (by omega) (oneA rfl) rfl) ?_
        rintro w63 hs64
        have hk66 := Kn.rows_set (d := kState.toKn) hk_out (i := (bsIx (fun (y0 : GState) (y1 : GViewID) => (vcmp y0.V y1)) out e10.V)) (by omega) hr67
        have ok65 := ok_out.splice (i := (bsIx (fun (y0 : GState) (y1 : GViewID) => (vcmp y0.V y1)) out e10.V) * 4) (vs := [.int .u64 ((e10.V.N : Nat) : Int), .int .i64 e10.V.P, .int .i64 e10.Floor, .slice A23 n24 c25]) (by simpa using hl68)
        have hn69 : (out.set (bsIx (fun (y0 : GState) (y1 : GViewID) => (vcmp y0.V y1)) out e10.V) e10).length = out.length := List.length_set
        rw [← hn69] at hs64 ok65
        refine c_nil ?_
        refine n_block ?_
        refine n_block ?_
        refine n_then ?_
        refine c_region ?_
        refine st (v := .int .i64 (((i + 1) : Nat) : Int)) (x_add (k := .i64) (a := ((i : Nat) : Int)) (b := 1) (.tmp rfl hρ7) .const ((w64 (by omega) (by omega)).trans (by omega))) ?_
        refine st (v := .int .i64 (((i + 1) : Nat) : Int)) (x_move (.tmp rfl rfl)) ?_
        refine c_nil ?_
        have hN : (out.set (bsIx (fun (y0 : GState) (y1 : GViewID) => (vcmp y0.V y1)) out e10.V) e10) = cutTo l (i + 1) := by rw [cutTo_next hx14, ← hout, stepC_set hc38 hx45 hp59]
        refine n_then ⟨_, _, rfl, ?_, (out.set (bsIx (fun (y0 : GState) (y1 : GViewID) => (vcmp y0.V y1)) out e10.V) e10), v_out, (splice c_out ((bsIx (fun (y0 : GState) (y1 : GViewID) => (vcmp y0.V y1)) out e10.V) * 4) [.int .u64 ((e10.V.N : Nat) : Int), .int .i64 e10.V.P, .int .i64 e10.Floor, .slice A23 n24 c25]), (i + 1), hρ4, hρ5, hρ6, rfl, ok65, hk66, (by omega), hN, (by rw [hN]; exact cutTo_length _ _), (by rw [hN]; exact cutTo_mem _ _), (hs64.pick 1 rfl rfl).drop, rfl⟩
        omega
      · have hp59 : ¬ (((sEnd e43) : Int) < (sEnd e10)) := of_decide_eq_false hc59
        refine c_cond_f (t := false) (.tmp rfl (congrArg Value.bool hc59)) rfl ?_
        refine c_skip ?_
        refine n_block ?_
        refine n_block ?_
        refine n_then ?_
        refine c_region ?_
        refine st (v := .int .i64 (((i + 1) : Nat) : Int)) (x_add (k := .i64) (a := ((i : Nat) : Int)) (b := 1) (.tmp rfl hρ7) .const ((w64 (by omega) (by omega)).trans (by omega))) ?_
        refine st (v := .int .i64 (((i + 1) : Nat) : Int)) (x_move (.tmp rfl rfl)) ?_
        refine c_nil ?_
        have hN : out = cutTo l (i + 1) := by rw [cutTo_next hx14, ← hout, stepC_stay hc38 hx45 hp59]
        refine n_then ⟨_, _, rfl, ?_, out, v_out, c_out, (i + 1), hρ4, hρ5, hρ6, rfl, ok_out, hk_out, (by omega), hN, (by rw [hN]; exact cutTo_length _ _), (by rw [hN]; exact cutTo_mem _ _), (hs58.pick 1 rfl rfl).drop, rfl⟩
        omega
    · refine c_cond_t (t := true) (.tmp rfl (congrArg Value.bool (by rw [hc38]; rfl))) rfl ?_
      refine c_region ?_
      refine st (v := v_out) (x_move (.tmp rfl hρ4)) ?_
      refine st (v := .int .i64 ((bsIx (fun (y0 : GState) (y1 : GViewID) => (vcmp y0.V y1)) out e10.V : Nat) : Int)) (x_move (.tmp rfl rfl)) ?_
      refine st (v := .agg #[.int .u64 ((e10.V.N : Nat) : Int), .int .i64 e10.V.P, .int .i64 e10.Floor, .slice A23 n24 c25]) (ld38 (cs := [.int .u64 ((e10.V.N : Nat) : Int), .int .i64 e10.V.P, .int .i64 e10.Floor, .slice A23 n24 c25]) (.tmp rfl rfl) (hs37.at_ 1 rfl (0) rfl) rfl) ?_
      refine st_m (m_lit (n := 1) (ps := [(0, .agg #[.int .u64 ((e10.V.N : Nat) : Int), .int .i64 e10.V.P, .int .i64 e10.Floor, .slice A23 n24 c25])]) (cs := [.int .u64 ((e10.V.N : Nat) : Int), .int .i64 e10.V.P, .int .i64 e10.Floor, .slice A23 n24 c25]) Try.underlying22 inf38 (.cons (.tmp rfl rfl) Evp.nil) (by decide) (by decide) rfl rfl hs37) ?_
      rintro _ w71 ⟨g70, rfl, hs73⟩
      have hs74 : St H _ (row 38 4 v_out out.length c_out :: obj g70 38 [.int .u64 ((e10.V.N : Nat) : Int), .int .i64 e10.V.P, .int .i64 e10.Floor, .slice A23 n24 c25] :: obj g27 38 [.int .u64 ((e10.V.N : Nat) : Int), .int .i64 e10.V.P, .int .i64 e10.Floor, .slice A23 n24 c25] :: L) := hs73.pick 1 rfl rfl
      refine st_c cb29 .func (evs3 (.tmp rfl rfl) (.tmp rfl rfl) (.tmp rfl rfl)) (insert_state hs74 ok_out hk_out (bsIx (fun (y0 : GState) (y1 : GViewID) => (vcmp y0.V y1)) out e10.V) (k_v := [.int .u64 ((e10.V.N : Nat) : Int), .int .i64 e10.V.P, .int .i64 e10.Floor, .slice A23 n24 c25]) (v := e10) ⟨A23, n24, c25, rfl, b18, ⟨b19, b20⟩, ⟨b21, b22⟩, hl26⟩ (by omega) (by omega)) ?_
      rintro e w75 ⟨v77, cs80, rfl, ok78, hk81, hs76⟩
      refine ⟨_, rfl, ?_⟩
      refine st (v := v77) (x_assign (.tmp rfl rfl)) ?_
      refine c_nil ?_
      refine n_block ?_
      refine n_block ?_
      refine n_then ?_
      refine c_region ?_
      refine st (v := .int .i64 (((i + 1) : Nat) : Int)) (x_add (k := .i64) (a := ((i : Nat) : Int)) (b := 1) (.tmp rfl hρ7) .const ((w64 (by omega) (by omega)).trans (by omega))) ?_
      refine st (v := .int .i64 (((i + 1) : Nat) : Int)) (x_move (.tmp rfl rfl)) ?_
      refine c_nil ?_
      have hN : (out.take (bsIx (fun (y0 : GState) (y1 : GViewID) => (vcmp y0.V y1)) out e10.V) ++ [e10] ++ out.drop (bsIx (fun (y0 : GState) (y1 : GViewID) => (vcmp y0.V y1)) out e10.V)) = cutTo l (i + 1) := by rw [cutTo_next hx14, ← hout, stepC_ins hc38]
      refine n_then ⟨_, _, rfl, ?_, (out.take (bsIx (fun (y0 : GState) (y1 : GViewID) => (vcmp y0.V y1)) out e10.V) ++ [e10] ++ out.drop (bsIx (fun (y0 : GState) (y1 : GViewID) => (vcmp y0.V y1)) out e10.V)), v77, cs80, (i + 1), rfl, hρ5, hρ6, rfl, ok78, hk81, (by omega), hN, (by rw [hN]; exact cutTo_length _ _), (by rw [hN]; exact cutTo_mem _ _), (hs76.pick 1 rfl rfl).drop, rfl⟩
      omega
  · have hp9 : ¬ ((((i : Nat) : Int) : Int) < ((n_l : Nat) : Int)) := of_decide_eq_false hc9
    refine c_cond_f (t := false) (.tmp rfl (congrArg Value.bool hc9)) rfl ?_
    refine c_exit ?_
    refine x_then ?_
    refine x_then ?_
    refine x_here ?_
    refine n_then ?_
    refine c_seq ?_
    refine c_region ?_
    refine st (v := v_out) (x_move (.tmp rfl hρ4)) ?_
    refine st_c cb30 .func (evs2 (.tmp rfl rfl) .func) (delete_state hs8 ok_out hk_out (fun (y0 : GState) => (decide (((y0.V.N : Nat) : Int) = 0))) cb31 (fun {_} {_} hs y0 {_} h0 => join_p hs y0 h0 ) ) ?_
    rintro e w82 ⟨v84, cs87, rfl, ok85, hk88, hs83⟩
    refine ⟨_, rfl, ?_⟩
    refine st (v := v84) (x_assign (.tmp rfl rfl)) ?_
    refine c_nil ?_
    refine n_then ?_
    refine c_ret ?_
    refine leave_ret (res_one (v := v84) rfl (.mk rfl rfl)) ?_
    have hans : joinC l = (out.filter (fun x => !(fun (y0 : GState) => (decide (((y0.V.N : Nat) : Int) = 0))) x)) := by unfold joinC; rw [hout, show i = l.length from by omega]
    rw [← joinC_eq, hans]
    exact ⟨v84, cs87, rfl, ok85, hk88, hs83⟩

end Go.Proofs.Ytkbllbphkdnmbaa
