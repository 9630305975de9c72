/- Steps of the proofs over the functions of this seat, printed by a program (gen.py) and checked by Lean. -/
import Derived.Test.YtdllflllhjaimaaDoorTy
import Derived.Test.YtdllflllhjaimaaDoorFmM4b
import Derived.Test.YtdllflllhjaimaaDoorT2dawake
set_option linter.unusedVariables false
set_option linter.unusedSimpArgs false
namespace Go.Proofs.YtdllflllhjaimaaDoor
open Go Go.FM Go.Proofs
attribute [local irreducible] wpList wpQuiet Code.wp Calls
set_option maxHeartbeats 8000000 in
theorem built_spec {H : Hp} {w : World} {L : List Res} (hs : St H w L) (htab : Tab H) (s n : Nat) (b_s : s < 65536) (b_n : n < 256) : Calls Tryd.prog 5 #[.int .u16 ((s : Nat) : Int), .int .u8 ((n : Nat) : Int)] w (fun e w' => e = .returned (.bool true) ∧ St H w' L) := by
  refine enter (args := [.int .u16 ((s : Nat) : Int), .int .u8 ((n : Nat) : Int)]) (N := 59) Tryd.func5 rfl rfl rfl ?_
  refine c_seq ?_
  refine c_region ?_
  refine st (v := .bool false) (x_assign .const) ?_
  refine c_nil ?_
  refine n_then ?_
  refine c_seq ?_
  refine c_seq ?_
  refine c_region ?_
  refine st_c cb9 .func (evs0 ) (awake_spec hs htab) ?_
  rintro e w1 ⟨rfl, hs2⟩
  refine ⟨_, rfl, ?_⟩
  refine st (v := .bool false) (x_not (b := true) (.tmp rfl rfl)) ?_
  refine c_nil ?_
  refine n_then ?_
  refine c_cond_f (t := false) (.tmp rfl rfl) rfl ?_
  refine c_skip ?_
  refine n_then ?_
  refine c_seq ?_
  refine c_region ?_
  refine st (v := .int .u16 ((s : Nat) : Int)) (x_move (.tmp rfl rfl)) ?_
  refine st_c cb11 .func (evs1 (.tmp rfl rfl)) (list_spec hs2 htab s b_s) ?_
  rintro e w4 ⟨v3, rfl, ok5, hs6⟩
  refine ⟨_, rfl, ?_⟩
  refine st (v := v3) (x_assign (.tmp rfl rfl)) ?_
  refine c_nil ?_
  refine n_then ?_
  refine c_seq ?_
  refine c_region ?_
  refine st (v := .int .u16 0) (x_assign .const) ?_
  refine c_nil ?_
  refine n_then ?_
  refine c_seq ?_
  refine c_region ?_
  refine st (v := .int .u16 ((s : Nat) : Int)) (x_move (.tmp rfl rfl)) ?_
  refine st (v := .int .u16 ((s : Nat) : Int)) (x_assign (.tmp rfl rfl)) ?_
  refine c_nil ?_
  refine n_then ?_
  refine c_seq ?_
  refine c_seq ?_
  refine c_region ?_
  refine st (v := .int .i64 0) (x_assign .const) ?_
  refine c_nil ?_
  refine n_then ?_
  refine c_block ?_
  refine c_loop (fun ρ w k => ∃ (i : Nat) (a : Nat) (b : Nat), ρ 0 = .int .u16 ((s : Nat) : Int) ∧ ρ 1 = .int .u8 ((n : Nat) : Int) ∧ ρ 5 = v3 ∧ ρ 6 = .int .u16 ((a : Nat) : Int) ∧ ρ 7 = .int .u16 ((b : Nat) : Int) ∧ ρ 8 = .int .i64 ((i : Nat) : Int) ∧ (i ≤ (lst s).length) ∧ (a < 65536) ∧ (b < 65536) ∧ (Built s n i a b) ∧ (RowOk 1 v3 (lst s).length ((lst s).map encI)) ∧ St H w (row 3 1 v3 ((lst s).length) ((lst s).map encI) :: L) ∧ k = (lst s).length - i) _ ⟨0, 0, s, rfl, rfl, rfl, rfl, rfl, rfl, (by omega), (by omega), b_s, (Built.start b_s), ok5, hs6, rfl⟩ ?_
  rintro ρ w k ⟨i, a, b, hρ9, hρ10, hρ11, hρ12, hρ13, hρ14, hi, ba, bb, hab, ok, hs15, rfl⟩
  refine c_seq ?_
  refine c_seq ?_
  refine c_region ?_
  refine st (v := .int .i64 ((i : Nat) : Int)) (x_move (.tmp rfl hρ14)) ?_
  refine st (v := v3) (x_move (.tmp rfl hρ11)) ?_
  obtain ⟨A16, c17, hv18, hc19⟩ := ok.slice
  refine st (v := .int .i64 (((lst s).length : Nat) : Int)) (x_len (n := (lst s).length) Tryd.underlying28 (.tmp rfl hv18)) ?_
  refine st (v := .bool (decide ((((i : Nat) : Int) : Int) < (((lst s).length : Nat) : Int)))) (x_lss (k := .i64) (a := ((i : Nat) : Int)) (b := (((lst s).length : Nat) : Int)) (.tmp rfl rfl) (.tmp rfl rfl)) ?_
  refine c_nil ?_
  refine n_then ?_
  rcases Bool.eq_false_or_eq_true (decide ((((i : Nat) : Int) : Int) < (((lst s).length : Nat) : Int))) with hc20 | hc20
  · have hp20 : (((i : Nat) : Int) : Int) < (((lst s).length : Nat) : Int) := of_decide_eq_true hc20
    refine c_cond_t (t := true) (.tmp rfl (congrArg Value.bool hc20)) rfl ?_
    refine c_skip ?_
    refine n_then ?_
    refine c_seq ?_
    refine c_block ?_
    refine c_seq ?_
    refine c_region ?_
    refine st (v := v3) (x_move (.tmp rfl hρ11)) ?_
    refine st (v := .int .i64 ((i : Nat) : Int)) (x_move (.tmp rfl hρ14)) ?_
    refine st (v := .int .u8 ((n : Nat) : Int)) (x_move (.tmp rfl hρ10)) ?_
    refine st (v := .int .i64 ((n : Nat) : Int)) (x_conv (k := .u8) (a := ((n : Nat) : Int)) Tryd.underlying5 Tryd.underlying3 (.tmp rfl rfl) (w64 (by omega) (by omega))) ?_
    have hll : (lst s).length ≤ 16 := by rw [lst_length]; exact pc_le 16 s
    refine st (v := .int .i64 (((i + n) : Nat) : Int)) (x_add (k := .i64) (a := ((i : Nat) : Int)) (b := ((n : Nat) : Int)) (.tmp rfl rfl) (.tmp rfl rfl) (w64 (by omega) (by omega))) ?_
    refine st (v := v3) (x_move (.tmp rfl hρ11)) ?_
    obtain ⟨A21, c22, hv23, hc24⟩ := ok.slice
    refine st (v := .int .i64 (((lst s).length : Nat) : Int)) (x_len (n := (lst s).length) Tryd.underlying28 (.tmp rfl hv23)) ?_
    have hpos : 0 < (lst s).length := by omega
    have hrm := Nat.mod_lt (i + n) hpos
    refine st (v := .int .i64 ((((i + n) % (lst s).length) : Nat) : Int)) (x_remN (k := .i64) (m := (i + n)) (n := (lst s).length) (.tmp rfl rfl) (.tmp rfl rfl) (by omega)) ?_
    obtain ⟨g25, c26, hv27⟩ := ok.pos (by omega)
    refine st (v := .pointer (some ⟨g25, (((i + n) % (lst s).length)), none⟩)) (ixo28 (.tmp rfl hv27) rfl (i := ((((i + n) % (lst s).length) : Nat) : Int)) (.tmp rfl rfl) (by omega) (by omega) (by omega)) ?_
    obtain ⟨z28, hz29⟩ : ∃ x, (lst s)[((i + n) % (lst s).length)]? = some x := ⟨_, List.getElem?_eq_getElem (by omega)⟩
    refine st (v := .int .i64 ((z28 : Nat) : Int)) (ld3 (.tmp rfl rfl) (hs15.rowEnc (enc := encI) 0 rfl hv27 ((i + n) % (lst s).length) hz29)) ?_
    have hzl := lst_lt hz29
    refine st (v := .int .i64 ((z28 : Nat) : Int)) (x_assign (.tmp rfl rfl)) ?_
    refine c_nil ?_
    refine n_then ?_
    refine c_seq ?_
    refine c_region ?_
    refine st (v := .int .u16 ((a : Nat) : Int)) (x_move (.tmp rfl hρ12)) ?_
    refine st (v := .int .i64 ((z28 : Nat) : Int)) (x_move (.tmp rfl rfl)) ?_
    refine st_c cb12 .func (evs2 (.tmp rfl rfl) (.tmp rfl rfl)) (with_spec hs15 a ((z28 : Nat) : Int) ba (by omega)) ?_
    rintro e w30 ⟨rfl, hs31⟩
    refine ⟨_, rfl, ?_⟩
    refine st (v := .int .i64 ((z28 : Nat) : Int)) (x_move (.tmp rfl rfl)) ?_
    refine st_c cb12 .func (evs2 (.tmp rfl rfl) (.tmp rfl rfl)) (with_spec hs31 (wth a ((z28 : Nat) : Int)) ((z28 : Nat) : Int) (wth_lt ba ((z28 : Nat) : Int)) (by omega)) ?_
    rintro e w32 ⟨rfl, hs33⟩
    refine ⟨_, rfl, ?_⟩
    refine st (v := .int .u16 (((wth (wth a ((z28 : Nat) : Int)) ((z28 : Nat) : Int)) : Nat) : Int)) (x_assign (.tmp rfl rfl)) ?_
    refine c_nil ?_
    refine n_then ?_
    refine c_region ?_
    refine st (v := .int .u16 ((b : Nat) : Int)) (x_move (.tmp rfl hρ13)) ?_
    refine st (v := .int .i64 ((z28 : Nat) : Int)) (x_move (.tmp rfl rfl)) ?_
    refine st_c cb13 .func (evs2 (.tmp rfl rfl) (.tmp rfl rfl)) (without_spec hs33 b ((z28 : Nat) : Int) bb (by omega)) ?_
    rintro e w34 ⟨rfl, hs35⟩
    refine ⟨_, rfl, ?_⟩
    refine st (v := .int .i64 ((z28 : Nat) : Int)) (x_move (.tmp rfl rfl)) ?_
    refine st_c cb13 .func (evs2 (.tmp rfl rfl) (.tmp rfl rfl)) (without_spec hs35 (wto b ((z28 : Nat) : Int)) ((z28 : Nat) : Int) (wto_lt bb ((z28 : Nat) : Int)) (by omega)) ?_
    rintro e w36 ⟨rfl, hs37⟩
    refine ⟨_, rfl, ?_⟩
    refine st (v := .int .u16 (((wto (wto b ((z28 : Nat) : Int)) ((z28 : Nat) : Int)) : Nat) : Int)) (x_assign (.tmp rfl rfl)) ?_
    refine c_nil ?_
    refine n_block ?_
    refine n_then ?_
    refine c_region ?_
    refine st (v := .int .i64 ((i : Nat) : Int)) (x_move (.tmp rfl hρ14)) ?_
    refine st (v := .int .i64 (((i : Nat) : Int) + 1)) (x_add (k := .i64) (a := ((i : Nat) : Int)) (b := 1) (.tmp rfl rfl) .const (w64 (by omega) (by omega))) ?_
    refine st (v := .int .i64 (((i : Nat) : Int) + 1)) (x_assign (.tmp rfl rfl)) ?_
    refine c_nil ?_
    refine n_then ⟨_, _, rfl, ?_, (i + 1), (wth (wth a ((z28 : Nat) : Int)) ((z28 : Nat) : Int)), (wto (wto b ((z28 : Nat) : Int)) ((z28 : Nat) : Int)), hρ9, hρ10, hρ11, rfl, rfl, rfl, (by omega), (wth_lt (wth_lt ba ((z28 : Nat) : Int)) ((z28 : Nat) : Int)), (wto_lt (wto_lt bb ((z28 : Nat) : Int)) ((z28 : Nat) : Int)), (hab.next (by omega) hz29 b_s), ok, hs37, rfl⟩
    omega
  · have hp20 : ¬ ((((i : Nat) : Int) : Int) < (((lst s).length : Nat) : Int)) := of_decide_eq_false hc20
    refine c_cond_f (t := false) (.tmp rfl (congrArg Value.bool hc20)) rfl ?_
    refine c_exit ?_
    refine x_then ?_
    refine x_then ?_
    refine x_here ?_
    refine n_then ?_
    refine c_seq ?_
    refine c_region ?_
    refine st (v := .int .u16 ((a : Nat) : Int)) (x_move (.tmp rfl hρ12)) ?_
    refine st (v := .int .u16 ((s : Nat) : Int)) (x_move (.tmp rfl hρ9)) ?_
    refine st (v := .bool (decide ((((a : Nat) : Int) : Int) = ((s : Nat) : Int)))) (x_eql (k := .u16) (a := ((a : Nat) : Int)) (b := ((s : Nat) : Int)) (.tmp rfl rfl) (.tmp rfl rfl)) ?_
    refine st (v := .bool (decide ((((a : Nat) : Int) : Int) = ((s : Nat) : Int)))) (x_move (.tmp rfl rfl)) ?_
    have hc38 : (decide ((((a : Nat) : Int) : Int) = ((s : Nat) : Int))) = true := (decide_eq_true (by have := hab.done b_s (by omega); omega))
    refine g_yes (yl (dj := 44) (b := true) rfl rfl (congrArg Value.bool hc38)) ?_
    refine st (v := .int .u16 ((b : Nat) : Int)) (x_move (.tmp rfl hρ13)) ?_
    refine g_yes (yl (dj := 44) (b := true) rfl rfl (congrArg Value.bool hc38)) ?_
    refine st (v := .bool (decide ((((b : Nat) : Int) : Int) = 0))) (x_eql (k := .u16) (a := ((b : Nat) : Int)) (b := 0) (.tmp rfl rfl) .const) ?_
    refine st (v := .bool (decide ((((b : Nat) : Int) : Int) = 0))) (x_pick_t (.tmp rfl (congrArg Value.bool hc38)) (.tmp rfl rfl)) ?_
    refine st (v := .bool (decide ((((b : Nat) : Int) : Int) = 0))) (x_move (.tmp rfl rfl)) ?_
    have hc39 : (decide ((((b : Nat) : Int) : Int) = 0)) = true := (decide_eq_true (by have := hab.done b_s (by omega); omega))
    refine g_yes (yl (dj := 48) (b := true) rfl rfl (congrArg Value.bool hc39)) ?_
    refine st (v := .int .u16 ((a : Nat) : Int)) (x_move (.tmp rfl hρ12)) ?_
    refine g_yes (yl (dj := 48) (b := true) rfl rfl (congrArg Value.bool hc39)) ?_
    refine st_c cb10 .func (evs1 (.tmp rfl rfl)) (count_spec hs15 a ba) ?_
    rintro e w40 ⟨rfl, hs41⟩
    refine ⟨_, rfl, ?_⟩
    refine g_yes (yl (dj := 48) (b := true) rfl rfl (congrArg Value.bool hc39)) ?_
    refine st (v := v3) (x_move (.tmp rfl hρ11)) ?_
    refine g_yes (yl (dj := 48) (b := true) rfl rfl (congrArg Value.bool hc39)) ?_
    obtain ⟨A42, c43, hv44, hc45⟩ := ok.slice
    refine st (v := .int .i64 (((lst s).length : Nat) : Int)) (x_len (n := (lst s).length) Tryd.underlying28 (.tmp rfl hv44)) ?_
    refine g_yes (yl (dj := 48) (b := true) rfl rfl (congrArg Value.bool hc39)) ?_
    refine st (v := .bool (decide ((((cnt a : Nat) : Int) : Int) = (((lst s).length : Nat) : Int)))) (x_eql (k := .i64) (a := ((cnt a : Nat) : Int)) (b := (((lst s).length : Nat) : Int)) (.tmp rfl rfl) (.tmp rfl rfl)) ?_
    refine st (v := .bool (decide ((((cnt a : Nat) : Int) : Int) = (((lst s).length : Nat) : Int)))) (x_pick_t (.tmp rfl (congrArg Value.bool hc39)) (.tmp rfl rfl)) ?_
    refine st (v := .bool (decide ((((cnt a : Nat) : Int) : Int) = (((lst s).length : Nat) : Int)))) (x_move (.tmp rfl rfl)) ?_
    have hc46 : (decide ((((cnt a : Nat) : Int) : Int) = (((lst s).length : Nat) : Int))) = true := (decide_eq_true (by have h5 := hab.done b_s (by omega); have h6 := lst_length s; rw [h5.1]; omega))
    refine g_yes (yl (dj := 55) (b := true) rfl rfl (congrArg Value.bool hc46)) ?_
    refine st_c cb14 .func (evs1 .const) (least_spec hs41 htab 0 (by decide)) ?_
    rintro e w47 ⟨rfl, hs48⟩
    refine ⟨_, rfl, ?_⟩
    refine g_yes (yl (dj := 55) (b := true) rfl rfl (congrArg Value.bool hc46)) ?_
    refine st (v := .bool (decide (((least 0) : Int) = (-1)))) (x_eql (k := .i64) (a := (least 0)) (b := (-1)) (.tmp rfl rfl) .const) ?_
    refine st (v := .bool (decide (((least 0) : Int) = (-1)))) (x_pick_t (.tmp rfl (congrArg Value.bool hc46)) (.tmp rfl rfl)) ?_
    refine st (v := .bool (decide (((least 0) : Int) = (-1)))) (x_assign (.tmp rfl rfl)) ?_
    refine c_nil ?_
    refine n_then ?_
    refine c_ret ?_
    refine leave_ret (res_one (v := .bool (decide (((least 0) : Int) = (-1)))) rfl (.mk rfl rfl)) ?_
    exact ⟨ret_true (b := (decide (((least 0) : Int) = (-1)))) (by decide +kernel), hs48.drop⟩

end Go.Proofs.YtdllflllhjaimaaDoor
