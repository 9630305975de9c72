/- Steps of the proofs over the functions of this seat, printed by a program (gen.py) and checked by Lean. -/
import Derived.Test.YtojlmilkdijiaaaDoorUty
import Derived.Test.YtojlmilkdijiaaaDoorFmM4b
import Derived.Test.YtojlmilkdijiaaaDoorFmP
import Derived.Test.YtojlmilkdijiaaaDoorFmN7
import Derived.Test.YtojlmilkdijiaaaDoorU8d
set_option linter.unusedVariables false
set_option linter.unusedSimpArgs false
namespace Go.Proofs.YtojlmilkdijiaaaDoor
open Go Go.FM Go.Proofs
attribute [local irreducible] wpList wpQuiet wpS Code.wp Calls
set_option maxHeartbeats 8000000 in
theorem turns_spec {H : Hp} {w : World} {L : List Res} (hs : St H w (L)) {A_p : Option Addr} {n_p c_p : Nat} (p : List Nat) (h_p : By H A_p n_p c_p p) {A_bits : Option Addr} {n_bits c_bits : Nat} (bits : (List Nat)) (h_bits : Sl (kU .u16 65536 2 (by decide)) H A_bits n_bits c_bits bits) (htab : Tab H) : Calls Tryd.prog 4 #[.slice A_p n_p c_p, .slice A_bits n_bits c_bits] w (fun e w' => e = .returned (.bool true) ∧ St H w' (L)) := by
  have := h_p.len; have := h_p.le; have := h_p.bnd
  have := h_bits.len; have := h_bits.le; have : n_bits * 2 ≤ 140737488351232 := h_bits.bnd
  refine enter (args := [.slice A_p n_p c_p, .slice A_bits n_bits c_bits]) (N := 127) Tryd.func4 rfl rfl rfl ?_
  refine c_seq ?_
  refine c_region ?_
  refine st (v := .bool false) (x_assign .const) ?_
  refine c_nil ?_
  refine n_then ?_
  refine c_seq ?_
  refine c_seq ?_
  refine c_region ?_
  refine st_c cb11 .func (evs0 ) (awake_spec hs  htab) ?_
  rintro e w1 ⟨rfl, hs2⟩
  refine ⟨_, rfl, ?_⟩
  refine st (v := .bool false) (x_not (b := true) (.tmp rfl rfl)) ?_
  refine st (v := .bool false) (x_move (.tmp rfl rfl)) ?_
  refine g_yes (yl (dj := 17) (b := false) rfl rfl rfl) ?_
  refine st (v := .slice A_p n_p c_p) (x_move (.tmp rfl rfl)) ?_
  refine g_yes (yl (dj := 17) (b := false) rfl rfl rfl) ?_
  refine st (v := .int .i64 ((n_p : Nat) : Int)) (x_len (n := n_p) Tryd.underlying22 (.tmp rfl rfl)) ?_
  refine g_yes (yl (dj := 17) (b := false) rfl rfl rfl) ?_
  refine st (v := .bool (decide ((((n_p : Nat) : Int) : Int) = 0))) (x_eql (k := .i64) (a := ((n_p : Nat) : Int)) (b := 0) (.tmp rfl rfl) .const) ?_
  refine st (v := .bool (decide ((((n_p : Nat) : Int) : Int) = 0))) (x_pick_f (.tmp rfl rfl) (.tmp rfl rfl)) ?_
  refine st (v := .bool (decide ((((n_p : Nat) : Int) : Int) = 0))) (x_move (.tmp rfl rfl)) ?_
  rcases Bool.eq_false_or_eq_true (decide ((((n_p : Nat) : Int) : Int) = 0)) with hc3 | hc3
  · have hp3 : (((n_p : Nat) : Int) : Int) = 0 := of_decide_eq_true hc3
    refine g_no (yl (dj := 22) (b := true) rfl rfl (congrArg Value.bool hc3)) rfl ?_
    refine g_no (yl (dj := 22) (b := true) rfl rfl (congrArg Value.bool hc3)) rfl ?_
    refine g_no (yl (dj := 22) (b := true) rfl rfl (congrArg Value.bool hc3)) rfl ?_
    refine st (v := .bool true) (x_pick_t (.tmp rfl (congrArg Value.bool hc3)) .const) ?_
    refine c_nil ?_
    refine n_then ?_
    refine c_cond_t (t := true) (.tmp rfl rfl) rfl ?_
    refine c_seq ?_
    refine c_region ?_
    refine st_c cb11 .func (evs0 ) (awake_spec hs2  htab) ?_
    rintro e w4 ⟨rfl, hs5⟩
    refine ⟨_, rfl, ?_⟩
    refine st (v := .bool true) (x_assign (.tmp rfl rfl)) ?_
    refine c_nil ?_
    refine n_then ?_
    refine c_ret ?_
    refine r_then ?_
    refine leave_ret (res_one (v := .bool true) rfl (.mk rfl rfl)) ?_
    exact ⟨rfl, hs5⟩
  · have hp3 : ¬ ((((n_p : Nat) : Int) : Int) = 0) := of_decide_eq_false hc3
    refine g_yes (yl (dj := 22) (b := false) rfl rfl (congrArg Value.bool hc3)) ?_
    refine st (v := .slice A_p n_p c_p) (x_move (.tmp rfl rfl)) ?_
    refine g_yes (yl (dj := 22) (b := false) rfl rfl (congrArg Value.bool hc3)) ?_
    refine st (v := .int .i64 ((n_p : Nat) : Int)) (x_len (n := n_p) Tryd.underlying22 (.tmp rfl rfl)) ?_
    refine g_yes (yl (dj := 22) (b := false) rfl rfl (congrArg Value.bool hc3)) ?_
    refine st (v := .bool (decide ((1000 : Int) < ((n_p : Nat) : Int)))) (x_gtr (k := .i64) (a := ((n_p : Nat) : Int)) (b := 1000) (.tmp rfl rfl) .const) ?_
    refine st (v := .bool (decide ((1000 : Int) < ((n_p : Nat) : Int)))) (x_pick_f (.tmp rfl (congrArg Value.bool hc3)) (.tmp rfl rfl)) ?_
    refine c_nil ?_
    refine n_then ?_
    rcases Bool.eq_false_or_eq_true (decide ((1000 : Int) < ((n_p : Nat) : Int))) with hc6 | hc6
    · have hp6 : (1000 : Int) < ((n_p : Nat) : Int) := of_decide_eq_true hc6
      refine c_cond_t (t := true) (.tmp rfl (congrArg Value.bool hc6)) rfl ?_
      refine c_seq ?_
      refine c_region ?_
      refine st_c cb11 .func (evs0 ) (awake_spec hs2  htab) ?_
      rintro e w7 ⟨rfl, hs8⟩
      refine ⟨_, rfl, ?_⟩
      refine st (v := .bool true) (x_assign (.tmp rfl rfl)) ?_
      refine c_nil ?_
      refine n_then ?_
      refine c_ret ?_
      refine r_then ?_
      refine leave_ret (res_one (v := .bool true) rfl (.mk rfl rfl)) ?_
      exact ⟨rfl, hs8⟩
    · have hp6 : ¬ ((1000 : Int) < ((n_p : Nat) : Int)) := of_decide_eq_false hc6
      refine c_cond_f (t := false) (.tmp rfl (congrArg Value.bool hc6)) rfl ?_
      refine c_skip ?_
      refine n_then ?_
      refine c_seq ?_
      refine c_region ?_
      refine st_c cb12 .func (evs1 .const) (new_spec hs2 2 ⟨by omega, by omega⟩ (by omega) (by omega)) ?_
      rintro e w9 ⟨g11, vb12, cb13, vt14, ct15, rfl, ok16, hs10⟩
      refine ⟨_, rfl, ?_⟩
      refine st (v := .tuple #[.pointer (some ⟨g11, 0, none⟩), .int .i64 0]) (x_move (.tmp rfl rfl)) ?_
      refine st (v := .pointer (some ⟨g11, 0, none⟩)) (x_extract (.tmp rfl rfl) (i := 0) rfl) ?_
      refine st (v := .int .i64 0) (x_extract (.tmp rfl rfl) (i := 1) rfl) ?_
      refine st (v := .pointer (some ⟨g11, 0, none⟩)) (x_assign (.tmp rfl rfl)) ?_
      refine st (v := .int .i64 0) (x_assign (.tmp rfl rfl)) ?_
      refine c_nil ?_
      refine n_then ?_
      refine c_seq ?_
      refine c_seq ?_
      refine c_region ?_
      refine st (v := .pointer (some ⟨g11, 0, none⟩)) (x_move (.tmp rfl rfl)) ?_
      refine st (v := .slice A_p n_p c_p) (x_move (.tmp rfl rfl)) ?_
      refine st (v := .agg #[.int .i64 0, .int .i64 1, .slice A_p n_p c_p]) (bl37 (ps := [(1, .int .i64 1), (2, .slice A_p n_p c_p)]) (.cons .const (.cons (.tmp rfl rfl) Evp.nil)) rfl) ?_
      have hs19 : St H _ (netG 64 37 3 5 g11 (netNew 2) vb12 cb13 vt14 ct15 (L)) := St.netUp [] hs10
      have hr20 : kPacket.rep H (GPacket.mk 0 1 p) [.int .i64 0, .int .i64 1, .slice A_p n_p c_p] := ⟨A_p, n_p, c_p, rfl, (show IB 0 from ⟨by omega, by omega⟩), (show IB 1 from ⟨by omega, by omega⟩), h_p⟩
      refine st_c cb17 .func (evs2 (.tmp rfl rfl) (.tmp rfl rfl)) (Put_spec hs19 ok16 (GPacket.mk 0 1 p) hr20 (by decide +kernel)) ?_
      rintro e w21 ⟨nt28, vb23, cb24, vt25, ct26, v_30, rfl, ok27, hnt29, hs22⟩
      refine ⟨_, rfl, ?_⟩
      have hs31 : St H _ (netG 64 37 3 5 g11 nt28 vb23 cb24 vt25 ct26 (L)) := St.netDown [] hs22
      have hA0 : TurnsAt nt28 p 0 0 := by rw [hnt29]; exact (TurnsAt.new p _).2
      skip
      refine st (v := .bool (decide ((((netNew 2).putE (GPacket.mk 0 1 p).From (GPacket.mk 0 1 p).To) : Int) ≠ 0))) (x_neq (k := .i64) (a := ((netNew 2).putE (GPacket.mk 0 1 p).From (GPacket.mk 0 1 p).To)) (b := 0) (.tmp rfl rfl) .const) ?_
      refine c_nil ?_
      refine n_then ?_
      have hc32 : (decide ((((netNew 2).putE (GPacket.mk 0 1 p).From (GPacket.mk 0 1 p).To) : Int) ≠ 0)) = false := (decide_eq_false (fun h => h (TurnsAt.new p (.slice none 0 0)).1))
      refine c_cond_f (t := false) (.tmp rfl (congrArg Value.bool hc32)) rfl ?_
      refine c_skip ?_
      refine n_then ?_
      refine c_seq ?_
      refine c_region ?_
      refine st (v := .slice none 0 0) (x_assign .const) ?_
      refine c_nil ?_
      refine n_then ?_
      refine c_seq ?_
      refine c_region ?_
      refine st (v := .slice none 0 0) (x_move (.tmp rfl rfl)) ?_
      refine st (v := .slice A_p n_p c_p) (x_move (.tmp rfl rfl)) ?_
      refine st_m (m_appNil Tryd.underlying22 inf5 hs31 (.tmp rfl rfl) (.tmp rfl rfl) h_p.toBs (by omega)) ?_
      rintro v33 w34 ⟨ok35, hs36⟩
      refine st (v := v33) (x_assign (.tmp rfl rfl)) ?_
      refine c_nil ?_
      refine n_then ?_
      refine c_seq ?_
      refine c_region ?_
      have hs38 := hs36
      have ok39 := ok35
      rw [← h_p.len] at hs38 ok39
      skip
      refine st (v := .int .i64 0) (x_assign .const) ?_
      refine c_nil ?_
      refine n_then ?_
      refine c_seq ?_
      refine c_seq ?_
      refine c_region ?_
      refine st (v := .int .i64 0) (x_assign .const) ?_
      refine c_nil ?_
      refine n_then ?_
      refine c_block ?_
      refine c_loop (fun ρ w mm => ∃ (want : List Nat) (v_want : Value) (n : Nat) (i : Nat) (s : NetS) (vbs : Value) (cbs : List Value) (vts : Value) (cts : List Value) (m : Nat), ρ 0 = .slice A_p n_p c_p ∧ ρ 1 = .slice A_bits n_bits c_bits ∧ ρ 5 = .pointer (some ⟨g11, 0, none⟩) ∧ ρ 7 = v_want ∧ ρ 8 = .int .i64 ((n : Nat) : Int) ∧ ρ 9 = .int .i64 ((i : Nat) : Int) ∧ (Small want) ∧ (RowOk 1 v_want want.length (want.map encB)) ∧ (NetOk H s vbs cbs vts cts) ∧ (TurnsAt s want ((n : Nat) : Int) m) ∧ (n ≤ 2) ∧ (m ≤ i) ∧ (i ≤ 12) ∧ (want.length = n_p) ∧ St H w (row 5 1 v_want want.length (want.map encB) :: netG 64 37 3 5 g11 s vbs cbs vts cts (L)) ∧ mm = n_bits - i) _ ⟨p, v33, 0, 0, nt28, vb23, cb24, vt25, ct26, 0, rfl, rfl, rfl, rfl, rfl, rfl, (h_p.toBs.lt), (by simpa using ok39), ok27, hA0, (by omega), (by omega), (by omega), h_p.len, (by simpa using hs38), rfl⟩ ?_
      rintro ρ w mm ⟨want, v_want, n, i, s, vbs, cbs, vts, cts, m, hρ41, hρ42, hρ43, hρ44, hρ45, hρ46, sm_want, ok_want, oks, hA, hn2, hm, hi, hwl, hs47, rfl⟩
      refine c_seq ?_
      refine c_seq ?_
      refine c_region ?_
      have hmx := oks.max
      have hlen8 := hA.len
      refine st (v := .int .i64 ((i : Nat) : Int)) (x_move (.tmp rfl hρ46)) ?_
      refine st (v := .slice A_bits n_bits c_bits) (x_move (.tmp rfl hρ42)) ?_
      refine st (v := .int .i64 ((n_bits : Nat) : Int)) (x_len (n := n_bits) Tryd.underlying34 (.tmp rfl rfl)) ?_
      refine st (v := .bool (decide ((((i : Nat) : Int) : Int) < ((n_bits : Nat) : Int)))) (x_lss (k := .i64) (a := ((i : Nat) : Int)) (b := ((n_bits : Nat) : Int)) (.tmp rfl rfl) (.tmp rfl rfl)) ?_
      refine st (v := .bool (decide ((((i : Nat) : Int) : Int) < ((n_bits : Nat) : Int)))) (x_move (.tmp rfl rfl)) ?_
      rcases Bool.eq_false_or_eq_true (decide ((((i : Nat) : Int) : Int) < ((n_bits : Nat) : Int))) with hc48 | hc48
      · have hp48 : (((i : Nat) : Int) : Int) < ((n_bits : Nat) : Int) := of_decide_eq_true hc48
        refine g_yes (yl (dj := 44) (b := true) rfl rfl (congrArg Value.bool hc48)) ?_
        refine st (v := .int .i64 ((i : Nat) : Int)) (x_move (.tmp rfl hρ46)) ?_
        refine g_yes (yl (dj := 44) (b := true) rfl rfl (congrArg Value.bool hc48)) ?_
        refine st (v := .bool (decide ((((i : Nat) : Int) : Int) < 12))) (x_lss (k := .i64) (a := ((i : Nat) : Int)) (b := 12) (.tmp rfl rfl) .const) ?_
        refine st (v := .bool (decide ((((i : Nat) : Int) : Int) < 12))) (x_pick_t (.tmp rfl (congrArg Value.bool hc48)) (.tmp rfl rfl)) ?_
        refine c_nil ?_
        refine n_then ?_
        rcases Bool.eq_false_or_eq_true (decide ((((i : Nat) : Int) : Int) < 12)) with hc49 | hc49
        · have hp49 : (((i : Nat) : Int) : Int) < 12 := of_decide_eq_true hc49
          refine c_cond_t (t := true) (.tmp rfl (congrArg Value.bool hc49)) rfl ?_
          refine c_skip ?_
          refine n_then ?_
          refine c_seq ?_
          refine c_block ?_
          refine c_seq ?_
          refine c_region ?_
          refine st (v := .slice A_bits n_bits c_bits) (x_move (.tmp rfl hρ42)) ?_
          refine st (v := .int .i64 ((i : Nat) : Int)) (x_move (.tmp rfl hρ46)) ?_
          obtain ⟨e50, b51, o52, cs53, hx54, hA55, hr56, hat57⟩ := h_bits.get (i := i) (by omega)
          obtain ⟨rfl, b58⟩ := hr56
          have hat57x : ∀ {w : World} {L : List Res}, St H w L → At w ⟨b51, o52 + i * 1, none⟩ [.int .u16 ((e50 : Nat) : Int)] := fun h => hat57 h
          refine st (v := .pointer (some ⟨b51, (o52 + i * 1), none⟩)) (ixo34 (.tmp rfl rfl) hA55 (i := ((i : Nat) : Int)) (.tmp rfl rfl) (by omega) (by omega) (by omega)) ?_
          refine st (v := .int .u16 ((e50 : Nat) : Int)) (ld29 (.tmp rfl rfl) ((hat57x hs47).cell 0 rfl)) ?_
          refine st (v := .int .i64 ((e50 : Nat) : Int)) (x_conv (k := .u16) (a := ((e50 : Nat) : Int)) Tryd.underlying29 Tryd.underlying3 (.tmp rfl rfl) (w64 (by omega) (by omega))) ?_
          refine st (v := .slice A_p n_p c_p) (x_move (.tmp rfl hρ41)) ?_
          refine st (v := .int .i64 ((n_p : Nat) : Int)) (x_len (n := n_p) Tryd.underlying22 (.tmp rfl rfl)) ?_
          refine st (v := .int .i64 (((8 * n_p) : Nat) : Int)) (x_mul (k := .i64) (a := 8) (b := ((n_p : Nat) : Int)) .const (.tmp rfl rfl) ((w64 (by omega) (by omega)).trans (by omega))) ?_
          have : e50 % (8 * n_p) < (8 * n_p) := Nat.mod_lt _ (by omega)
          refine st (v := .int .i64 (((e50 % (8 * n_p)) : Nat) : Int)) (x_remN (k := .i64) (m := e50) (n := (8 * n_p)) (.tmp rfl rfl) (.tmp rfl rfl) (by omega)) ?_
          refine st (v := .int .i64 (((e50 % (8 * n_p)) : Nat) : Int)) (x_assign (.tmp rfl rfl)) ?_
          refine c_nil ?_
          refine n_then ?_
          refine c_seq ?_
          refine c_region ?_
          refine st (v := .pointer (some ⟨g11, 0, none⟩)) (x_move (.tmp rfl hρ43)) ?_
          have hs59 : St H _ (netG 64 37 3 5 g11 s vbs cbs vts cts (row 5 1 v_want want.length (want.map encB) :: L)) := St.netUp [row 5 1 v_want want.length (want.map encB)] hs47
          refine st_c cb18 .func (evs1 (.tmp rfl rfl)) (len_spec hs59 oks ) ?_
          rintro e w60 ⟨rfl, hs61⟩
          refine ⟨_, rfl, ?_⟩
          have hs62 : St H _ (row 5 1 v_want want.length (want.map encB) :: netG 64 37 3 5 g11 s vbs cbs vts cts (L)) := St.netDown [row 5 1 v_want want.length (want.map encB)] hs61
          refine st (v := .int .i64 (((s.ps.length : Nat) : Int) - 1)) (x_sub (k := .i64) (a := ((s.ps.length : Nat) : Int)) (b := 1) (.tmp rfl rfl) .const (w64 (by omega) (by omega))) ?_
          refine st (v := .int .i64 (((s.ps.length : Nat) : Int) - 1)) (x_assign (.tmp rfl rfl)) ?_
          refine c_nil ?_
          refine n_then ?_
          refine c_seq ?_
          refine c_region ?_
          refine st (v := .pointer (some ⟨g11, 0, none⟩)) (x_move (.tmp rfl hρ43)) ?_
          refine st (v := .int .i64 (((s.ps.length : Nat) : Int) - 1)) (x_move (.tmp rfl rfl)) ?_
          refine st (v := .int .i64 (((e50 % (8 * n_p)) : Nat) : Int)) (x_move (.tmp rfl rfl)) ?_
          have hs63 : St H _ (netG 64 37 3 5 g11 s vbs cbs vts cts (row 5 1 v_want want.length (want.map encB) :: L)) := St.netUp [row 5 1 v_want want.length (want.map encB)] hs62
          refine st_c cb19 .func (evs3 (.tmp rfl rfl) (.tmp rfl rfl) (.tmp rfl rfl)) (Turn_spec hs63 oks (((s.ps.length : Nat) : Int) - 1) ⟨by omega, by omega⟩ (((e50 % (8 * n_p)) : Nat) : Int) ⟨by omega, by omega⟩ ) ?_
          rintro e w65 ⟨nt72, vb67, cb68, vt69, ct70, rfl, ok71, hnt73, hs66⟩
          refine ⟨_, rfl, ?_⟩
          have hs74 : St H _ (row 5 1 v_want want.length (want.map encB) :: netG 64 37 3 5 g11 nt72 vb67 cb68 vt69 ct70 (L)) := St.netDown [row 5 1 v_want want.length (want.map encB)] hs66
          refine st (v := .int .i64 (s.turnE (((s.ps.length : Nat) : Int) - 1) (((e50 % (8 * n_p)) : Nat) : Int))) (x_assign (.tmp rfl rfl)) ?_
          refine c_nil ?_
          refine n_then ?_
          refine c_seq ?_
          refine c_seq ?_
          refine c_region ?_
          have hi_ : ((s.ps.length : Nat) : Int) - 1 = (m : Int) := by have := hA.len; omega
          have hj_ : (e50 % (8 * n_p)) < 8 * want.length := by rw [hwl]; omega
          rcases Nat.lt_or_ge n 2 with hn | hn
          · have hT := hA.turn hi_ hj_ (by omega)
            have hA2 : TurnsAt nt72 (turnB want (((e50 % (8 * n_p)) : Nat) : Int)) ((n : Nat) + 1 : Int) m := by rw [hnt73]; exact hT.2
            refine st (v := .int .i64 0) (x_move (.tmp rfl (congrArg (Value.int .i64) hT.1))) ?_
            refine st (v := .bool true) (x_eql (k := .i64) (a := 0) (b := 0) (.tmp rfl rfl) .const) ?_
            refine st (v := .int .i64 ((n : Nat) : Int)) (x_move (.tmp rfl hρ45)) ?_
            refine st (v := .bool (decide ((((n : Nat) : Int) : Int) < 2))) (x_lss (k := .i64) (a := ((n : Nat) : Int)) (b := 2) (.tmp rfl rfl) .const) ?_
            refine st (v := .bool (true != (decide ((((n : Nat) : Int) : Int) < 2)))) (x_neqB Tryd.underlying4 (.tmp rfl rfl) (.tmp rfl rfl)) ?_
            refine st (v := .bool (true != (decide ((((n : Nat) : Int) : Int) < 2)))) (x_move (.tmp rfl rfl)) ?_
            have hc75 : (true != (decide ((((n : Nat) : Int) : Int) < 2))) = false := (by rw [decide_eq_true (show ((n : Nat) : Int) < 2 by omega)]; rfl)
            refine g_yes (yl (dj := 71) (b := false) rfl rfl (congrArg Value.bool hc75)) ?_
            refine st (v := .int .i64 0) (x_move (.tmp rfl (congrArg (Value.int .i64) hT.1))) ?_
            refine g_yes (yl (dj := 71) (b := false) rfl rfl (congrArg Value.bool hc75)) ?_
            refine st (v := .bool false) (x_neq (k := .i64) (a := 0) (b := 0) (.tmp rfl rfl) .const) ?_
            refine g_yes (yl (dj := 71) (b := false) rfl rfl (congrArg Value.bool hc75)) ?_
            refine st (v := .bool false) (x_move (.tmp rfl rfl)) ?_
            refine g_no (yl (dj := 74) (b := false) rfl rfl rfl) rfl ?_
            refine g_no (yl (dj := 74) (b := false) rfl rfl rfl) rfl ?_
            refine g_yes (yl (dj := 71) (b := false) rfl rfl (congrArg Value.bool hc75)) ?_
            refine st (v := .bool false) (x_pick_f (.tmp rfl rfl) .const) ?_
            refine st (v := .bool false) (x_pick_f (.tmp rfl (congrArg Value.bool hc75)) (.tmp rfl rfl)) ?_
            refine c_nil ?_
            refine n_then ?_
            refine c_cond_f (t := false) (.tmp rfl rfl) rfl ?_
            refine c_skip ?_
            refine n_then ?_
            refine c_seq ?_
            refine c_seq ?_
            refine c_region ?_
            refine st (v := .int .i64 0) (x_move (.tmp rfl (congrArg (Value.int .i64) hT.1))) ?_
            refine st (v := .bool true) (x_eql (k := .i64) (a := 0) (b := 0) (.tmp rfl rfl) .const) ?_
            refine c_nil ?_
            refine n_then ?_
            refine c_cond_t (t := true) (.tmp rfl rfl) rfl ?_
            refine c_seq ?_
            refine c_region ?_
            refine st (v := .int .i64 ((n : Nat) : Int)) (x_move (.tmp rfl hρ45)) ?_
            refine st (v := .int .i64 (((n + 1) : Nat) : Int)) (x_add (k := .i64) (a := ((n : Nat) : Int)) (b := 1) (.tmp rfl rfl) .const ((w64 (by omega) (by omega)).trans (by omega))) ?_
            refine st (v := .int .i64 (((n + 1) : Nat) : Int)) (x_assign (.tmp rfl rfl)) ?_
            refine c_nil ?_
            refine n_then ?_
            refine s_region (L := row 5 1 v_want want.length (want.map encB) :: netG 64 37 3 5 g11 nt72 vb67 cb68 vt69 ct70 (L)) (L' := row 5 1 v_want want.length (want.map encB) :: netG 64 37 3 5 g11 nt72 vb67 cb68 vt69 ct70 (L)) (some 13) [(0, true), (1, true), (2, true), (3, true), (4, true), (5, true), (6, true), (7, true), (8, true), (9, true), (10, true), (11, true), (12, true), (13, false)] mixed hs74 (fun u hu => hu) (by kernel_rfl) ?_
            intro w76 hs77
            refine s_st (k := 0) (v := v_want) rfl (fun w hs => (x_move (.tmp rfl hρ44))) ?_
            refine s_st (k := 1) (v := .int .i64 (((e50 % (8 * n_p)) : Nat) : Int)) rfl (fun w hs => (x_move (.tmp rfl rfl))) ?_
            refine s_st (k := 2) (v := .int .i64 ((((e50 % (8 * n_p)) / 8) : Nat) : Int)) rfl (fun w hs => (x_quoN (k := .i64) (m := (e50 % (8 * n_p))) (n := 8) (.tmp rfl rfl) .const (by omega) (.inl ⟨by omega, rfl, by omega⟩))) ?_
            refine s_st (k := 3) (v := v_want) rfl (fun w hs => (x_move (.tmp rfl hρ44))) ?_
            refine s_st (k := 4) (v := .int .i64 (((e50 % (8 * n_p)) : Nat) : Int)) rfl (fun w hs => (x_move (.tmp rfl rfl))) ?_
            refine s_st (k := 5) (v := .int .i64 ((((e50 % (8 * n_p)) / 8) : Nat) : Int)) rfl (fun w hs => (x_quoN (k := .i64) (m := (e50 % (8 * n_p))) (n := 8) (.tmp rfl rfl) .const (by omega) (.inl ⟨by omega, rfl, by omega⟩))) ?_
            obtain ⟨g78, c79, hv80⟩ := ok_want.pos (by omega)
            refine s_st (k := 6) (v := .pointer (some ⟨g78, (((e50 % (8 * n_p)) / 8)), none⟩)) rfl (fun w hs => (ixo22 (.tmp rfl hv80) rfl (i := ((((e50 % (8 * n_p)) / 8) : Nat) : Int)) (.tmp rfl rfl) (by omega) (by omega) (by omega))) ?_
            obtain ⟨z81, hz82⟩ : ∃ x, want[((e50 % (8 * n_p)) / 8)]? = some x := ⟨_, List.getElem?_eq_getElem (by omega)⟩
            refine s_st (k := 7) (v := .int .u8 ((z81 : Nat) : Int)) rfl (fun w hs => (ld5 (.tmp rfl rfl) (hs.rowEnc (enc := encB) 0 rfl hv80 ((e50 % (8 * n_p)) / 8) hz82))) ?_
            refine s_st (k := 8) (v := .int .i64 (((e50 % (8 * n_p)) : Nat) : Int)) rfl (fun w hs => (x_move (.tmp rfl rfl))) ?_
            refine s_st (k := 9) (v := .int .i64 ((((e50 % (8 * n_p)) % 8) : Nat) : Int)) rfl (fun w hs => (x_remN (k := .i64) (m := (e50 % (8 * n_p))) (n := 8) (.tmp rfl rfl) .const (by omega))) ?_
            have hb83 : (1 * 2 ^ ((e50 % (8 * n_p)) % 8) % 256) < 256 := Nat.mod_lt _ (by decide)
            refine s_st (k := 10) (v := .int .u8 (((1 * 2 ^ ((e50 % (8 * n_p)) % 8) % 256) : Nat) : Int)) rfl (fun w hs => (x_shl (k := .u8) (m := 1) (b := ((((e50 % (8 * n_p)) % 8) : Nat) : Int)) rfl .const (.tmp rfl rfl) (by omega))) ?_
            have hb84 : (z81 ^^^ (1 * 2 ^ ((e50 % (8 * n_p)) % 8) % 256)) < 256 := Nat.xor_lt_two_pow (n := 8) (sm_want _ (List.mem_of_getElem? hz82)) hb83
            refine s_st (k := 11) (v := .int .u8 (((z81 ^^^ (1 * 2 ^ ((e50 % (8 * n_p)) % 8) % 256)) : Nat) : Int)) rfl (fun w hs => (x_xor (k := .u8) (m := z81) (n := (1 * 2 ^ ((e50 % (8 * n_p)) % 8) % 256)) rfl (.tmp rfl rfl) (.tmp rfl rfl) (show _ < 2 ^ 8 from (sm_want _ (List.mem_of_getElem? hz82))) (show _ < 2 ^ 8 from hb83))) ?_
            obtain ⟨g85, c86, hv87⟩ := ok_want.pos (by omega)
            refine s_st (k := 12) (v := .pointer (some ⟨g85, (((e50 % (8 * n_p)) / 8)), none⟩)) rfl (fun w hs => (ixo22 (.tmp rfl hv87) rfl (i := ((((e50 % (8 * n_p)) / 8) : Nat) : Int)) (.tmp rfl rfl) (by omega) (by omega) (by omega))) ?_
            refine s_eff (k := 13) rfl ?_
            refine st_m0 (stor5 hs77 hv87 (i := ((e50 % (8 * n_p)) / 8)) (.tmp rfl rfl) (.tmp rfl rfl) rfl (by simp; omega) one1 (splice_set (by omega))) ?_
            rintro w88 hs89
            have ok90 := ok_want.setB (i := ((e50 % (8 * n_p)) / 8)) (a := (z81 ^^^ (1 * 2 ^ ((e50 % (8 * n_p)) % 8) % 256)))
            refine s_end ?_
            refine n_then ?_
            refine c_seq ?_
            refine c_region ?_
            have hA3 : TurnsAt nt72 (want.set ((e50 % (8 * n_p)) / 8) (z81 ^^^ (1 * 2 ^ ((e50 % (8 * n_p)) % 8) % 256))) ((n + 1 : Nat) : Int) m := by have h9 : turnB want (((e50 % (8 * n_p)) : Nat) : Int) = (want.set ((e50 % (8 * n_p)) / 8) (z81 ^^^ (1 * 2 ^ ((e50 % (8 * n_p)) % 8) % 256))) := (by unfold turnB; rw [Int.toNat_natCast, List.getD_eq_getElem?_getD, hz82]; rfl); rw [← h9]; exact hA2
            skip
            refine st (v := .slice A_bits n_bits c_bits) (x_move (.tmp rfl hρ42)) ?_
            refine st (v := .int .i64 ((i : Nat) : Int)) (x_move (.tmp rfl hρ46)) ?_
            refine st (v := .pointer (some ⟨b51, (o52 + i * 1), none⟩)) (ixo34 (.tmp rfl rfl) hA55 (i := ((i : Nat) : Int)) (.tmp rfl rfl) (by omega) (by omega) (by omega)) ?_
            refine st (v := .int .u16 ((e50 : Nat) : Int)) (ld29 (.tmp rfl rfl) ((hat57x hs89).cell 0 rfl)) ?_
            refine st (v := .bool (decide ((32768 : Int) ≤ ((e50 : Nat) : Int)))) (x_geq (k := .u16) (a := ((e50 : Nat) : Int)) (b := 32768) (.tmp rfl rfl) .const) ?_
            refine st (v := .bool (decide ((32768 : Int) ≤ ((e50 : Nat) : Int)))) (x_move (.tmp rfl rfl)) ?_
            rcases Bool.eq_false_or_eq_true (decide ((32768 : Int) ≤ ((e50 : Nat) : Int))) with hc91 | hc91
            · have hp91 : (32768 : Int) ≤ ((e50 : Nat) : Int) := of_decide_eq_true hc91
              refine g_yes (yl (dj := 101) (b := true) rfl rfl (congrArg Value.bool hc91)) ?_
              refine st (v := .pointer (some ⟨g11, 0, none⟩)) (x_move (.tmp rfl hρ43)) ?_
              refine g_yes (yl (dj := 101) (b := true) rfl rfl (congrArg Value.bool hc91)) ?_
              refine st (v := .int .i64 (((s.ps.length : Nat) : Int) - 1)) (x_move (.tmp rfl rfl)) ?_
              refine g_yes (yl (dj := 101) (b := true) rfl rfl (congrArg Value.bool hc91)) ?_
              skip
              have hs92 : St H _ (netG 64 37 3 5 g11 nt72 vb67 cb68 vt69 ct70 (row 5 1 v_want want.length ((want.set ((e50 % (8 * n_p)) / 8) (z81 ^^^ (1 * 2 ^ ((e50 % (8 * n_p)) % 8) % 256))).map encB) :: L)) := St.netUp [row 5 1 v_want want.length ((want.set ((e50 % (8 * n_p)) / 8) (z81 ^^^ (1 * 2 ^ ((e50 % (8 * n_p)) % 8) % 256))).map encB)] hs89
              refine st_c cb20 .func (evs2 (.tmp rfl rfl) (.tmp rfl rfl)) (Double_spec hs92 ok71 (((s.ps.length : Nat) : Int) - 1) ⟨by omega, by omega⟩ (by have h8 := hA3.lost; omega)) ?_
              rintro e w93 ⟨nt100, vb95, cb96, vt97, ct98, v_102, rfl, ok99, hnt101, hs94⟩
              refine ⟨_, rfl, ?_⟩
              have hs103 : St H _ (row 5 1 v_want want.length ((want.set ((e50 % (8 * n_p)) / 8) (z81 ^^^ (1 * 2 ^ ((e50 % (8 * n_p)) % 8) % 256))).map encB) :: netG 64 37 3 5 g11 nt100 vb95 cb96 vt97 ct98 (L)) := St.netDown [row 5 1 v_want want.length ((want.set ((e50 % (8 * n_p)) / 8) (z81 ^^^ (1 * 2 ^ ((e50 % (8 * n_p)) % 8) % 256))).map encB)] hs94
              refine g_yes (yl (dj := 101) (b := true) rfl rfl (congrArg Value.bool hc91)) ?_
              have hD := hA3.double (i := ((s.ps.length : Nat) : Int) - 1) hi_ (by omega)
              have hA4 : TurnsAt nt100 (want.set ((e50 % (8 * n_p)) / 8) (z81 ^^^ (1 * 2 ^ ((e50 % (8 * n_p)) % 8) % 256))) ((n + 1 : Nat) : Int) (m + 1) := by rw [hnt101]; exact hD.2 _
              refine st (v := .bool (decide (((nt72.doubleE (((s.ps.length : Nat) : Int) - 1)) : Int) ≠ 0))) (x_neq (k := .i64) (a := (nt72.doubleE (((s.ps.length : Nat) : Int) - 1))) (b := 0) (.tmp rfl rfl) .const) ?_
              refine st (v := .bool (decide (((nt72.doubleE (((s.ps.length : Nat) : Int) - 1)) : Int) ≠ 0))) (x_pick_t (.tmp rfl (congrArg Value.bool hc91)) (.tmp rfl rfl)) ?_
              refine c_nil ?_
              refine n_then ?_
              have hc104 : (decide (((nt72.doubleE (((s.ps.length : Nat) : Int) - 1)) : Int) ≠ 0)) = false := (decide_eq_false (fun h => h hD.1))
              refine c_cond_f (t := false) (.tmp rfl (congrArg Value.bool hc104)) rfl ?_
              refine c_skip ?_
              refine n_block ?_
              refine n_then ?_
              refine c_region ?_
              refine st (v := .int .i64 ((i : Nat) : Int)) (x_move (.tmp rfl hρ46)) ?_
              refine st (v := .int .i64 (((i + 1) : Nat) : Int)) (x_add (k := .i64) (a := ((i : Nat) : Int)) (b := 1) (.tmp rfl rfl) .const ((w64 (by omega) (by omega)).trans (by omega))) ?_
              refine st (v := .int .i64 (((i + 1) : Nat) : Int)) (x_assign (.tmp rfl rfl)) ?_
              refine c_nil ?_
              refine n_then ⟨_, _, rfl, ?_, (want.set ((e50 % (8 * n_p)) / 8) (z81 ^^^ (1 * 2 ^ ((e50 % (8 * n_p)) % 8) % 256))), v_want, (n + 1), (i + 1), nt100, vb95, cb96, vt97, ct98, m + 1, hρ41, hρ42, hρ43, hρ44, rfl, rfl, ((sm_want.set _ hb84)), (by simpa using ok90), ok99, hA4, (by omega), (by omega), (by omega), (by first | exact hwl | (rw [List.length_set]; exact hwl)), (by simpa using hs103), rfl⟩
              omega
            · have hp91 : ¬ ((32768 : Int) ≤ ((e50 : Nat) : Int)) := of_decide_eq_false hc91
              refine g_no (yl (dj := 101) (b := false) rfl rfl (congrArg Value.bool hc91)) rfl ?_
              refine g_no (yl (dj := 101) (b := false) rfl rfl (congrArg Value.bool hc91)) rfl ?_
              refine g_no (yl (dj := 101) (b := false) rfl rfl (congrArg Value.bool hc91)) rfl ?_
              refine g_no (yl (dj := 101) (b := false) rfl rfl (congrArg Value.bool hc91)) rfl ?_
              refine st (v := .bool false) (x_pick_f (.tmp rfl (congrArg Value.bool hc91)) .const) ?_
              refine c_nil ?_
              refine n_then ?_
              refine c_cond_f (t := false) (.tmp rfl rfl) rfl ?_
              refine c_skip ?_
              refine n_block ?_
              refine n_then ?_
              refine c_region ?_
              refine st (v := .int .i64 ((i : Nat) : Int)) (x_move (.tmp rfl hρ46)) ?_
              refine st (v := .int .i64 (((i + 1) : Nat) : Int)) (x_add (k := .i64) (a := ((i : Nat) : Int)) (b := 1) (.tmp rfl rfl) .const ((w64 (by omega) (by omega)).trans (by omega))) ?_
              refine st (v := .int .i64 (((i + 1) : Nat) : Int)) (x_assign (.tmp rfl rfl)) ?_
              refine c_nil ?_
              refine n_then ⟨_, _, rfl, ?_, (want.set ((e50 % (8 * n_p)) / 8) (z81 ^^^ (1 * 2 ^ ((e50 % (8 * n_p)) % 8) % 256))), v_want, (n + 1), (i + 1), nt72, vb67, cb68, vt69, ct70, m, hρ41, hρ42, hρ43, hρ44, rfl, rfl, ((sm_want.set _ hb84)), (by simpa using ok90), ok71, hA3, (by omega), (by omega), (by omega), (by first | exact hwl | (rw [List.length_set]; exact hwl)), (by simpa using hs89), rfl⟩
              omega
          · have hT := hA.full hi_ hj_ (by omega)
            have hA2 : TurnsAt nt72 want ((n : Nat) : Int) m := by rw [hnt73]; exact hT.2
            refine st (v := .int .i64 8) (x_move (.tmp rfl (congrArg (Value.int .i64) hT.1))) ?_
            refine st (v := .bool false) (x_eql (k := .i64) (a := 8) (b := 0) (.tmp rfl rfl) .const) ?_
            refine st (v := .int .i64 ((n : Nat) : Int)) (x_move (.tmp rfl hρ45)) ?_
            refine st (v := .bool (decide ((((n : Nat) : Int) : Int) < 2))) (x_lss (k := .i64) (a := ((n : Nat) : Int)) (b := 2) (.tmp rfl rfl) .const) ?_
            refine st (v := .bool (false != (decide ((((n : Nat) : Int) : Int) < 2)))) (x_neqB Tryd.underlying4 (.tmp rfl rfl) (.tmp rfl rfl)) ?_
            refine st (v := .bool (false != (decide ((((n : Nat) : Int) : Int) < 2)))) (x_move (.tmp rfl rfl)) ?_
            have hc105 : (false != (decide ((((n : Nat) : Int) : Int) < 2))) = false := (by rw [decide_eq_false (show ¬ ((n : Nat) : Int) < 2 by omega)]; rfl)
            refine g_yes (yl (dj := 71) (b := false) rfl rfl (congrArg Value.bool hc105)) ?_
            refine st (v := .int .i64 8) (x_move (.tmp rfl (congrArg (Value.int .i64) hT.1))) ?_
            refine g_yes (yl (dj := 71) (b := false) rfl rfl (congrArg Value.bool hc105)) ?_
            refine st (v := .bool true) (x_neq (k := .i64) (a := 8) (b := 0) (.tmp rfl rfl) .const) ?_
            refine g_yes (yl (dj := 71) (b := false) rfl rfl (congrArg Value.bool hc105)) ?_
            refine st (v := .bool true) (x_move (.tmp rfl rfl)) ?_
            refine g_yes (yl (dj := 74) (b := true) rfl rfl rfl) ?_
            refine st (v := .int .i64 8) (x_move (.tmp rfl (congrArg (Value.int .i64) hT.1))) ?_
            refine g_yes (yl (dj := 74) (b := true) rfl rfl rfl) ?_
            refine st (v := .bool false) (x_neq (k := .i64) (a := 8) (b := 8) (.tmp rfl rfl) .const) ?_
            refine g_yes (yl (dj := 71) (b := false) rfl rfl (congrArg Value.bool hc105)) ?_
            refine st (v := .bool false) (x_pick_t (.tmp rfl rfl) (.tmp rfl rfl)) ?_
            refine st (v := .bool false) (x_pick_f (.tmp rfl (congrArg Value.bool hc105)) (.tmp rfl rfl)) ?_
            refine c_nil ?_
            refine n_then ?_
            refine c_cond_f (t := false) (.tmp rfl rfl) rfl ?_
            refine c_skip ?_
            refine n_then ?_
            refine c_seq ?_
            refine c_seq ?_
            refine c_region ?_
            refine st (v := .int .i64 8) (x_move (.tmp rfl (congrArg (Value.int .i64) hT.1))) ?_
            refine st (v := .bool false) (x_eql (k := .i64) (a := 8) (b := 0) (.tmp rfl rfl) .const) ?_
            refine c_nil ?_
            refine n_then ?_
            refine c_cond_f (t := false) (.tmp rfl rfl) rfl ?_
            refine c_skip ?_
            refine n_then ?_
            refine c_seq ?_
            refine c_region ?_
            skip
            refine st (v := .slice A_bits n_bits c_bits) (x_move (.tmp rfl hρ42)) ?_
            refine st (v := .int .i64 ((i : Nat) : Int)) (x_move (.tmp rfl hρ46)) ?_
            refine st (v := .pointer (some ⟨b51, (o52 + i * 1), none⟩)) (ixo34 (.tmp rfl rfl) hA55 (i := ((i : Nat) : Int)) (.tmp rfl rfl) (by omega) (by omega) (by omega)) ?_
            refine st (v := .int .u16 ((e50 : Nat) : Int)) (ld29 (.tmp rfl rfl) ((hat57x hs74).cell 0 rfl)) ?_
            refine st (v := .bool (decide ((32768 : Int) ≤ ((e50 : Nat) : Int)))) (x_geq (k := .u16) (a := ((e50 : Nat) : Int)) (b := 32768) (.tmp rfl rfl) .const) ?_
            refine st (v := .bool (decide ((32768 : Int) ≤ ((e50 : Nat) : Int)))) (x_move (.tmp rfl rfl)) ?_
            rcases Bool.eq_false_or_eq_true (decide ((32768 : Int) ≤ ((e50 : Nat) : Int))) with hc106 | hc106
            · have hp106 : (32768 : Int) ≤ ((e50 : Nat) : Int) := of_decide_eq_true hc106
              refine g_yes (yl (dj := 101) (b := true) rfl rfl (congrArg Value.bool hc106)) ?_
              refine st (v := .pointer (some ⟨g11, 0, none⟩)) (x_move (.tmp rfl hρ43)) ?_
              refine g_yes (yl (dj := 101) (b := true) rfl rfl (congrArg Value.bool hc106)) ?_
              refine st (v := .int .i64 (((s.ps.length : Nat) : Int) - 1)) (x_move (.tmp rfl rfl)) ?_
              refine g_yes (yl (dj := 101) (b := true) rfl rfl (congrArg Value.bool hc106)) ?_
              skip
              have hs107 : St H _ (netG 64 37 3 5 g11 nt72 vb67 cb68 vt69 ct70 (row 5 1 v_want want.length (want.map encB) :: L)) := St.netUp [row 5 1 v_want want.length (want.map encB)] hs74
              refine st_c cb20 .func (evs2 (.tmp rfl rfl) (.tmp rfl rfl)) (Double_spec hs107 ok71 (((s.ps.length : Nat) : Int) - 1) ⟨by omega, by omega⟩ (by have h8 := hA2.lost; omega)) ?_
              rintro e w108 ⟨nt115, vb110, cb111, vt112, ct113, v_117, rfl, ok114, hnt116, hs109⟩
              refine ⟨_, rfl, ?_⟩
              have hs118 : St H _ (row 5 1 v_want want.length (want.map encB) :: netG 64 37 3 5 g11 nt115 vb110 cb111 vt112 ct113 (L)) := St.netDown [row 5 1 v_want want.length (want.map encB)] hs109
              refine g_yes (yl (dj := 101) (b := true) rfl rfl (congrArg Value.bool hc106)) ?_
              have hD := hA2.double (i := ((s.ps.length : Nat) : Int) - 1) hi_ (by omega)
              have hA4 : TurnsAt nt115 want ((n : Nat) : Int) (m + 1) := by rw [hnt116]; exact hD.2 _
              refine st (v := .bool (decide (((nt72.doubleE (((s.ps.length : Nat) : Int) - 1)) : Int) ≠ 0))) (x_neq (k := .i64) (a := (nt72.doubleE (((s.ps.length : Nat) : Int) - 1))) (b := 0) (.tmp rfl rfl) .const) ?_
              refine st (v := .bool (decide (((nt72.doubleE (((s.ps.length : Nat) : Int) - 1)) : Int) ≠ 0))) (x_pick_t (.tmp rfl (congrArg Value.bool hc106)) (.tmp rfl rfl)) ?_
              refine c_nil ?_
              refine n_then ?_
              have hc119 : (decide (((nt72.doubleE (((s.ps.length : Nat) : Int) - 1)) : Int) ≠ 0)) = false := (decide_eq_false (fun h => h hD.1))
              refine c_cond_f (t := false) (.tmp rfl (congrArg Value.bool hc119)) rfl ?_
              refine c_skip ?_
              refine n_block ?_
              refine n_then ?_
              refine c_region ?_
              refine st (v := .int .i64 ((i : Nat) : Int)) (x_move (.tmp rfl hρ46)) ?_
              refine st (v := .int .i64 (((i + 1) : Nat) : Int)) (x_add (k := .i64) (a := ((i : Nat) : Int)) (b := 1) (.tmp rfl rfl) .const ((w64 (by omega) (by omega)).trans (by omega))) ?_
              refine st (v := .int .i64 (((i + 1) : Nat) : Int)) (x_assign (.tmp rfl rfl)) ?_
              refine c_nil ?_
              refine n_then ⟨_, _, rfl, ?_, want, v_want, n, (i + 1), nt115, vb110, cb111, vt112, ct113, m + 1, hρ41, hρ42, hρ43, hρ44, hρ45, rfl, (sm_want), (by simpa using ok_want), ok114, hA4, (by omega), (by omega), (by omega), (by first | exact hwl | (rw [List.length_set]; exact hwl)), (by simpa using hs118), rfl⟩
              omega
            · have hp106 : ¬ ((32768 : Int) ≤ ((e50 : Nat) : Int)) := of_decide_eq_false hc106
              refine g_no (yl (dj := 101) (b := false) rfl rfl (congrArg Value.bool hc106)) rfl ?_
              refine g_no (yl (dj := 101) (b := false) rfl rfl (congrArg Value.bool hc106)) rfl ?_
              refine g_no (yl (dj := 101) (b := false) rfl rfl (congrArg Value.bool hc106)) rfl ?_
              refine g_no (yl (dj := 101) (b := false) rfl rfl (congrArg Value.bool hc106)) rfl ?_
              refine st (v := .bool false) (x_pick_f (.tmp rfl (congrArg Value.bool hc106)) .const) ?_
              refine c_nil ?_
              refine n_then ?_
              refine c_cond_f (t := false) (.tmp rfl rfl) rfl ?_
              refine c_skip ?_
              refine n_block ?_
              refine n_then ?_
              refine c_region ?_
              refine st (v := .int .i64 ((i : Nat) : Int)) (x_move (.tmp rfl hρ46)) ?_
              refine st (v := .int .i64 (((i + 1) : Nat) : Int)) (x_add (k := .i64) (a := ((i : Nat) : Int)) (b := 1) (.tmp rfl rfl) .const ((w64 (by omega) (by omega)).trans (by omega))) ?_
              refine st (v := .int .i64 (((i + 1) : Nat) : Int)) (x_assign (.tmp rfl rfl)) ?_
              refine c_nil ?_
              refine n_then ⟨_, _, rfl, ?_, want, v_want, n, (i + 1), nt72, vb67, cb68, vt69, ct70, m, hρ41, hρ42, hρ43, hρ44, hρ45, rfl, (sm_want), (by simpa using ok_want), ok71, hA2, (by omega), (by omega), (by omega), (by first | exact hwl | (rw [List.length_set]; exact hwl)), (by simpa using hs74), rfl⟩
              omega
        · have hp49 : ¬ ((((i : Nat) : Int) : Int) < 12) := of_decide_eq_false hc49
          refine c_cond_f (t := false) (.tmp rfl (congrArg Value.bool hc49)) rfl ?_
          refine c_exit ?_
          refine x_then ?_
          refine x_then ?_
          refine x_here ?_
          refine n_then ?_
          refine c_seq ?_
          refine c_region ?_
          have hmx := oks.max
          have hlen8 := hA.len
          refine st (v := .pointer (some ⟨g11, 0, none⟩)) (x_move (.tmp rfl hρ43)) ?_
          refine st (v := .pointer (some ⟨g11, 0, none⟩)) (x_move (.tmp rfl hρ43)) ?_
          have hs120 : St H _ (netG 64 37 3 5 g11 s vbs cbs vts cts (row 5 1 v_want want.length (want.map encB) :: L)) := St.netUp [row 5 1 v_want want.length (want.map encB)] hs47
          refine st_c cb18 .func (evs1 (.tmp rfl rfl)) (len_spec hs120 oks ) ?_
          rintro e w121 ⟨rfl, hs122⟩
          refine ⟨_, rfl, ?_⟩
          have hs123 : St H _ (row 5 1 v_want want.length (want.map encB) :: netG 64 37 3 5 g11 s vbs cbs vts cts (L)) := St.netDown [row 5 1 v_want want.length (want.map encB)] hs122
          refine st (v := .int .i64 (((s.ps.length : Nat) : Int) - 1)) (x_sub (k := .i64) (a := ((s.ps.length : Nat) : Int)) (b := 1) (.tmp rfl rfl) .const (w64 (by omega) (by omega))) ?_
          have hs124 : St H _ (netG 64 37 3 5 g11 s vbs cbs vts cts (row 5 1 v_want want.length (want.map encB) :: L)) := St.netUp [row 5 1 v_want want.length (want.map encB)] hs123
          refine st_c cb21 .func (evs2 (.tmp rfl rfl) (.tmp rfl rfl)) (Peek_spec hs124 oks (((s.ps.length : Nat) : Int) - 1) ⟨by omega, by omega⟩ ) ?_
          rintro e w125 ⟨v127, rfl, ⟨b132, b133⟩, ⟨b134, b135⟩, sm128, ok129, lb130, hs126⟩
          refine ⟨_, rfl, ?_⟩
          have hs136 := St.netUp [row 5 1 v127 ((s.peekP (((s.ps.length : Nat) : Int) - 1)).Bytes.length) (((s.peekP (((s.ps.length : Nat) : Int) - 1)).Bytes).map encB)] hs126
          have hs137 : St H _ (row 5 1 v127 ((s.peekP (((s.ps.length : Nat) : Int) - 1)).Bytes.length) (((s.peekP (((s.ps.length : Nat) : Int) - 1)).Bytes).map encB) :: row 5 1 v_want want.length (want.map encB) :: netG 64 37 3 5 g11 s vbs cbs vts cts (L)) := St.netDown [row 5 1 v127 ((s.peekP (((s.ps.length : Nat) : Int) - 1)).Bytes.length) (((s.peekP (((s.ps.length : Nat) : Int) - 1)).Bytes).map encB), row 5 1 v_want want.length (want.map encB)] hs136
          refine st (v := .tuple #[.agg #[.int .i64 ((s.peekP (((s.ps.length : Nat) : Int) - 1)).From), .int .i64 ((s.peekP (((s.ps.length : Nat) : Int) - 1)).To), v127], .int .i64 (s.lookE (((s.ps.length : Nat) : Int) - 1))]) (x_move (.tmp rfl rfl)) ?_
          refine st (v := .agg #[.int .i64 ((s.peekP (((s.ps.length : Nat) : Int) - 1)).From), .int .i64 ((s.peekP (((s.ps.length : Nat) : Int) - 1)).To), v127]) (x_extract (.tmp rfl rfl) (i := 0) rfl) ?_
          refine st (v := .int .i64 (s.lookE (((s.ps.length : Nat) : Int) - 1))) (x_extract (.tmp rfl rfl) (i := 1) rfl) ?_
          refine st_m (al37 (cs := [.int .i64 0, .int .i64 0, .slice none 0 0]) hs137 rfl) ?_
          rintro _ w139 ⟨g138, rfl, hs141⟩
          refine st_m0 (sto37 (cs' := [.int .i64 ((s.peekP (((s.ps.length : Nat) : Int) - 1)).From), .int .i64 ((s.peekP (((s.ps.length : Nat) : Int) - 1)).To), v127]) (i := 0) hs141 (v := .agg #[.int .i64 ((s.peekP (((s.ps.length : Nat) : Int) - 1)).From), .int .i64 ((s.peekP (((s.ps.length : Nat) : Int) - 1)).To), v127]) (.tmp rfl rfl) (.tmp rfl rfl) rfl (Nat.le_of_ble_eq_true rfl) (oneA (allC rfl (allC rfl (allC (RowOk.oneC ok129) rfl)))) rfl) ?_
          rintro w142 hs144
          refine st (v := .int .i64 (s.lookE (((s.ps.length : Nat) : Int) - 1))) (x_assign (.tmp rfl rfl)) ?_
          refine c_nil ?_
          refine n_then ?_
          refine c_seq ?_
          refine c_region ?_
          refine st (v := .int .i64 (s.lookE (((s.ps.length : Nat) : Int) - 1))) (x_move (.tmp rfl rfl)) ?_
          refine st (v := .bool (decide (((s.lookE (((s.ps.length : Nat) : Int) - 1)) : Int) = 0))) (x_eql (k := .i64) (a := (s.lookE (((s.ps.length : Nat) : Int) - 1))) (b := 0) (.tmp rfl rfl) .const) ?_
          refine st (v := .bool (decide (((s.lookE (((s.ps.length : Nat) : Int) - 1)) : Int) = 0))) (x_move (.tmp rfl rfl)) ?_
          have hc145 : (decide (((s.lookE (((s.ps.length : Nat) : Int) - 1)) : Int) = 0)) = true := (decide_eq_true (hA.look (by have := hA.len; omega)))
          refine g_yes (yl (dj := 117) (b := true) rfl rfl (congrArg Value.bool hc145)) ?_
          refine st (v := .pointer (some ⟨g138, 0 + 2, none⟩)) (fa37_2 (.tmp rfl rfl)) ?_
          refine g_yes (yl (dj := 117) (b := true) rfl rfl (congrArg Value.bool hc145)) ?_
          refine st (v := v127) (ld22 (.tmp rfl rfl) (hs144.cell 0 rfl (0 + 2) rfl)) ?_
          refine g_yes (yl (dj := 117) (b := true) rfl rfl (congrArg Value.bool hc145)) ?_
          refine st (v := .string (bstr ((s.peekP (((s.ps.length : Nat) : Int) - 1)).Bytes))) (hs144.rowStr Tryd.underlying22 Tryd.underlying5 Tryd.underlying9 1 rfl ok129 (.tmp rfl rfl)) ?_
          refine g_yes (yl (dj := 117) (b := true) rfl rfl (congrArg Value.bool hc145)) ?_
          refine st (v := v_want) (x_move (.tmp rfl hρ44)) ?_
          refine g_yes (yl (dj := 117) (b := true) rfl rfl (congrArg Value.bool hc145)) ?_
          refine st (v := .string (bstr want)) (hs144.rowStr Tryd.underlying22 Tryd.underlying5 Tryd.underlying9 2 rfl ok_want (.tmp rfl rfl)) ?_
          refine g_yes (yl (dj := 117) (b := true) rfl rfl (congrArg Value.bool hc145)) ?_
          refine st (v := .bool (decide ((bstr ((s.peekP (((s.ps.length : Nat) : Int) - 1)).Bytes)) = (bstr want)))) (x_eqlS (.tmp rfl rfl) (.tmp rfl rfl)) ?_
          refine st (v := .bool (decide ((bstr ((s.peekP (((s.ps.length : Nat) : Int) - 1)).Bytes)) = (bstr want)))) (x_pick_t (.tmp rfl (congrArg Value.bool hc145)) (.tmp rfl rfl)) ?_
          refine st (v := .bool (decide ((bstr ((s.peekP (((s.ps.length : Nat) : Int) - 1)).Bytes)) = (bstr want)))) (x_move (.tmp rfl rfl)) ?_
          have hc146 : (decide ((bstr ((s.peekP (((s.ps.length : Nat) : Int) - 1)).Bytes)) = (bstr want))) = true := (decide_eq_true (by rw [hA.peek (by have := hA.len; omega)]))
          refine st (v := .bool true) (x_pick_t (.tmp rfl (congrArg Value.bool hc146)) .const) ?_
          refine st (v := .bool true) (x_assign (.tmp rfl rfl)) ?_
          refine c_nil ?_
          refine n_then ?_
          refine c_ret ?_
          refine leave_ret (res_one (v := .bool true) rfl (.mk rfl rfl)) ?_
          exact ⟨rfl, hs144.drop.drop.drop.netDrop⟩
      · have hp48 : ¬ ((((i : Nat) : Int) : Int) < ((n_bits : Nat) : Int)) := of_decide_eq_false hc48
        refine g_no (yl (dj := 44) (b := false) rfl rfl (congrArg Value.bool hc48)) rfl ?_
        refine g_no (yl (dj := 44) (b := false) rfl rfl (congrArg Value.bool hc48)) rfl ?_
        refine st (v := .bool false) (x_pick_f (.tmp rfl (congrArg Value.bool hc48)) .const) ?_
        refine c_nil ?_
        refine n_then ?_
        refine c_cond_f (t := false) (.tmp rfl rfl) rfl ?_
        refine c_exit ?_
        refine x_then ?_
        refine x_then ?_
        refine x_here ?_
        refine n_then ?_
        refine c_seq ?_
        refine c_region ?_
        have hmx := oks.max
        have hlen8 := hA.len
        refine st (v := .pointer (some ⟨g11, 0, none⟩)) (x_move (.tmp rfl hρ43)) ?_
        refine st (v := .pointer (some ⟨g11, 0, none⟩)) (x_move (.tmp rfl hρ43)) ?_
        have hs147 : St H _ (netG 64 37 3 5 g11 s vbs cbs vts cts (row 5 1 v_want want.length (want.map encB) :: L)) := St.netUp [row 5 1 v_want want.length (want.map encB)] hs47
        refine st_c cb18 .func (evs1 (.tmp rfl rfl)) (len_spec hs147 oks ) ?_
        rintro e w148 ⟨rfl, hs149⟩
        refine ⟨_, rfl, ?_⟩
        have hs150 : St H _ (row 5 1 v_want want.length (want.map encB) :: netG 64 37 3 5 g11 s vbs cbs vts cts (L)) := St.netDown [row 5 1 v_want want.length (want.map encB)] hs149
        refine st (v := .int .i64 (((s.ps.length : Nat) : Int) - 1)) (x_sub (k := .i64) (a := ((s.ps.length : Nat) : Int)) (b := 1) (.tmp rfl rfl) .const (w64 (by omega) (by omega))) ?_
        have hs151 : St H _ (netG 64 37 3 5 g11 s vbs cbs vts cts (row 5 1 v_want want.length (want.map encB) :: L)) := St.netUp [row 5 1 v_want want.length (want.map encB)] hs150
        refine st_c cb21 .func (evs2 (.tmp rfl rfl) (.tmp rfl rfl)) (Peek_spec hs151 oks (((s.ps.length : Nat) : Int) - 1) ⟨by omega, by omega⟩ ) ?_
        rintro e w152 ⟨v154, rfl, ⟨b159, b160⟩, ⟨b161, b162⟩, sm155, ok156, lb157, hs153⟩
        refine ⟨_, rfl, ?_⟩
        have hs163 := St.netUp [row 5 1 v154 ((s.peekP (((s.ps.length : Nat) : Int) - 1)).Bytes.length) (((s.peekP (((s.ps.length : Nat) : Int) - 1)).Bytes).map encB)] hs153
        have hs164 : St H _ (row 5 1 v154 ((s.peekP (((s.ps.length : Nat) : Int) - 1)).Bytes.length) (((s.peekP (((s.ps.length : Nat) : Int) - 1)).Bytes).map encB) :: row 5 1 v_want want.length (want.map encB) :: netG 64 37 3 5 g11 s vbs cbs vts cts (L)) := St.netDown [row 5 1 v154 ((s.peekP (((s.ps.length : Nat) : Int) - 1)).Bytes.length) (((s.peekP (((s.ps.length : Nat) : Int) - 1)).Bytes).map encB), row 5 1 v_want want.length (want.map encB)] hs163
        refine st (v := .tuple #[.agg #[.int .i64 ((s.peekP (((s.ps.length : Nat) : Int) - 1)).From), .int .i64 ((s.peekP (((s.ps.length : Nat) : Int) - 1)).To), v154], .int .i64 (s.lookE (((s.ps.length : Nat) : Int) - 1))]) (x_move (.tmp rfl rfl)) ?_
        refine st (v := .agg #[.int .i64 ((s.peekP (((s.ps.length : Nat) : Int) - 1)).From), .int .i64 ((s.peekP (((s.ps.length : Nat) : Int) - 1)).To), v154]) (x_extract (.tmp rfl rfl) (i := 0) rfl) ?_
        refine st (v := .int .i64 (s.lookE (((s.ps.length : Nat) : Int) - 1))) (x_extract (.tmp rfl rfl) (i := 1) rfl) ?_
        refine st_m (al37 (cs := [.int .i64 0, .int .i64 0, .slice none 0 0]) hs164 rfl) ?_
        rintro _ w166 ⟨g165, rfl, hs168⟩
        refine st_m0 (sto37 (cs' := [.int .i64 ((s.peekP (((s.ps.length : Nat) : Int) - 1)).From), .int .i64 ((s.peekP (((s.ps.length : Nat) : Int) - 1)).To), v154]) (i := 0) hs168 (v := .agg #[.int .i64 ((s.peekP (((s.ps.length : Nat) : Int) - 1)).From), .int .i64 ((s.peekP (((s.ps.length : Nat) : Int) - 1)).To), v154]) (.tmp rfl rfl) (.tmp rfl rfl) rfl (Nat.le_of_ble_eq_true rfl) (oneA (allC rfl (allC rfl (allC (RowOk.oneC ok156) rfl)))) rfl) ?_
        rintro w169 hs171
        refine st (v := .int .i64 (s.lookE (((s.ps.length : Nat) : Int) - 1))) (x_assign (.tmp rfl rfl)) ?_
        refine c_nil ?_
        refine n_then ?_
        refine c_seq ?_
        refine c_region ?_
        refine st (v := .int .i64 (s.lookE (((s.ps.length : Nat) : Int) - 1))) (x_move (.tmp rfl rfl)) ?_
        refine st (v := .bool (decide (((s.lookE (((s.ps.length : Nat) : Int) - 1)) : Int) = 0))) (x_eql (k := .i64) (a := (s.lookE (((s.ps.length : Nat) : Int) - 1))) (b := 0) (.tmp rfl rfl) .const) ?_
        refine st (v := .bool (decide (((s.lookE (((s.ps.length : Nat) : Int) - 1)) : Int) = 0))) (x_move (.tmp rfl rfl)) ?_
        have hc172 : (decide (((s.lookE (((s.ps.length : Nat) : Int) - 1)) : Int) = 0)) = true := (decide_eq_true (hA.look (by have := hA.len; omega)))
        refine g_yes (yl (dj := 117) (b := true) rfl rfl (congrArg Value.bool hc172)) ?_
        refine st (v := .pointer (some ⟨g165, 0 + 2, none⟩)) (fa37_2 (.tmp rfl rfl)) ?_
        refine g_yes (yl (dj := 117) (b := true) rfl rfl (congrArg Value.bool hc172)) ?_
        refine st (v := v154) (ld22 (.tmp rfl rfl) (hs171.cell 0 rfl (0 + 2) rfl)) ?_
        refine g_yes (yl (dj := 117) (b := true) rfl rfl (congrArg Value.bool hc172)) ?_
        refine st (v := .string (bstr ((s.peekP (((s.ps.length : Nat) : Int) - 1)).Bytes))) (hs171.rowStr Tryd.underlying22 Tryd.underlying5 Tryd.underlying9 1 rfl ok156 (.tmp rfl rfl)) ?_
        refine g_yes (yl (dj := 117) (b := true) rfl rfl (congrArg Value.bool hc172)) ?_
        refine st (v := v_want) (x_move (.tmp rfl hρ44)) ?_
        refine g_yes (yl (dj := 117) (b := true) rfl rfl (congrArg Value.bool hc172)) ?_
        refine st (v := .string (bstr want)) (hs171.rowStr Tryd.underlying22 Tryd.underlying5 Tryd.underlying9 2 rfl ok_want (.tmp rfl rfl)) ?_
        refine g_yes (yl (dj := 117) (b := true) rfl rfl (congrArg Value.bool hc172)) ?_
        refine st (v := .bool (decide ((bstr ((s.peekP (((s.ps.length : Nat) : Int) - 1)).Bytes)) = (bstr want)))) (x_eqlS (.tmp rfl rfl) (.tmp rfl rfl)) ?_
        refine st (v := .bool (decide ((bstr ((s.peekP (((s.ps.length : Nat) : Int) - 1)).Bytes)) = (bstr want)))) (x_pick_t (.tmp rfl (congrArg Value.bool hc172)) (.tmp rfl rfl)) ?_
        refine st (v := .bool (decide ((bstr ((s.peekP (((s.ps.length : Nat) : Int) - 1)).Bytes)) = (bstr want)))) (x_move (.tmp rfl rfl)) ?_
        have hc173 : (decide ((bstr ((s.peekP (((s.ps.length : Nat) : Int) - 1)).Bytes)) = (bstr want))) = true := (decide_eq_true (by rw [hA.peek (by have := hA.len; omega)]))
        refine st (v := .bool true) (x_pick_t (.tmp rfl (congrArg Value.bool hc173)) .const) ?_
        refine st (v := .bool true) (x_assign (.tmp rfl rfl)) ?_
        refine c_nil ?_
        refine n_then ?_
        refine c_ret ?_
        refine leave_ret (res_one (v := .bool true) rfl (.mk rfl rfl)) ?_
        exact ⟨rfl, hs171.drop.drop.drop.netDrop⟩

end Go.Proofs.YtojlmilkdijiaaaDoor
