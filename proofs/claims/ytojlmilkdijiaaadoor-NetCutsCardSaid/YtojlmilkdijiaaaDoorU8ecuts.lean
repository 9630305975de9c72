/- Steps of the proofs over the functions of this seat, printed by a program (gen.py) and checked by Lean. -/
import Derived.Test.YtojlmilkdijiaaaDoorUty
import Derived.Test.YtojlmilkdijiaaaDoorFmM4b
import Derived.Test.YtojlmilkdijiaaaDoorFmP
import Derived.Test.YtojlmilkdijiaaaDoorFmN5
import Derived.Test.YtojlmilkdijiaaaDoorU8d
set_option linter.unusedVariables false
set_option linter.unusedSimpArgs false
namespace Go.Proofs.YtojlmilkdijiaaaDoor
open Go Go.FM Go.Proofs
attribute [local irreducible] wpList wpQuiet wpS Code.wp Calls
set_option maxHeartbeats 8000000 in
theorem cuts_spec {H : Hp} {w : World} {L : List Res} (hs : St H w (L)) {A_p : Option Addr} {n_p c_p : Nat} (p : List Nat) (h_p : By H A_p n_p c_p p) (n : Nat) (b_n : n < 256) (joined : Bool) (htab : Tab H) : Calls Tryd.prog 7 #[.slice A_p n_p c_p, .int .u8 ((n : Nat) : Int), .bool joined] w (fun e w' => e = .returned (.bool true) ∧ St H w' (L)) := by
  have := h_p.len; have := h_p.le; have := h_p.bnd
  refine enter (args := [.slice A_p n_p c_p, .int .u8 ((n : Nat) : Int), .bool joined]) (N := 121) Tryd.func7 rfl rfl rfl ?_
  refine c_seq ?_
  refine c_region ?_
  refine st (v := .bool false) (x_assign .const) ?_
  refine c_nil ?_
  refine n_then ?_
  refine c_seq ?_
  refine c_seq ?_
  refine c_region ?_
  refine st_c cb11 .func (evs0 ) (awake_spec hs  htab) ?_
  rintro e w1 ⟨rfl, hs2⟩
  refine ⟨_, rfl, ?_⟩
  refine st (v := .bool false) (x_not (b := true) (.tmp rfl rfl)) ?_
  refine st (v := .bool false) (x_move (.tmp rfl rfl)) ?_
  refine g_yes (yl (dj := 16) (b := false) rfl rfl rfl) ?_
  refine st (v := .slice A_p n_p c_p) (x_move (.tmp rfl rfl)) ?_
  refine g_yes (yl (dj := 16) (b := false) rfl rfl rfl) ?_
  refine st (v := .int .i64 ((n_p : Nat) : Int)) (x_len (n := n_p) Tryd.underlying22 (.tmp rfl rfl)) ?_
  refine g_yes (yl (dj := 16) (b := false) rfl rfl rfl) ?_
  refine st (v := .bool (decide ((1000 : Int) < ((n_p : Nat) : Int)))) (x_gtr (k := .i64) (a := ((n_p : Nat) : Int)) (b := 1000) (.tmp rfl rfl) .const) ?_
  refine st (v := .bool (decide ((1000 : Int) < ((n_p : Nat) : Int)))) (x_pick_f (.tmp rfl rfl) (.tmp rfl rfl)) ?_
  refine c_nil ?_
  refine n_then ?_
  rcases Bool.eq_false_or_eq_true (decide ((1000 : Int) < ((n_p : Nat) : Int))) with hc3 | hc3
  · have hp3 : (1000 : Int) < ((n_p : Nat) : Int) := of_decide_eq_true hc3
    refine c_cond_t (t := true) (.tmp rfl (congrArg Value.bool hc3)) rfl ?_
    refine c_seq ?_
    refine c_region ?_
    refine st_c cb11 .func (evs0 ) (awake_spec hs2  htab) ?_
    rintro e w4 ⟨rfl, hs5⟩
    refine ⟨_, rfl, ?_⟩
    refine st (v := .bool true) (x_assign (.tmp rfl rfl)) ?_
    refine c_nil ?_
    refine n_then ?_
    refine c_ret ?_
    refine r_then ?_
    refine leave_ret (res_one (v := .bool true) rfl (.mk rfl rfl)) ?_
    exact ⟨rfl, hs5⟩
  · have hp3 : ¬ ((1000 : Int) < ((n_p : Nat) : Int)) := of_decide_eq_false hc3
    refine c_cond_f (t := false) (.tmp rfl (congrArg Value.bool hc3)) rfl ?_
    refine c_skip ?_
    refine n_then ?_
    refine c_seq ?_
    refine c_region ?_
    refine st (v := .int .u8 ((n : Nat) : Int)) (x_move (.tmp rfl rfl)) ?_
    refine st (v := .int .i64 ((n : Nat) : Int)) (x_conv (k := .u8) (a := ((n : Nat) : Int)) Tryd.underlying5 Tryd.underlying3 (.tmp rfl rfl) (w64 (by omega) (by omega))) ?_
    refine st (v := .int .i64 (((n % 15) : Nat) : Int)) (x_remN (k := .i64) (m := n) (n := 15) (.tmp rfl rfl) .const (by omega)) ?_
    refine st (v := .int .i64 (((2 + (n % 15)) : Nat) : Int)) (x_add (k := .i64) (a := 2) (b := (((n % 15) : Nat) : Int)) .const (.tmp rfl rfl) ((w64 (by omega) (by omega)).trans (by omega))) ?_
    refine st (v := .int .i64 (((2 + (n % 15)) : Nat) : Int)) (x_assign (.tmp rfl rfl)) ?_
    refine c_nil ?_
    refine n_then ?_
    refine c_seq ?_
    refine c_region ?_
    refine st (v := .int .i64 (((2 + (n % 15)) : Nat) : Int)) (x_move (.tmp rfl rfl)) ?_
    refine st_c cb12 .func (evs1 (.tmp rfl rfl)) (new_spec hs2 (((2 + (n % 15)) : Nat) : Int) ⟨by omega, by omega⟩ (by omega) (by omega)) ?_
    rintro e w6 ⟨g8, vb9, cb10, vt11, ct12, rfl, ok13, hs7⟩
    refine ⟨_, rfl, ?_⟩
    refine st (v := .tuple #[.pointer (some ⟨g8, 0, none⟩), .int .i64 0]) (x_move (.tmp rfl rfl)) ?_
    refine st (v := .pointer (some ⟨g8, 0, none⟩)) (x_extract (.tmp rfl rfl) (i := 0) rfl) ?_
    refine st (v := .int .i64 0) (x_extract (.tmp rfl rfl) (i := 1) rfl) ?_
    refine st (v := .pointer (some ⟨g8, 0, none⟩)) (x_assign (.tmp rfl rfl)) ?_
    refine st (v := .int .i64 0) (x_assign (.tmp rfl rfl)) ?_
    refine c_nil ?_
    refine n_then ?_
    refine c_seq ?_
    refine c_seq ?_
    refine c_region ?_
    refine st (v := .pointer (some ⟨g8, 0, none⟩)) (x_move (.tmp rfl rfl)) ?_
    refine st (v := .int .i64 (((2 + (n % 15)) : Nat) : Int)) (x_move (.tmp rfl rfl)) ?_
    refine st (v := .int .i64 ((((2 + (n % 15)) : Nat) : Int) - 1)) (x_sub (k := .i64) (a := (((2 + (n % 15)) : Nat) : Int)) (b := 1) (.tmp rfl rfl) .const (w64 (by omega) (by omega))) ?_
    refine st (v := .slice A_p n_p c_p) (x_move (.tmp rfl rfl)) ?_
    refine st (v := .agg #[.int .i64 ((((2 + (n % 15)) : Nat) : Int) - 1), .int .i64 0, .slice A_p n_p c_p]) (bl37 (ps := [(0, .int .i64 ((((2 + (n % 15)) : Nat) : Int) - 1)), (1, .int .i64 0), (2, .slice A_p n_p c_p)]) (.cons (.tmp rfl rfl) (.cons .const (.cons (.tmp rfl rfl) Evp.nil))) rfl) ?_
    have hA0 := CutsAt.new (K := ((2 + n % 15 : Nat) : Int)) (by omega) (by omega)
    have hs16 : St H _ (netG 64 37 3 5 g8 (netNew (((2 + (n % 15)) : Nat) : Int)) vb9 cb10 vt11 ct12 (L)) := St.netUp [] hs7
    have hr17 : kPacket.rep H (GPacket.mk ((((2 + (n % 15)) : Nat) : Int) - 1) 0 p) [.int .i64 ((((2 + (n % 15)) : Nat) : Int) - 1), .int .i64 0, .slice A_p n_p c_p] := ⟨A_p, n_p, c_p, rfl, (show IB ((((2 + (n % 15)) : Nat) : Int) - 1) from ⟨by omega, by omega⟩), (show IB 0 from ⟨by omega, by omega⟩), h_p⟩
    refine st_c cb17 .func (evs2 (.tmp rfl rfl) (.tmp rfl rfl)) (Put_spec hs16 ok13 (GPacket.mk ((((2 + (n % 15)) : Nat) : Int) - 1) 0 p) hr17 (by have := hA0.lost; omega)) ?_
    rintro e w18 ⟨nt25, vb20, cb21, vt22, ct23, v_27, rfl, ok24, hnt26, hs19⟩
    refine ⟨_, rfl, ?_⟩
    have hs28 : St H _ (netG 64 37 3 5 g8 nt25 vb20 cb21 vt22 ct23 (L)) := St.netDown [] hs19
    refine st (v := .bool (decide ((((netNew (((2 + (n % 15)) : Nat) : Int)).putE (GPacket.mk ((((2 + (n % 15)) : Nat) : Int) - 1) 0 p).From (GPacket.mk ((((2 + (n % 15)) : Nat) : Int) - 1) 0 p).To) : Int) ≠ 0))) (x_neq (k := .i64) (a := ((netNew (((2 + (n % 15)) : Nat) : Int)).putE (GPacket.mk ((((2 + (n % 15)) : Nat) : Int) - 1) 0 p).From (GPacket.mk ((((2 + (n % 15)) : Nat) : Int) - 1) 0 p).To)) (b := 0) (.tmp rfl rfl) .const) ?_
    refine st (v := .bool (decide ((((netNew (((2 + (n % 15)) : Nat) : Int)).putE (GPacket.mk ((((2 + (n % 15)) : Nat) : Int) - 1) 0 p).From (GPacket.mk ((((2 + (n % 15)) : Nat) : Int) - 1) 0 p).To) : Int) ≠ 0))) (x_move (.tmp rfl rfl)) ?_
    have hc29 : (decide ((((netNew (((2 + (n % 15)) : Nat) : Int)).putE (GPacket.mk ((((2 + (n % 15)) : Nat) : Int) - 1) 0 p).From (GPacket.mk ((((2 + (n % 15)) : Nat) : Int) - 1) 0 p).To) : Int) ≠ 0)) = false := (decide_eq_false (fun h => h (hA0.putE (a := ((2 + n % 15 : Nat) : Int) - 1) (b := 0) ⟨by omega, by omega⟩ ⟨by omega, by omega⟩ (Nat.le_of_ble_eq_true rfl))))
    refine g_yes (yl (dj := 38) (b := false) rfl rfl (congrArg Value.bool hc29)) ?_
    refine st (v := .pointer (some ⟨g8, 0, none⟩)) (x_move (.tmp rfl rfl)) ?_
    refine g_yes (yl (dj := 38) (b := false) rfl rfl (congrArg Value.bool hc29)) ?_
    refine st (v := .slice A_p n_p c_p) (x_move (.tmp rfl rfl)) ?_
    refine g_yes (yl (dj := 38) (b := false) rfl rfl (congrArg Value.bool hc29)) ?_
    refine st (v := .agg #[.int .i64 0, .int .i64 0, .slice A_p n_p c_p]) (bl37 (ps := [(0, .int .i64 0), (1, .int .i64 0), (2, .slice A_p n_p c_p)]) (.cons .const (.cons .const (.cons (.tmp rfl rfl) Evp.nil))) rfl) ?_
    refine g_yes (yl (dj := 38) (b := false) rfl rfl (congrArg Value.bool hc29)) ?_
    have hA1 : CutsAt nt25 ((2 + n % 15 : Nat) : Int) [⟨((2 + n % 15 : Nat) : Int) - 1, 0, v_27, p⟩] 0 false := by rw [hnt26]; exact hA0.put (a := ((2 + n % 15 : Nat) : Int) - 1) (b := 0) (bs := p) (k := 0) (v := v_27) ⟨by omega, by omega⟩ ⟨by omega, by omega⟩ (Nat.le_of_ble_eq_true rfl)
    have hs30 : St H _ (netG 64 37 3 5 g8 nt25 vb20 cb21 vt22 ct23 (L)) := St.netUp [] hs28
    have hr31 : kPacket.rep H (GPacket.mk 0 0 p) [.int .i64 0, .int .i64 0, .slice A_p n_p c_p] := ⟨A_p, n_p, c_p, rfl, (show IB 0 from ⟨by omega, by omega⟩), (show IB 0 from ⟨by omega, by omega⟩), h_p⟩
    refine st_c cb17 .func (evs2 (.tmp rfl rfl) (.tmp rfl rfl)) (Put_spec hs30 ok24 (GPacket.mk 0 0 p) hr31 (by have := hA1.lost; omega)) ?_
    rintro e w32 ⟨nt39, vb34, cb35, vt36, ct37, v_41, rfl, ok38, hnt40, hs33⟩
    refine ⟨_, rfl, ?_⟩
    have hs42 : St H _ (netG 64 37 3 5 g8 nt39 vb34 cb35 vt36 ct37 (L)) := St.netDown [] hs33
    refine g_yes (yl (dj := 38) (b := false) rfl rfl (congrArg Value.bool hc29)) ?_
    refine st (v := .bool (decide (((nt25.putE (GPacket.mk 0 0 p).From (GPacket.mk 0 0 p).To) : Int) ≠ 0))) (x_neq (k := .i64) (a := (nt25.putE (GPacket.mk 0 0 p).From (GPacket.mk 0 0 p).To)) (b := 0) (.tmp rfl rfl) .const) ?_
    refine st (v := .bool (decide (((nt25.putE (GPacket.mk 0 0 p).From (GPacket.mk 0 0 p).To) : Int) ≠ 0))) (x_pick_f (.tmp rfl (congrArg Value.bool hc29)) (.tmp rfl rfl)) ?_
    refine st (v := .bool (decide (((nt25.putE (GPacket.mk 0 0 p).From (GPacket.mk 0 0 p).To) : Int) ≠ 0))) (x_move (.tmp rfl rfl)) ?_
    have hc43 : (decide (((nt25.putE (GPacket.mk 0 0 p).From (GPacket.mk 0 0 p).To) : Int) ≠ 0)) = false := (decide_eq_false (fun h => h (hA1.putE (a := 0) (b := 0) ⟨by omega, by omega⟩ ⟨by omega, by omega⟩ (Nat.le_of_ble_eq_true rfl))))
    refine g_yes (yl (dj := 45) (b := false) rfl rfl (congrArg Value.bool hc43)) ?_
    refine st (v := .pointer (some ⟨g8, 0, none⟩)) (x_move (.tmp rfl rfl)) ?_
    refine g_yes (yl (dj := 45) (b := false) rfl rfl (congrArg Value.bool hc43)) ?_
    refine st (v := .int .i64 (((2 + (n % 15)) : Nat) : Int)) (x_move (.tmp rfl rfl)) ?_
    refine g_yes (yl (dj := 45) (b := false) rfl rfl (congrArg Value.bool hc43)) ?_
    refine st (v := .int .i64 ((((2 + (n % 15)) : Nat) : Int) - 1)) (x_sub (k := .i64) (a := (((2 + (n % 15)) : Nat) : Int)) (b := 1) (.tmp rfl rfl) .const (w64 (by omega) (by omega))) ?_
    refine g_yes (yl (dj := 45) (b := false) rfl rfl (congrArg Value.bool hc43)) ?_
    have hA2 : CutsAt nt39 ((2 + n % 15 : Nat) : Int) [⟨((2 + n % 15 : Nat) : Int) - 1, 0, v_27, p⟩, ⟨0, 0, v_41, p⟩] 0 false := by rw [hnt40]; exact hA1.put (a := 0) (b := 0) (bs := p) (k := 0) (v := v_41) ⟨by omega, by omega⟩ ⟨by omega, by omega⟩ (Nat.le_of_ble_eq_true rfl)
    have hs44 : St H _ (netG 64 37 3 5 g8 nt39 vb34 cb35 vt36 ct37 (L)) := St.netUp [] hs42
    refine st_c cb13 .func (evs3 (.tmp rfl rfl) .const (.tmp rfl rfl)) (cut_spec hs44 ok38 0 ⟨by omega, by omega⟩ ((((2 + (n % 15)) : Nat) : Int) - 1) ⟨by omega, by omega⟩ ) ?_
    rintro e w45 ⟨vb47, cb48, vt49, ct50, rfl, ok51, hs46⟩
    refine ⟨_, rfl, ?_⟩
    have hs52 : St H _ (netG 64 37 3 5 g8 (NetS.setH wto nt39 0 ((((2 + (n % 15)) : Nat) : Int) - 1)) vb47 cb48 vt49 ct50 (L)) := St.netDown [] hs46
    refine g_yes (yl (dj := 45) (b := false) rfl rfl (congrArg Value.bool hc43)) ?_
    refine st (v := .bool (decide (((if nt39.setE 0 ((((2 + (n % 15)) : Nat) : Int) - 1) = true then 0 else 1) : Int) ≠ 0))) (x_neq (k := .i64) (a := (if nt39.setE 0 ((((2 + (n % 15)) : Nat) : Int) - 1) = true then 0 else 1)) (b := 0) (.tmp rfl rfl) .const) ?_
    refine st (v := .bool (decide (((if nt39.setE 0 ((((2 + (n % 15)) : Nat) : Int) - 1) = true then 0 else 1) : Int) ≠ 0))) (x_pick_f (.tmp rfl (congrArg Value.bool hc43)) (.tmp rfl rfl)) ?_
    refine st (v := .bool (decide (((if nt39.setE 0 ((((2 + (n % 15)) : Nat) : Int) - 1) = true then 0 else 1) : Int) ≠ 0))) (x_move (.tmp rfl rfl)) ?_
    have hc53 : (decide (((if nt39.setE 0 ((((2 + (n % 15)) : Nat) : Int) - 1) = true then 0 else 1) : Int) ≠ 0)) = false := (decide_eq_false (by rw [if_pos hA2.setE1]; simp))
    refine g_yes (yl (dj := 52) (b := false) rfl rfl (congrArg Value.bool hc53)) ?_
    refine st (v := .pointer (some ⟨g8, 0, none⟩)) (x_move (.tmp rfl rfl)) ?_
    refine g_yes (yl (dj := 52) (b := false) rfl rfl (congrArg Value.bool hc53)) ?_
    refine st (v := .int .i64 (((2 + (n % 15)) : Nat) : Int)) (x_move (.tmp rfl rfl)) ?_
    refine g_yes (yl (dj := 52) (b := false) rfl rfl (congrArg Value.bool hc53)) ?_
    refine st (v := .int .i64 ((((2 + (n % 15)) : Nat) : Int) - 1)) (x_sub (k := .i64) (a := (((2 + (n % 15)) : Nat) : Int)) (b := 1) (.tmp rfl rfl) .const (w64 (by omega) (by omega))) ?_
    refine g_yes (yl (dj := 52) (b := false) rfl rfl (congrArg Value.bool hc53)) ?_
    have hA3 := hA2.cut1
    have hs54 : St H _ (netG 64 37 3 5 g8 (NetS.setH wto nt39 0 ((((2 + (n % 15)) : Nat) : Int) - 1)) vb47 cb48 vt49 ct50 (L)) := St.netUp [] hs52
    refine st_c cb13 .func (evs3 (.tmp rfl rfl) (.tmp rfl rfl) .const) (cut_spec hs54 ok51 ((((2 + (n % 15)) : Nat) : Int) - 1) ⟨by omega, by omega⟩ 0 ⟨by omega, by omega⟩ ) ?_
    rintro e w55 ⟨vb57, cb58, vt59, ct60, rfl, ok61, hs56⟩
    refine ⟨_, rfl, ?_⟩
    have hs62 : St H _ (netG 64 37 3 5 g8 (NetS.setH wto (NetS.setH wto nt39 0 ((((2 + (n % 15)) : Nat) : Int) - 1)) ((((2 + (n % 15)) : Nat) : Int) - 1) 0) vb57 cb58 vt59 ct60 (L)) := St.netDown [] hs56
    refine g_yes (yl (dj := 52) (b := false) rfl rfl (congrArg Value.bool hc53)) ?_
    refine st (v := .bool (decide (((if (NetS.setH wto nt39 0 ((((2 + (n % 15)) : Nat) : Int) - 1)).setE ((((2 + (n % 15)) : Nat) : Int) - 1) 0 = true then 0 else 1) : Int) ≠ 0))) (x_neq (k := .i64) (a := (if (NetS.setH wto nt39 0 ((((2 + (n % 15)) : Nat) : Int) - 1)).setE ((((2 + (n % 15)) : Nat) : Int) - 1) 0 = true then 0 else 1)) (b := 0) (.tmp rfl rfl) .const) ?_
    refine st (v := .bool (decide (((if (NetS.setH wto nt39 0 ((((2 + (n % 15)) : Nat) : Int) - 1)).setE ((((2 + (n % 15)) : Nat) : Int) - 1) 0 = true then 0 else 1) : Int) ≠ 0))) (x_pick_f (.tmp rfl (congrArg Value.bool hc53)) (.tmp rfl rfl)) ?_
    refine c_nil ?_
    refine n_then ?_
    have hc63 : (decide (((if (NetS.setH wto nt39 0 ((((2 + (n % 15)) : Nat) : Int) - 1)).setE ((((2 + (n % 15)) : Nat) : Int) - 1) 0 = true then 0 else 1) : Int) ≠ 0)) = false := (decide_eq_false (by rw [if_pos hA3.setE2]; simp))
    refine c_cond_f (t := false) (.tmp rfl (congrArg Value.bool hc63)) rfl ?_
    refine c_skip ?_
    refine n_then ?_
    refine c_seq ?_
    refine c_seq ?_
    refine c_region ?_
    have hA4 := hA3.cut2
    refine st (v := .bool joined) (x_move (.tmp rfl rfl)) ?_
    refine st (v := .bool joined) (x_move (.tmp rfl rfl)) ?_
    rcases Bool.eq_false_or_eq_true joined with hc64 | hc64
    · refine g_yes (yl (dj := 60) (b := true) rfl rfl (congrArg Value.bool hc64)) ?_
      refine st (v := .pointer (some ⟨g8, 0, none⟩)) (x_move (.tmp rfl rfl)) ?_
      refine g_yes (yl (dj := 60) (b := true) rfl rfl (congrArg Value.bool hc64)) ?_
      refine st (v := .int .i64 (((2 + (n % 15)) : Nat) : Int)) (x_move (.tmp rfl rfl)) ?_
      refine g_yes (yl (dj := 60) (b := true) rfl rfl (congrArg Value.bool hc64)) ?_
      refine st (v := .int .i64 ((((2 + (n % 15)) : Nat) : Int) - 1)) (x_sub (k := .i64) (a := (((2 + (n % 15)) : Nat) : Int)) (b := 1) (.tmp rfl rfl) .const (w64 (by omega) (by omega))) ?_
      refine g_yes (yl (dj := 60) (b := true) rfl rfl (congrArg Value.bool hc64)) ?_
      have hs65 : St H _ (netG 64 37 3 5 g8 (NetS.setH wto (NetS.setH wto nt39 0 ((((2 + (n % 15)) : Nat) : Int) - 1)) ((((2 + (n % 15)) : Nat) : Int) - 1) 0) vb57 cb58 vt59 ct60 (L)) := St.netUp [] hs62
      refine st_c cb24 .func (evs3 (.tmp rfl rfl) (.tmp rfl rfl) .const) (join_spec hs65 ok61 ((((2 + (n % 15)) : Nat) : Int) - 1) ⟨by omega, by omega⟩ 0 ⟨by omega, by omega⟩ ) ?_
      rintro e w66 ⟨vb68, cb69, vt70, ct71, rfl, ok72, hs67⟩
      refine ⟨_, rfl, ?_⟩
      have hs73 : St H _ (netG 64 37 3 5 g8 (NetS.setH wth (NetS.setH wto (NetS.setH wto nt39 0 ((((2 + (n % 15)) : Nat) : Int) - 1)) ((((2 + (n % 15)) : Nat) : Int) - 1) 0) ((((2 + (n % 15)) : Nat) : Int) - 1) 0) vb68 cb69 vt70 ct71 (L)) := St.netDown [] hs67
      refine g_yes (yl (dj := 60) (b := true) rfl rfl (congrArg Value.bool hc64)) ?_
      refine st (v := .bool (decide (((if (NetS.setH wto (NetS.setH wto nt39 0 ((((2 + (n % 15)) : Nat) : Int) - 1)) ((((2 + (n % 15)) : Nat) : Int) - 1) 0).setE ((((2 + (n % 15)) : Nat) : Int) - 1) 0 = true then 0 else 1) : Int) ≠ 0))) (x_neq (k := .i64) (a := (if (NetS.setH wto (NetS.setH wto nt39 0 ((((2 + (n % 15)) : Nat) : Int) - 1)) ((((2 + (n % 15)) : Nat) : Int) - 1) 0).setE ((((2 + (n % 15)) : Nat) : Int) - 1) 0 = true then 0 else 1)) (b := 0) (.tmp rfl rfl) .const) ?_
      refine st (v := .bool (decide (((if (NetS.setH wto (NetS.setH wto nt39 0 ((((2 + (n % 15)) : Nat) : Int) - 1)) ((((2 + (n % 15)) : Nat) : Int) - 1) 0).setE ((((2 + (n % 15)) : Nat) : Int) - 1) 0 = true then 0 else 1) : Int) ≠ 0))) (x_pick_t (.tmp rfl (congrArg Value.bool hc64)) (.tmp rfl rfl)) ?_
      refine c_nil ?_
      refine n_then ?_
      have hc74 : (decide (((if (NetS.setH wto (NetS.setH wto nt39 0 ((((2 + (n % 15)) : Nat) : Int) - 1)) ((((2 + (n % 15)) : Nat) : Int) - 1) 0).setE ((((2 + (n % 15)) : Nat) : Int) - 1) 0 = true then 0 else 1) : Int) ≠ 0)) = false := (decide_eq_false (by rw [if_pos hA4.setE2]; simp))
      refine c_cond_f (t := false) (.tmp rfl (congrArg Value.bool hc74)) rfl ?_
      refine c_skip ?_
      refine n_then ?_
      refine c_seq ?_
      refine c_region ?_
      have hA5 := hA4.join
      refine st (v := .pointer (some ⟨g8, 0, none⟩)) (x_move (.tmp rfl rfl)) ?_
      have hs75 : St H _ (netG 64 37 3 5 g8 (NetS.setH wth (NetS.setH wto (NetS.setH wto nt39 0 ((((2 + (n % 15)) : Nat) : Int) - 1)) ((((2 + (n % 15)) : Nat) : Int) - 1) 0) ((((2 + (n % 15)) : Nat) : Int) - 1) 0) vb68 cb69 vt70 ct71 (L)) := St.netUp [] hs73
      refine st_c cb22 .func (evs2 (.tmp rfl rfl) .const) (Take_spec hs75 ok72 0 ⟨by omega, by omega⟩ (by have := hA5.lost; omega)) ?_
      rintro e w76 ⟨v78, nt92, vb87, cb88, vt89, ct90, rfl, ⟨b83, b84⟩, ⟨b85, b86⟩, sm79, ok80, lb81, ok91, hnt93, hs77⟩
      refine ⟨_, rfl, ?_⟩
      have hs94 := St.netUp [row 5 1 v78 (((NetS.setH wth (NetS.setH wto (NetS.setH wto nt39 0 ((((2 + (n % 15)) : Nat) : Int) - 1)) ((((2 + (n % 15)) : Nat) : Int) - 1) 0) ((((2 + (n % 15)) : Nat) : Int) - 1) 0).takeP 0).Bytes.length) ((((NetS.setH wth (NetS.setH wto (NetS.setH wto nt39 0 ((((2 + (n % 15)) : Nat) : Int) - 1)) ((((2 + (n % 15)) : Nat) : Int) - 1) 0) ((((2 + (n % 15)) : Nat) : Int) - 1) 0).takeP 0).Bytes).map encB)] hs77
      have hs95 : St H _ (row 5 1 v78 (((NetS.setH wth (NetS.setH wto (NetS.setH wto nt39 0 ((((2 + (n % 15)) : Nat) : Int) - 1)) ((((2 + (n % 15)) : Nat) : Int) - 1) 0) ((((2 + (n % 15)) : Nat) : Int) - 1) 0).takeP 0).Bytes.length) ((((NetS.setH wth (NetS.setH wto (NetS.setH wto nt39 0 ((((2 + (n % 15)) : Nat) : Int) - 1)) ((((2 + (n % 15)) : Nat) : Int) - 1) 0) ((((2 + (n % 15)) : Nat) : Int) - 1) 0).takeP 0).Bytes).map encB) :: netG 64 37 3 5 g8 nt92 vb87 cb88 vt89 ct90 (L)) := St.netDown [row 5 1 v78 (((NetS.setH wth (NetS.setH wto (NetS.setH wto nt39 0 ((((2 + (n % 15)) : Nat) : Int) - 1)) ((((2 + (n % 15)) : Nat) : Int) - 1) 0) ((((2 + (n % 15)) : Nat) : Int) - 1) 0).takeP 0).Bytes.length) ((((NetS.setH wth (NetS.setH wto (NetS.setH wto nt39 0 ((((2 + (n % 15)) : Nat) : Int) - 1)) ((((2 + (n % 15)) : Nat) : Int) - 1) 0) ((((2 + (n % 15)) : Nat) : Int) - 1) 0).takeP 0).Bytes).map encB)] hs94
      refine st (v := .tuple #[.agg #[.int .i64 (((NetS.setH wth (NetS.setH wto (NetS.setH wto nt39 0 ((((2 + (n % 15)) : Nat) : Int) - 1)) ((((2 + (n % 15)) : Nat) : Int) - 1) 0) ((((2 + (n % 15)) : Nat) : Int) - 1) 0).takeP 0).From), .int .i64 (((NetS.setH wth (NetS.setH wto (NetS.setH wto nt39 0 ((((2 + (n % 15)) : Nat) : Int) - 1)) ((((2 + (n % 15)) : Nat) : Int) - 1) 0) ((((2 + (n % 15)) : Nat) : Int) - 1) 0).takeP 0).To), v78], .int .i64 ((NetS.setH wth (NetS.setH wto (NetS.setH wto nt39 0 ((((2 + (n % 15)) : Nat) : Int) - 1)) ((((2 + (n % 15)) : Nat) : Int) - 1) 0) ((((2 + (n % 15)) : Nat) : Int) - 1) 0).takeE 0)]) (x_move (.tmp rfl rfl)) ?_
      refine st (v := .agg #[.int .i64 (((NetS.setH wth (NetS.setH wto (NetS.setH wto nt39 0 ((((2 + (n % 15)) : Nat) : Int) - 1)) ((((2 + (n % 15)) : Nat) : Int) - 1) 0) ((((2 + (n % 15)) : Nat) : Int) - 1) 0).takeP 0).From), .int .i64 (((NetS.setH wth (NetS.setH wto (NetS.setH wto nt39 0 ((((2 + (n % 15)) : Nat) : Int) - 1)) ((((2 + (n % 15)) : Nat) : Int) - 1) 0) ((((2 + (n % 15)) : Nat) : Int) - 1) 0).takeP 0).To), v78]) (x_extract (.tmp rfl rfl) (i := 0) rfl) ?_
      refine st (v := .int .i64 ((NetS.setH wth (NetS.setH wto (NetS.setH wto nt39 0 ((((2 + (n % 15)) : Nat) : Int) - 1)) ((((2 + (n % 15)) : Nat) : Int) - 1) 0) ((((2 + (n % 15)) : Nat) : Int) - 1) 0).takeE 0)) (x_extract (.tmp rfl rfl) (i := 1) rfl) ?_
      refine st_m (al37 (cs := [.int .i64 0, .int .i64 0, .slice none 0 0]) hs95 rfl) ?_
      rintro _ w97 ⟨g96, rfl, hs99⟩
      refine st_m0 (sto37 (cs' := [.int .i64 (((NetS.setH wth (NetS.setH wto (NetS.setH wto nt39 0 ((((2 + (n % 15)) : Nat) : Int) - 1)) ((((2 + (n % 15)) : Nat) : Int) - 1) 0) ((((2 + (n % 15)) : Nat) : Int) - 1) 0).takeP 0).From), .int .i64 (((NetS.setH wth (NetS.setH wto (NetS.setH wto nt39 0 ((((2 + (n % 15)) : Nat) : Int) - 1)) ((((2 + (n % 15)) : Nat) : Int) - 1) 0) ((((2 + (n % 15)) : Nat) : Int) - 1) 0).takeP 0).To), v78]) (i := 0) hs99 (v := .agg #[.int .i64 (((NetS.setH wth (NetS.setH wto (NetS.setH wto nt39 0 ((((2 + (n % 15)) : Nat) : Int) - 1)) ((((2 + (n % 15)) : Nat) : Int) - 1) 0) ((((2 + (n % 15)) : Nat) : Int) - 1) 0).takeP 0).From), .int .i64 (((NetS.setH wth (NetS.setH wto (NetS.setH wto nt39 0 ((((2 + (n % 15)) : Nat) : Int) - 1)) ((((2 + (n % 15)) : Nat) : Int) - 1) 0) ((((2 + (n % 15)) : Nat) : Int) - 1) 0).takeP 0).To), v78]) (.tmp rfl rfl) (.tmp rfl rfl) rfl (Nat.le_of_ble_eq_true rfl) (oneA (allC rfl (allC rfl (allC (RowOk.oneC ok80) rfl)))) rfl) ?_
      rintro w100 hs102
      refine st (v := .int .i64 ((NetS.setH wth (NetS.setH wto (NetS.setH wto nt39 0 ((((2 + (n % 15)) : Nat) : Int) - 1)) ((((2 + (n % 15)) : Nat) : Int) - 1) 0) ((((2 + (n % 15)) : Nat) : Int) - 1) 0).takeE 0)) (x_assign (.tmp rfl rfl)) ?_
      refine c_nil ?_
      refine n_then ?_
      refine c_seq ?_
      refine c_region ?_
      have hT1 := hA5.take hA5.far
      have hA6 : CutsAt nt92 ((2 + n % 15 : Nat) : Int) [⟨0, 0, v_41, p⟩] (0) false := by rw [hnt93]; exact hT1.2.2
      skip
      skip
      refine st (v := .pointer (some ⟨g8, 0, none⟩)) (x_move (.tmp rfl rfl)) ?_
      have hs103 : St H _ (netG 64 37 3 5 g8 nt92 vb87 cb88 vt89 ct90 (obj g96 37 [.int .i64 (((NetS.setH wth (NetS.setH wto (NetS.setH wto nt39 0 ((((2 + (n % 15)) : Nat) : Int) - 1)) ((((2 + (n % 15)) : Nat) : Int) - 1) 0) ((((2 + (n % 15)) : Nat) : Int) - 1) 0).takeP 0).From), .int .i64 (((NetS.setH wth (NetS.setH wto (NetS.setH wto nt39 0 ((((2 + (n % 15)) : Nat) : Int) - 1)) ((((2 + (n % 15)) : Nat) : Int) - 1) 0) ((((2 + (n % 15)) : Nat) : Int) - 1) 0).takeP 0).To), v78] :: row 5 1 v78 (((NetS.setH wth (NetS.setH wto (NetS.setH wto nt39 0 ((((2 + (n % 15)) : Nat) : Int) - 1)) ((((2 + (n % 15)) : Nat) : Int) - 1) 0) ((((2 + (n % 15)) : Nat) : Int) - 1) 0).takeP 0).Bytes.length) ((((NetS.setH wth (NetS.setH wto (NetS.setH wto nt39 0 ((((2 + (n % 15)) : Nat) : Int) - 1)) ((((2 + (n % 15)) : Nat) : Int) - 1) 0) ((((2 + (n % 15)) : Nat) : Int) - 1) 0).takeP 0).Bytes).map encB) :: L)) := St.netUp [obj g96 37 [.int .i64 (((NetS.setH wth (NetS.setH wto (NetS.setH wto nt39 0 ((((2 + (n % 15)) : Nat) : Int) - 1)) ((((2 + (n % 15)) : Nat) : Int) - 1) 0) ((((2 + (n % 15)) : Nat) : Int) - 1) 0).takeP 0).From), .int .i64 (((NetS.setH wth (NetS.setH wto (NetS.setH wto nt39 0 ((((2 + (n % 15)) : Nat) : Int) - 1)) ((((2 + (n % 15)) : Nat) : Int) - 1) 0) ((((2 + (n % 15)) : Nat) : Int) - 1) 0).takeP 0).To), v78], row 5 1 v78 (((NetS.setH wth (NetS.setH wto (NetS.setH wto nt39 0 ((((2 + (n % 15)) : Nat) : Int) - 1)) ((((2 + (n % 15)) : Nat) : Int) - 1) 0) ((((2 + (n % 15)) : Nat) : Int) - 1) 0).takeP 0).Bytes.length) ((((NetS.setH wth (NetS.setH wto (NetS.setH wto nt39 0 ((((2 + (n % 15)) : Nat) : Int) - 1)) ((((2 + (n % 15)) : Nat) : Int) - 1) 0) ((((2 + (n % 15)) : Nat) : Int) - 1) 0).takeP 0).Bytes).map encB)] hs102
      refine st_c cb22 .func (evs2 (.tmp rfl rfl) .const) (Take_spec hs103 ok91 0 ⟨by omega, by omega⟩ (by have := hA6.lost; omega)) ?_
      rintro e w104 ⟨v106, nt120, vb115, cb116, vt117, ct118, rfl, ⟨b111, b112⟩, ⟨b113, b114⟩, sm107, ok108, lb109, ok119, hnt121, hs105⟩
      refine ⟨_, rfl, ?_⟩
      have hs122 := St.netUp [row 5 1 v106 ((nt92.takeP 0).Bytes.length) (((nt92.takeP 0).Bytes).map encB)] hs105
      have hs123 : St H _ (row 5 1 v106 ((nt92.takeP 0).Bytes.length) (((nt92.takeP 0).Bytes).map encB) :: obj g96 37 [.int .i64 (((NetS.setH wth (NetS.setH wto (NetS.setH wto nt39 0 ((((2 + (n % 15)) : Nat) : Int) - 1)) ((((2 + (n % 15)) : Nat) : Int) - 1) 0) ((((2 + (n % 15)) : Nat) : Int) - 1) 0).takeP 0).From), .int .i64 (((NetS.setH wth (NetS.setH wto (NetS.setH wto nt39 0 ((((2 + (n % 15)) : Nat) : Int) - 1)) ((((2 + (n % 15)) : Nat) : Int) - 1) 0) ((((2 + (n % 15)) : Nat) : Int) - 1) 0).takeP 0).To), v78] :: row 5 1 v78 (((NetS.setH wth (NetS.setH wto (NetS.setH wto nt39 0 ((((2 + (n % 15)) : Nat) : Int) - 1)) ((((2 + (n % 15)) : Nat) : Int) - 1) 0) ((((2 + (n % 15)) : Nat) : Int) - 1) 0).takeP 0).Bytes.length) ((((NetS.setH wth (NetS.setH wto (NetS.setH wto nt39 0 ((((2 + (n % 15)) : Nat) : Int) - 1)) ((((2 + (n % 15)) : Nat) : Int) - 1) 0) ((((2 + (n % 15)) : Nat) : Int) - 1) 0).takeP 0).Bytes).map encB) :: netG 64 37 3 5 g8 nt120 vb115 cb116 vt117 ct118 (L)) := St.netDown [row 5 1 v106 ((nt92.takeP 0).Bytes.length) (((nt92.takeP 0).Bytes).map encB), obj g96 37 [.int .i64 (((NetS.setH wth (NetS.setH wto (NetS.setH wto nt39 0 ((((2 + (n % 15)) : Nat) : Int) - 1)) ((((2 + (n % 15)) : Nat) : Int) - 1) 0) ((((2 + (n % 15)) : Nat) : Int) - 1) 0).takeP 0).From), .int .i64 (((NetS.setH wth (NetS.setH wto (NetS.setH wto nt39 0 ((((2 + (n % 15)) : Nat) : Int) - 1)) ((((2 + (n % 15)) : Nat) : Int) - 1) 0) ((((2 + (n % 15)) : Nat) : Int) - 1) 0).takeP 0).To), v78], row 5 1 v78 (((NetS.setH wth (NetS.setH wto (NetS.setH wto nt39 0 ((((2 + (n % 15)) : Nat) : Int) - 1)) ((((2 + (n % 15)) : Nat) : Int) - 1) 0) ((((2 + (n % 15)) : Nat) : Int) - 1) 0).takeP 0).Bytes.length) ((((NetS.setH wth (NetS.setH wto (NetS.setH wto nt39 0 ((((2 + (n % 15)) : Nat) : Int) - 1)) ((((2 + (n % 15)) : Nat) : Int) - 1) 0) ((((2 + (n % 15)) : Nat) : Int) - 1) 0).takeP 0).Bytes).map encB)] hs122
      refine st (v := .tuple #[.agg #[.int .i64 ((nt92.takeP 0).From), .int .i64 ((nt92.takeP 0).To), v106], .int .i64 (nt92.takeE 0)]) (x_move (.tmp rfl rfl)) ?_
      refine st (v := .agg #[.int .i64 ((nt92.takeP 0).From), .int .i64 ((nt92.takeP 0).To), v106]) (x_extract (.tmp rfl rfl) (i := 0) rfl) ?_
      refine st (v := .int .i64 (nt92.takeE 0)) (x_extract (.tmp rfl rfl) (i := 1) rfl) ?_
      refine st_m (al37 (cs := [.int .i64 0, .int .i64 0, .slice none 0 0]) hs123 rfl) ?_
      rintro _ w125 ⟨g124, rfl, hs127⟩
      refine st_m0 (sto37 (cs' := [.int .i64 ((nt92.takeP 0).From), .int .i64 ((nt92.takeP 0).To), v106]) (i := 0) hs127 (v := .agg #[.int .i64 ((nt92.takeP 0).From), .int .i64 ((nt92.takeP 0).To), v106]) (.tmp rfl rfl) (.tmp rfl rfl) rfl (Nat.le_of_ble_eq_true rfl) (oneA (allC rfl (allC rfl (allC (RowOk.oneC ok108) rfl)))) rfl) ?_
      rintro w128 hs130
      refine st (v := .int .i64 (nt92.takeE 0)) (x_assign (.tmp rfl rfl)) ?_
      refine c_nil ?_
      refine n_then ?_
      refine c_seq ?_
      refine c_seq ?_
      refine c_region ?_
      have hT2 := hA6.take hA6.near
      have hA7 : CutsAt nt120 ((2 + n % 15 : Nat) : Int) [] (0) false := by rw [hnt121]; exact hT2.2.2
      skip
      refine st (v := .int .i64 (nt92.takeE 0)) (x_move (.tmp rfl rfl)) ?_
      refine st (v := .bool (decide (((nt92.takeE 0) : Int) ≠ 0))) (x_neq (k := .i64) (a := (nt92.takeE 0)) (b := 0) (.tmp rfl rfl) .const) ?_
      refine st (v := .bool (decide (((nt92.takeE 0) : Int) ≠ 0))) (x_move (.tmp rfl rfl)) ?_
      have hc131 : (decide (((nt92.takeE 0) : Int) ≠ 0)) = false := (by rw [hT2.1]; decide)
      refine g_yes (yl (dj := 79) (b := false) rfl rfl (congrArg Value.bool hc131)) ?_
      refine st (v := .pointer (some ⟨g124, 0 + 2, none⟩)) (fa37_2 (.tmp rfl rfl)) ?_
      refine g_yes (yl (dj := 79) (b := false) rfl rfl (congrArg Value.bool hc131)) ?_
      refine st (v := v106) (ld22 (.tmp rfl rfl) (hs130.cell 0 rfl (0 + 2) rfl)) ?_
      refine g_yes (yl (dj := 79) (b := false) rfl rfl (congrArg Value.bool hc131)) ?_
      refine st (v := .string (bstr ((nt92.takeP 0).Bytes))) (hs130.rowStr Tryd.underlying22 Tryd.underlying5 Tryd.underlying9 1 rfl ok108 (.tmp rfl rfl)) ?_
      refine g_yes (yl (dj := 79) (b := false) rfl rfl (congrArg Value.bool hc131)) ?_
      refine st (v := .slice A_p n_p c_p) (x_move (.tmp rfl rfl)) ?_
      refine g_yes (yl (dj := 79) (b := false) rfl rfl (congrArg Value.bool hc131)) ?_
      refine st (v := .string (bstr p)) (h_p.toBs.str Tryd.underlying22 Tryd.underlying5 Tryd.underlying9 hs130 (.tmp rfl rfl)) ?_
      refine g_yes (yl (dj := 79) (b := false) rfl rfl (congrArg Value.bool hc131)) ?_
      refine st (v := .bool (!decide ((bstr ((nt92.takeP 0).Bytes)) = (bstr p)))) (x_neqS (.tmp rfl rfl) (.tmp rfl rfl)) ?_
      refine st (v := .bool (!decide ((bstr ((nt92.takeP 0).Bytes)) = (bstr p)))) (x_pick_f (.tmp rfl (congrArg Value.bool hc131)) (.tmp rfl rfl)) ?_
      refine st (v := .bool (!decide ((bstr ((nt92.takeP 0).Bytes)) = (bstr p)))) (x_move (.tmp rfl rfl)) ?_
      have hc132 : (decide ((bstr ((nt92.takeP 0).Bytes)) = (bstr p))) = true := (decide_eq_true (by rw [hT2.2.1]))
      refine g_yes (yl (dj := 87) (b := false) rfl rfl (congrArg Value.bool (by rw [hc132]; rfl))) ?_
      refine st (v := .pointer (some ⟨g8, 0, none⟩)) (x_move (.tmp rfl rfl)) ?_
      refine g_yes (yl (dj := 87) (b := false) rfl rfl (congrArg Value.bool (by rw [hc132]; rfl))) ?_
      have hs133 : St H _ (netG 64 37 3 5 g8 nt120 vb115 cb116 vt117 ct118 (obj g124 37 [.int .i64 ((nt92.takeP 0).From), .int .i64 ((nt92.takeP 0).To), v106] :: row 5 1 v106 ((nt92.takeP 0).Bytes.length) (((nt92.takeP 0).Bytes).map encB) :: obj g96 37 [.int .i64 (((NetS.setH wth (NetS.setH wto (NetS.setH wto nt39 0 ((((2 + (n % 15)) : Nat) : Int) - 1)) ((((2 + (n % 15)) : Nat) : Int) - 1) 0) ((((2 + (n % 15)) : Nat) : Int) - 1) 0).takeP 0).From), .int .i64 (((NetS.setH wth (NetS.setH wto (NetS.setH wto nt39 0 ((((2 + (n % 15)) : Nat) : Int) - 1)) ((((2 + (n % 15)) : Nat) : Int) - 1) 0) ((((2 + (n % 15)) : Nat) : Int) - 1) 0).takeP 0).To), v78] :: row 5 1 v78 (((NetS.setH wth (NetS.setH wto (NetS.setH wto nt39 0 ((((2 + (n % 15)) : Nat) : Int) - 1)) ((((2 + (n % 15)) : Nat) : Int) - 1) 0) ((((2 + (n % 15)) : Nat) : Int) - 1) 0).takeP 0).Bytes.length) ((((NetS.setH wth (NetS.setH wto (NetS.setH wto nt39 0 ((((2 + (n % 15)) : Nat) : Int) - 1)) ((((2 + (n % 15)) : Nat) : Int) - 1) 0) ((((2 + (n % 15)) : Nat) : Int) - 1) 0).takeP 0).Bytes).map encB) :: L)) := St.netUp [obj g124 37 [.int .i64 ((nt92.takeP 0).From), .int .i64 ((nt92.takeP 0).To), v106], row 5 1 v106 ((nt92.takeP 0).Bytes.length) (((nt92.takeP 0).Bytes).map encB), obj g96 37 [.int .i64 (((NetS.setH wth (NetS.setH wto (NetS.setH wto nt39 0 ((((2 + (n % 15)) : Nat) : Int) - 1)) ((((2 + (n % 15)) : Nat) : Int) - 1) 0) ((((2 + (n % 15)) : Nat) : Int) - 1) 0).takeP 0).From), .int .i64 (((NetS.setH wth (NetS.setH wto (NetS.setH wto nt39 0 ((((2 + (n % 15)) : Nat) : Int) - 1)) ((((2 + (n % 15)) : Nat) : Int) - 1) 0) ((((2 + (n % 15)) : Nat) : Int) - 1) 0).takeP 0).To), v78], row 5 1 v78 (((NetS.setH wth (NetS.setH wto (NetS.setH wto nt39 0 ((((2 + (n % 15)) : Nat) : Int) - 1)) ((((2 + (n % 15)) : Nat) : Int) - 1) 0) ((((2 + (n % 15)) : Nat) : Int) - 1) 0).takeP 0).Bytes.length) ((((NetS.setH wth (NetS.setH wto (NetS.setH wto nt39 0 ((((2 + (n % 15)) : Nat) : Int) - 1)) ((((2 + (n % 15)) : Nat) : Int) - 1) 0) ((((2 + (n % 15)) : Nat) : Int) - 1) 0).takeP 0).Bytes).map encB)] hs130
      refine st_c cb15 .func (evs3 (.tmp rfl rfl) .const .const) (hear_spec hs133 ok119 0 ⟨by omega, by omega⟩ 0 ⟨by omega, by omega⟩ ) ?_
      rintro e w134 ⟨rfl, hs135⟩
      refine ⟨_, rfl, ?_⟩
      have hs136 : St H _ (obj g124 37 [.int .i64 ((nt92.takeP 0).From), .int .i64 ((nt92.takeP 0).To), v106] :: row 5 1 v106 ((nt92.takeP 0).Bytes.length) (((nt92.takeP 0).Bytes).map encB) :: obj g96 37 [.int .i64 (((NetS.setH wth (NetS.setH wto (NetS.setH wto nt39 0 ((((2 + (n % 15)) : Nat) : Int) - 1)) ((((2 + (n % 15)) : Nat) : Int) - 1) 0) ((((2 + (n % 15)) : Nat) : Int) - 1) 0).takeP 0).From), .int .i64 (((NetS.setH wth (NetS.setH wto (NetS.setH wto nt39 0 ((((2 + (n % 15)) : Nat) : Int) - 1)) ((((2 + (n % 15)) : Nat) : Int) - 1) 0) ((((2 + (n % 15)) : Nat) : Int) - 1) 0).takeP 0).To), v78] :: row 5 1 v78 (((NetS.setH wth (NetS.setH wto (NetS.setH wto nt39 0 ((((2 + (n % 15)) : Nat) : Int) - 1)) ((((2 + (n % 15)) : Nat) : Int) - 1) 0) ((((2 + (n % 15)) : Nat) : Int) - 1) 0).takeP 0).Bytes.length) ((((NetS.setH wth (NetS.setH wto (NetS.setH wto nt39 0 ((((2 + (n % 15)) : Nat) : Int) - 1)) ((((2 + (n % 15)) : Nat) : Int) - 1) 0) ((((2 + (n % 15)) : Nat) : Int) - 1) 0).takeP 0).Bytes).map encB) :: netG 64 37 3 5 g8 nt120 vb115 cb116 vt117 ct118 (L)) := St.netDown [obj g124 37 [.int .i64 ((nt92.takeP 0).From), .int .i64 ((nt92.takeP 0).To), v106], row 5 1 v106 ((nt92.takeP 0).Bytes.length) (((nt92.takeP 0).Bytes).map encB), obj g96 37 [.int .i64 (((NetS.setH wth (NetS.setH wto (NetS.setH wto nt39 0 ((((2 + (n % 15)) : Nat) : Int) - 1)) ((((2 + (n % 15)) : Nat) : Int) - 1) 0) ((((2 + (n % 15)) : Nat) : Int) - 1) 0).takeP 0).From), .int .i64 (((NetS.setH wth (NetS.setH wto (NetS.setH wto nt39 0 ((((2 + (n % 15)) : Nat) : Int) - 1)) ((((2 + (n % 15)) : Nat) : Int) - 1) 0) ((((2 + (n % 15)) : Nat) : Int) - 1) 0).takeP 0).To), v78], row 5 1 v78 (((NetS.setH wth (NetS.setH wto (NetS.setH wto nt39 0 ((((2 + (n % 15)) : Nat) : Int) - 1)) ((((2 + (n % 15)) : Nat) : Int) - 1) 0) ((((2 + (n % 15)) : Nat) : Int) - 1) 0).takeP 0).Bytes.length) ((((NetS.setH wth (NetS.setH wto (NetS.setH wto nt39 0 ((((2 + (n % 15)) : Nat) : Int) - 1)) ((((2 + (n % 15)) : Nat) : Int) - 1) 0) ((((2 + (n % 15)) : Nat) : Int) - 1) 0).takeP 0).Bytes).map encB)] hs135
      refine g_yes (yl (dj := 87) (b := false) rfl rfl (congrArg Value.bool (by rw [hc132]; rfl))) ?_
      refine st (v := .bool (!(nt120.hears 0 0))) (x_not (.tmp rfl rfl)) ?_
      refine st (v := .bool (!(nt120.hears 0 0))) (x_pick_f (.tmp rfl (congrArg Value.bool (by rw [hc132]; rfl))) (.tmp rfl rfl)) ?_
      refine c_nil ?_
      refine n_then ?_
      have hc137 : (nt120.hears 0 0) = true := hA7.near
      refine c_cond_f (t := false) (.tmp rfl (congrArg Value.bool (by rw [hc137]; rfl))) rfl ?_
      refine c_skip ?_
      refine n_then ?_
      refine c_seq ?_
      refine c_seq ?_
      refine c_region ?_
      refine st (v := .bool true) (x_move (.tmp rfl (congrArg Value.bool hc64))) ?_
      refine c_nil ?_
      refine n_then ?_
      refine c_cond_t (t := true) (.tmp rfl rfl) rfl ?_
      refine c_seq ?_
      refine c_region ?_
      refine st (v := .int .i64 ((NetS.setH wth (NetS.setH wto (NetS.setH wto nt39 0 ((((2 + (n % 15)) : Nat) : Int) - 1)) ((((2 + (n % 15)) : Nat) : Int) - 1) 0) ((((2 + (n % 15)) : Nat) : Int) - 1) 0).takeE 0)) (x_move (.tmp rfl rfl)) ?_
      refine st (v := .bool (decide ((((NetS.setH wth (NetS.setH wto (NetS.setH wto nt39 0 ((((2 + (n % 15)) : Nat) : Int) - 1)) ((((2 + (n % 15)) : Nat) : Int) - 1) 0) ((((2 + (n % 15)) : Nat) : Int) - 1) 0).takeE 0) : Int) = 0))) (x_eql (k := .i64) (a := ((NetS.setH wth (NetS.setH wto (NetS.setH wto nt39 0 ((((2 + (n % 15)) : Nat) : Int) - 1)) ((((2 + (n % 15)) : Nat) : Int) - 1) 0) ((((2 + (n % 15)) : Nat) : Int) - 1) 0).takeE 0)) (b := 0) (.tmp rfl rfl) .const) ?_
      refine st (v := .bool (decide ((((NetS.setH wth (NetS.setH wto (NetS.setH wto nt39 0 ((((2 + (n % 15)) : Nat) : Int) - 1)) ((((2 + (n % 15)) : Nat) : Int) - 1) 0) ((((2 + (n % 15)) : Nat) : Int) - 1) 0).takeE 0) : Int) = 0))) (x_move (.tmp rfl rfl)) ?_
      have hc138 : (decide ((((NetS.setH wth (NetS.setH wto (NetS.setH wto nt39 0 ((((2 + (n % 15)) : Nat) : Int) - 1)) ((((2 + (n % 15)) : Nat) : Int) - 1) 0) ((((2 + (n % 15)) : Nat) : Int) - 1) 0).takeE 0) : Int) = 0)) = true := (by rw [hT1.1]; decide)
      refine g_yes (yl (dj := 95) (b := true) rfl rfl (congrArg Value.bool hc138)) ?_
      refine st (v := .pointer (some ⟨g96, 0 + 2, none⟩)) (fa37_2 (.tmp rfl rfl)) ?_
      refine g_yes (yl (dj := 95) (b := true) rfl rfl (congrArg Value.bool hc138)) ?_
      refine st (v := v78) (ld22 (.tmp rfl rfl) (hs136.cell 2 rfl (0 + 2) rfl)) ?_
      refine g_yes (yl (dj := 95) (b := true) rfl rfl (congrArg Value.bool hc138)) ?_
      refine st (v := .string (bstr (((NetS.setH wth (NetS.setH wto (NetS.setH wto nt39 0 ((((2 + (n % 15)) : Nat) : Int) - 1)) ((((2 + (n % 15)) : Nat) : Int) - 1) 0) ((((2 + (n % 15)) : Nat) : Int) - 1) 0).takeP 0).Bytes))) (hs136.rowStr Tryd.underlying22 Tryd.underlying5 Tryd.underlying9 3 rfl ok80 (.tmp rfl rfl)) ?_
      refine g_yes (yl (dj := 95) (b := true) rfl rfl (congrArg Value.bool hc138)) ?_
      refine st (v := .slice A_p n_p c_p) (x_move (.tmp rfl rfl)) ?_
      refine g_yes (yl (dj := 95) (b := true) rfl rfl (congrArg Value.bool hc138)) ?_
      refine st (v := .string (bstr p)) (h_p.toBs.str Tryd.underlying22 Tryd.underlying5 Tryd.underlying9 hs136 (.tmp rfl rfl)) ?_
      refine g_yes (yl (dj := 95) (b := true) rfl rfl (congrArg Value.bool hc138)) ?_
      refine st (v := .bool (decide ((bstr (((NetS.setH wth (NetS.setH wto (NetS.setH wto nt39 0 ((((2 + (n % 15)) : Nat) : Int) - 1)) ((((2 + (n % 15)) : Nat) : Int) - 1) 0) ((((2 + (n % 15)) : Nat) : Int) - 1) 0).takeP 0).Bytes)) = (bstr p)))) (x_eqlS (.tmp rfl rfl) (.tmp rfl rfl)) ?_
      refine st (v := .bool (decide ((bstr (((NetS.setH wth (NetS.setH wto (NetS.setH wto nt39 0 ((((2 + (n % 15)) : Nat) : Int) - 1)) ((((2 + (n % 15)) : Nat) : Int) - 1) 0) ((((2 + (n % 15)) : Nat) : Int) - 1) 0).takeP 0).Bytes)) = (bstr p)))) (x_pick_t (.tmp rfl (congrArg Value.bool hc138)) (.tmp rfl rfl)) ?_
      refine st (v := .bool (decide ((bstr (((NetS.setH wth (NetS.setH wto (NetS.setH wto nt39 0 ((((2 + (n % 15)) : Nat) : Int) - 1)) ((((2 + (n % 15)) : Nat) : Int) - 1) 0) ((((2 + (n % 15)) : Nat) : Int) - 1) 0).takeP 0).Bytes)) = (bstr p)))) (x_move (.tmp rfl rfl)) ?_
      have hc139 : (decide ((bstr (((NetS.setH wth (NetS.setH wto (NetS.setH wto nt39 0 ((((2 + (n % 15)) : Nat) : Int) - 1)) ((((2 + (n % 15)) : Nat) : Int) - 1) 0) ((((2 + (n % 15)) : Nat) : Int) - 1) 0).takeP 0).Bytes)) = (bstr p))) = true := (decide_eq_true (by rw [hT1.2.1]))
      refine g_yes (yl (dj := 103) (b := true) rfl rfl (congrArg Value.bool hc139)) ?_
      refine st (v := .pointer (some ⟨g8, 0, none⟩)) (x_move (.tmp rfl rfl)) ?_
      refine g_yes (yl (dj := 103) (b := true) rfl rfl (congrArg Value.bool hc139)) ?_
      have hs140 : St H _ (netG 64 37 3 5 g8 nt120 vb115 cb116 vt117 ct118 (obj g124 37 [.int .i64 ((nt92.takeP 0).From), .int .i64 ((nt92.takeP 0).To), v106] :: row 5 1 v106 ((nt92.takeP 0).Bytes.length) (((nt92.takeP 0).Bytes).map encB) :: obj g96 37 [.int .i64 (((NetS.setH wth (NetS.setH wto (NetS.setH wto nt39 0 ((((2 + (n % 15)) : Nat) : Int) - 1)) ((((2 + (n % 15)) : Nat) : Int) - 1) 0) ((((2 + (n % 15)) : Nat) : Int) - 1) 0).takeP 0).From), .int .i64 (((NetS.setH wth (NetS.setH wto (NetS.setH wto nt39 0 ((((2 + (n % 15)) : Nat) : Int) - 1)) ((((2 + (n % 15)) : Nat) : Int) - 1) 0) ((((2 + (n % 15)) : Nat) : Int) - 1) 0).takeP 0).To), v78] :: row 5 1 v78 (((NetS.setH wth (NetS.setH wto (NetS.setH wto nt39 0 ((((2 + (n % 15)) : Nat) : Int) - 1)) ((((2 + (n % 15)) : Nat) : Int) - 1) 0) ((((2 + (n % 15)) : Nat) : Int) - 1) 0).takeP 0).Bytes.length) ((((NetS.setH wth (NetS.setH wto (NetS.setH wto nt39 0 ((((2 + (n % 15)) : Nat) : Int) - 1)) ((((2 + (n % 15)) : Nat) : Int) - 1) 0) ((((2 + (n % 15)) : Nat) : Int) - 1) 0).takeP 0).Bytes).map encB) :: L)) := St.netUp [obj g124 37 [.int .i64 ((nt92.takeP 0).From), .int .i64 ((nt92.takeP 0).To), v106], row 5 1 v106 ((nt92.takeP 0).Bytes.length) (((nt92.takeP 0).Bytes).map encB), obj g96 37 [.int .i64 (((NetS.setH wth (NetS.setH wto (NetS.setH wto nt39 0 ((((2 + (n % 15)) : Nat) : Int) - 1)) ((((2 + (n % 15)) : Nat) : Int) - 1) 0) ((((2 + (n % 15)) : Nat) : Int) - 1) 0).takeP 0).From), .int .i64 (((NetS.setH wth (NetS.setH wto (NetS.setH wto nt39 0 ((((2 + (n % 15)) : Nat) : Int) - 1)) ((((2 + (n % 15)) : Nat) : Int) - 1) 0) ((((2 + (n % 15)) : Nat) : Int) - 1) 0).takeP 0).To), v78], row 5 1 v78 (((NetS.setH wth (NetS.setH wto (NetS.setH wto nt39 0 ((((2 + (n % 15)) : Nat) : Int) - 1)) ((((2 + (n % 15)) : Nat) : Int) - 1) 0) ((((2 + (n % 15)) : Nat) : Int) - 1) 0).takeP 0).Bytes.length) ((((NetS.setH wth (NetS.setH wto (NetS.setH wto nt39 0 ((((2 + (n % 15)) : Nat) : Int) - 1)) ((((2 + (n % 15)) : Nat) : Int) - 1) 0) ((((2 + (n % 15)) : Nat) : Int) - 1) 0).takeP 0).Bytes).map encB)] hs136
      refine st_c cb23 .func (evs1 (.tmp rfl rfl)) (lost_spec hs140 ok119 ) ?_
      rintro e w141 ⟨rfl, hs142⟩
      refine ⟨_, rfl, ?_⟩
      have hs143 : St H _ (obj g124 37 [.int .i64 ((nt92.takeP 0).From), .int .i64 ((nt92.takeP 0).To), v106] :: row 5 1 v106 ((nt92.takeP 0).Bytes.length) (((nt92.takeP 0).Bytes).map encB) :: obj g96 37 [.int .i64 (((NetS.setH wth (NetS.setH wto (NetS.setH wto nt39 0 ((((2 + (n % 15)) : Nat) : Int) - 1)) ((((2 + (n % 15)) : Nat) : Int) - 1) 0) ((((2 + (n % 15)) : Nat) : Int) - 1) 0).takeP 0).From), .int .i64 (((NetS.setH wth (NetS.setH wto (NetS.setH wto nt39 0 ((((2 + (n % 15)) : Nat) : Int) - 1)) ((((2 + (n % 15)) : Nat) : Int) - 1) 0) ((((2 + (n % 15)) : Nat) : Int) - 1) 0).takeP 0).To), v78] :: row 5 1 v78 (((NetS.setH wth (NetS.setH wto (NetS.setH wto nt39 0 ((((2 + (n % 15)) : Nat) : Int) - 1)) ((((2 + (n % 15)) : Nat) : Int) - 1) 0) ((((2 + (n % 15)) : Nat) : Int) - 1) 0).takeP 0).Bytes.length) ((((NetS.setH wth (NetS.setH wto (NetS.setH wto nt39 0 ((((2 + (n % 15)) : Nat) : Int) - 1)) ((((2 + (n % 15)) : Nat) : Int) - 1) 0) ((((2 + (n % 15)) : Nat) : Int) - 1) 0).takeP 0).Bytes).map encB) :: netG 64 37 3 5 g8 nt120 vb115 cb116 vt117 ct118 (L)) := St.netDown [obj g124 37 [.int .i64 ((nt92.takeP 0).From), .int .i64 ((nt92.takeP 0).To), v106], row 5 1 v106 ((nt92.takeP 0).Bytes.length) (((nt92.takeP 0).Bytes).map encB), obj g96 37 [.int .i64 (((NetS.setH wth (NetS.setH wto (NetS.setH wto nt39 0 ((((2 + (n % 15)) : Nat) : Int) - 1)) ((((2 + (n % 15)) : Nat) : Int) - 1) 0) ((((2 + (n % 15)) : Nat) : Int) - 1) 0).takeP 0).From), .int .i64 (((NetS.setH wth (NetS.setH wto (NetS.setH wto nt39 0 ((((2 + (n % 15)) : Nat) : Int) - 1)) ((((2 + (n % 15)) : Nat) : Int) - 1) 0) ((((2 + (n % 15)) : Nat) : Int) - 1) 0).takeP 0).To), v78], row 5 1 v78 (((NetS.setH wth (NetS.setH wto (NetS.setH wto nt39 0 ((((2 + (n % 15)) : Nat) : Int) - 1)) ((((2 + (n % 15)) : Nat) : Int) - 1) 0) ((((2 + (n % 15)) : Nat) : Int) - 1) 0).takeP 0).Bytes.length) ((((NetS.setH wth (NetS.setH wto (NetS.setH wto nt39 0 ((((2 + (n % 15)) : Nat) : Int) - 1)) ((((2 + (n % 15)) : Nat) : Int) - 1) 0) ((((2 + (n % 15)) : Nat) : Int) - 1) 0).takeP 0).Bytes).map encB)] hs142
      refine g_yes (yl (dj := 103) (b := true) rfl rfl (congrArg Value.bool hc139)) ?_
      refine st (v := .bool (decide ((nt120.lost : Int) = 0))) (x_eql (k := .i64) (a := nt120.lost) (b := 0) (.tmp rfl rfl) .const) ?_
      refine st (v := .bool (decide ((nt120.lost : Int) = 0))) (x_pick_t (.tmp rfl (congrArg Value.bool hc139)) (.tmp rfl rfl)) ?_
      refine st (v := .bool (decide ((nt120.lost : Int) = 0))) (x_assign (.tmp rfl rfl)) ?_
      refine c_nil ?_
      refine n_then ?_
      refine c_ret ?_
      refine r_then ?_
      refine leave_ret (res_one (v := .bool (decide ((nt120.lost : Int) = 0))) rfl (.mk rfl rfl)) ?_
      have hyes : (decide ((nt120.lost : Int) = 0)) = true := (decide_eq_true (by rw [hA7.lost]))
      rw [hyes]
      exact ⟨rfl, hs143.drop.drop.drop.drop.netDrop⟩
    · refine g_no (yl (dj := 60) (b := false) rfl rfl (congrArg Value.bool hc64)) rfl ?_
      refine g_no (yl (dj := 60) (b := false) rfl rfl (congrArg Value.bool hc64)) rfl ?_
      refine g_no (yl (dj := 60) (b := false) rfl rfl (congrArg Value.bool hc64)) rfl ?_
      refine g_no (yl (dj := 60) (b := false) rfl rfl (congrArg Value.bool hc64)) rfl ?_
      refine g_no (yl (dj := 60) (b := false) rfl rfl (congrArg Value.bool hc64)) rfl ?_
      refine st (v := .bool false) (x_pick_f (.tmp rfl (congrArg Value.bool hc64)) .const) ?_
      refine c_nil ?_
      refine n_then ?_
      refine c_cond_f (t := false) (.tmp rfl rfl) rfl ?_
      refine c_skip ?_
      refine n_then ?_
      refine c_seq ?_
      refine c_region ?_
      have hA5 := hA4
      refine st (v := .pointer (some ⟨g8, 0, none⟩)) (x_move (.tmp rfl rfl)) ?_
      have hs144 : St H _ (netG 64 37 3 5 g8 (NetS.setH wto (NetS.setH wto nt39 0 ((((2 + (n % 15)) : Nat) : Int) - 1)) ((((2 + (n % 15)) : Nat) : Int) - 1) 0) vb57 cb58 vt59 ct60 (L)) := St.netUp [] hs62
      refine st_c cb22 .func (evs2 (.tmp rfl rfl) .const) (Take_spec hs144 ok61 0 ⟨by omega, by omega⟩ (by have := hA5.lost; omega)) ?_
      rintro e w145 ⟨v147, nt161, vb156, cb157, vt158, ct159, rfl, ⟨b152, b153⟩, ⟨b154, b155⟩, sm148, ok149, lb150, ok160, hnt162, hs146⟩
      refine ⟨_, rfl, ?_⟩
      have hs163 := St.netUp [row 5 1 v147 (((NetS.setH wto (NetS.setH wto nt39 0 ((((2 + (n % 15)) : Nat) : Int) - 1)) ((((2 + (n % 15)) : Nat) : Int) - 1) 0).takeP 0).Bytes.length) ((((NetS.setH wto (NetS.setH wto nt39 0 ((((2 + (n % 15)) : Nat) : Int) - 1)) ((((2 + (n % 15)) : Nat) : Int) - 1) 0).takeP 0).Bytes).map encB)] hs146
      have hs164 : St H _ (row 5 1 v147 (((NetS.setH wto (NetS.setH wto nt39 0 ((((2 + (n % 15)) : Nat) : Int) - 1)) ((((2 + (n % 15)) : Nat) : Int) - 1) 0).takeP 0).Bytes.length) ((((NetS.setH wto (NetS.setH wto nt39 0 ((((2 + (n % 15)) : Nat) : Int) - 1)) ((((2 + (n % 15)) : Nat) : Int) - 1) 0).takeP 0).Bytes).map encB) :: netG 64 37 3 5 g8 nt161 vb156 cb157 vt158 ct159 (L)) := St.netDown [row 5 1 v147 (((NetS.setH wto (NetS.setH wto nt39 0 ((((2 + (n % 15)) : Nat) : Int) - 1)) ((((2 + (n % 15)) : Nat) : Int) - 1) 0).takeP 0).Bytes.length) ((((NetS.setH wto (NetS.setH wto nt39 0 ((((2 + (n % 15)) : Nat) : Int) - 1)) ((((2 + (n % 15)) : Nat) : Int) - 1) 0).takeP 0).Bytes).map encB)] hs163
      refine st (v := .tuple #[.agg #[.int .i64 (((NetS.setH wto (NetS.setH wto nt39 0 ((((2 + (n % 15)) : Nat) : Int) - 1)) ((((2 + (n % 15)) : Nat) : Int) - 1) 0).takeP 0).From), .int .i64 (((NetS.setH wto (NetS.setH wto nt39 0 ((((2 + (n % 15)) : Nat) : Int) - 1)) ((((2 + (n % 15)) : Nat) : Int) - 1) 0).takeP 0).To), v147], .int .i64 ((NetS.setH wto (NetS.setH wto nt39 0 ((((2 + (n % 15)) : Nat) : Int) - 1)) ((((2 + (n % 15)) : Nat) : Int) - 1) 0).takeE 0)]) (x_move (.tmp rfl rfl)) ?_
      refine st (v := .agg #[.int .i64 (((NetS.setH wto (NetS.setH wto nt39 0 ((((2 + (n % 15)) : Nat) : Int) - 1)) ((((2 + (n % 15)) : Nat) : Int) - 1) 0).takeP 0).From), .int .i64 (((NetS.setH wto (NetS.setH wto nt39 0 ((((2 + (n % 15)) : Nat) : Int) - 1)) ((((2 + (n % 15)) : Nat) : Int) - 1) 0).takeP 0).To), v147]) (x_extract (.tmp rfl rfl) (i := 0) rfl) ?_
      refine st (v := .int .i64 ((NetS.setH wto (NetS.setH wto nt39 0 ((((2 + (n % 15)) : Nat) : Int) - 1)) ((((2 + (n % 15)) : Nat) : Int) - 1) 0).takeE 0)) (x_extract (.tmp rfl rfl) (i := 1) rfl) ?_
      refine st_m (al37 (cs := [.int .i64 0, .int .i64 0, .slice none 0 0]) hs164 rfl) ?_
      rintro _ w166 ⟨g165, rfl, hs168⟩
      refine st_m0 (sto37 (cs' := [.int .i64 (((NetS.setH wto (NetS.setH wto nt39 0 ((((2 + (n % 15)) : Nat) : Int) - 1)) ((((2 + (n % 15)) : Nat) : Int) - 1) 0).takeP 0).From), .int .i64 (((NetS.setH wto (NetS.setH wto nt39 0 ((((2 + (n % 15)) : Nat) : Int) - 1)) ((((2 + (n % 15)) : Nat) : Int) - 1) 0).takeP 0).To), v147]) (i := 0) hs168 (v := .agg #[.int .i64 (((NetS.setH wto (NetS.setH wto nt39 0 ((((2 + (n % 15)) : Nat) : Int) - 1)) ((((2 + (n % 15)) : Nat) : Int) - 1) 0).takeP 0).From), .int .i64 (((NetS.setH wto (NetS.setH wto nt39 0 ((((2 + (n % 15)) : Nat) : Int) - 1)) ((((2 + (n % 15)) : Nat) : Int) - 1) 0).takeP 0).To), v147]) (.tmp rfl rfl) (.tmp rfl rfl) rfl (Nat.le_of_ble_eq_true rfl) (oneA (allC rfl (allC rfl (allC (RowOk.oneC ok149) rfl)))) rfl) ?_
      rintro w169 hs171
      refine st (v := .int .i64 ((NetS.setH wto (NetS.setH wto nt39 0 ((((2 + (n % 15)) : Nat) : Int) - 1)) ((((2 + (n % 15)) : Nat) : Int) - 1) 0).takeE 0)) (x_assign (.tmp rfl rfl)) ?_
      refine c_nil ?_
      refine n_then ?_
      refine c_seq ?_
      refine c_region ?_
      have hT1 := hA5.takeCut hA5.far
      have hA6 : CutsAt nt161 ((2 + n % 15 : Nat) : Int) [⟨0, 0, v_41, p⟩] (0 + 1) true := by rw [hnt162]; exact hT1.2.2
      skip
      skip
      refine st (v := .pointer (some ⟨g8, 0, none⟩)) (x_move (.tmp rfl rfl)) ?_
      have hs172 : St H _ (netG 64 37 3 5 g8 nt161 vb156 cb157 vt158 ct159 (obj g165 37 [.int .i64 (((NetS.setH wto (NetS.setH wto nt39 0 ((((2 + (n % 15)) : Nat) : Int) - 1)) ((((2 + (n % 15)) : Nat) : Int) - 1) 0).takeP 0).From), .int .i64 (((NetS.setH wto (NetS.setH wto nt39 0 ((((2 + (n % 15)) : Nat) : Int) - 1)) ((((2 + (n % 15)) : Nat) : Int) - 1) 0).takeP 0).To), v147] :: row 5 1 v147 (((NetS.setH wto (NetS.setH wto nt39 0 ((((2 + (n % 15)) : Nat) : Int) - 1)) ((((2 + (n % 15)) : Nat) : Int) - 1) 0).takeP 0).Bytes.length) ((((NetS.setH wto (NetS.setH wto nt39 0 ((((2 + (n % 15)) : Nat) : Int) - 1)) ((((2 + (n % 15)) : Nat) : Int) - 1) 0).takeP 0).Bytes).map encB) :: L)) := St.netUp [obj g165 37 [.int .i64 (((NetS.setH wto (NetS.setH wto nt39 0 ((((2 + (n % 15)) : Nat) : Int) - 1)) ((((2 + (n % 15)) : Nat) : Int) - 1) 0).takeP 0).From), .int .i64 (((NetS.setH wto (NetS.setH wto nt39 0 ((((2 + (n % 15)) : Nat) : Int) - 1)) ((((2 + (n % 15)) : Nat) : Int) - 1) 0).takeP 0).To), v147], row 5 1 v147 (((NetS.setH wto (NetS.setH wto nt39 0 ((((2 + (n % 15)) : Nat) : Int) - 1)) ((((2 + (n % 15)) : Nat) : Int) - 1) 0).takeP 0).Bytes.length) ((((NetS.setH wto (NetS.setH wto nt39 0 ((((2 + (n % 15)) : Nat) : Int) - 1)) ((((2 + (n % 15)) : Nat) : Int) - 1) 0).takeP 0).Bytes).map encB)] hs171
      refine st_c cb22 .func (evs2 (.tmp rfl rfl) .const) (Take_spec hs172 ok160 0 ⟨by omega, by omega⟩ (by have := hA6.lost; omega)) ?_
      rintro e w173 ⟨v175, nt189, vb184, cb185, vt186, ct187, rfl, ⟨b180, b181⟩, ⟨b182, b183⟩, sm176, ok177, lb178, ok188, hnt190, hs174⟩
      refine ⟨_, rfl, ?_⟩
      have hs191 := St.netUp [row 5 1 v175 ((nt161.takeP 0).Bytes.length) (((nt161.takeP 0).Bytes).map encB)] hs174
      have hs192 : St H _ (row 5 1 v175 ((nt161.takeP 0).Bytes.length) (((nt161.takeP 0).Bytes).map encB) :: obj g165 37 [.int .i64 (((NetS.setH wto (NetS.setH wto nt39 0 ((((2 + (n % 15)) : Nat) : Int) - 1)) ((((2 + (n % 15)) : Nat) : Int) - 1) 0).takeP 0).From), .int .i64 (((NetS.setH wto (NetS.setH wto nt39 0 ((((2 + (n % 15)) : Nat) : Int) - 1)) ((((2 + (n % 15)) : Nat) : Int) - 1) 0).takeP 0).To), v147] :: row 5 1 v147 (((NetS.setH wto (NetS.setH wto nt39 0 ((((2 + (n % 15)) : Nat) : Int) - 1)) ((((2 + (n % 15)) : Nat) : Int) - 1) 0).takeP 0).Bytes.length) ((((NetS.setH wto (NetS.setH wto nt39 0 ((((2 + (n % 15)) : Nat) : Int) - 1)) ((((2 + (n % 15)) : Nat) : Int) - 1) 0).takeP 0).Bytes).map encB) :: netG 64 37 3 5 g8 nt189 vb184 cb185 vt186 ct187 (L)) := St.netDown [row 5 1 v175 ((nt161.takeP 0).Bytes.length) (((nt161.takeP 0).Bytes).map encB), obj g165 37 [.int .i64 (((NetS.setH wto (NetS.setH wto nt39 0 ((((2 + (n % 15)) : Nat) : Int) - 1)) ((((2 + (n % 15)) : Nat) : Int) - 1) 0).takeP 0).From), .int .i64 (((NetS.setH wto (NetS.setH wto nt39 0 ((((2 + (n % 15)) : Nat) : Int) - 1)) ((((2 + (n % 15)) : Nat) : Int) - 1) 0).takeP 0).To), v147], row 5 1 v147 (((NetS.setH wto (NetS.setH wto nt39 0 ((((2 + (n % 15)) : Nat) : Int) - 1)) ((((2 + (n % 15)) : Nat) : Int) - 1) 0).takeP 0).Bytes.length) ((((NetS.setH wto (NetS.setH wto nt39 0 ((((2 + (n % 15)) : Nat) : Int) - 1)) ((((2 + (n % 15)) : Nat) : Int) - 1) 0).takeP 0).Bytes).map encB)] hs191
      refine st (v := .tuple #[.agg #[.int .i64 ((nt161.takeP 0).From), .int .i64 ((nt161.takeP 0).To), v175], .int .i64 (nt161.takeE 0)]) (x_move (.tmp rfl rfl)) ?_
      refine st (v := .agg #[.int .i64 ((nt161.takeP 0).From), .int .i64 ((nt161.takeP 0).To), v175]) (x_extract (.tmp rfl rfl) (i := 0) rfl) ?_
      refine st (v := .int .i64 (nt161.takeE 0)) (x_extract (.tmp rfl rfl) (i := 1) rfl) ?_
      refine st_m (al37 (cs := [.int .i64 0, .int .i64 0, .slice none 0 0]) hs192 rfl) ?_
      rintro _ w194 ⟨g193, rfl, hs196⟩
      refine st_m0 (sto37 (cs' := [.int .i64 ((nt161.takeP 0).From), .int .i64 ((nt161.takeP 0).To), v175]) (i := 0) hs196 (v := .agg #[.int .i64 ((nt161.takeP 0).From), .int .i64 ((nt161.takeP 0).To), v175]) (.tmp rfl rfl) (.tmp rfl rfl) rfl (Nat.le_of_ble_eq_true rfl) (oneA (allC rfl (allC rfl (allC (RowOk.oneC ok177) rfl)))) rfl) ?_
      rintro w197 hs199
      refine st (v := .int .i64 (nt161.takeE 0)) (x_assign (.tmp rfl rfl)) ?_
      refine c_nil ?_
      refine n_then ?_
      refine c_seq ?_
      refine c_seq ?_
      refine c_region ?_
      have hT2 := hA6.take hA6.near
      have hA7 : CutsAt nt189 ((2 + n % 15 : Nat) : Int) [] (0 + 1) true := by rw [hnt190]; exact hT2.2.2
      skip
      refine st (v := .int .i64 (nt161.takeE 0)) (x_move (.tmp rfl rfl)) ?_
      refine st (v := .bool (decide (((nt161.takeE 0) : Int) ≠ 0))) (x_neq (k := .i64) (a := (nt161.takeE 0)) (b := 0) (.tmp rfl rfl) .const) ?_
      refine st (v := .bool (decide (((nt161.takeE 0) : Int) ≠ 0))) (x_move (.tmp rfl rfl)) ?_
      have hc200 : (decide (((nt161.takeE 0) : Int) ≠ 0)) = false := (by rw [hT2.1]; decide)
      refine g_yes (yl (dj := 79) (b := false) rfl rfl (congrArg Value.bool hc200)) ?_
      refine st (v := .pointer (some ⟨g193, 0 + 2, none⟩)) (fa37_2 (.tmp rfl rfl)) ?_
      refine g_yes (yl (dj := 79) (b := false) rfl rfl (congrArg Value.bool hc200)) ?_
      refine st (v := v175) (ld22 (.tmp rfl rfl) (hs199.cell 0 rfl (0 + 2) rfl)) ?_
      refine g_yes (yl (dj := 79) (b := false) rfl rfl (congrArg Value.bool hc200)) ?_
      refine st (v := .string (bstr ((nt161.takeP 0).Bytes))) (hs199.rowStr Tryd.underlying22 Tryd.underlying5 Tryd.underlying9 1 rfl ok177 (.tmp rfl rfl)) ?_
      refine g_yes (yl (dj := 79) (b := false) rfl rfl (congrArg Value.bool hc200)) ?_
      refine st (v := .slice A_p n_p c_p) (x_move (.tmp rfl rfl)) ?_
      refine g_yes (yl (dj := 79) (b := false) rfl rfl (congrArg Value.bool hc200)) ?_
      refine st (v := .string (bstr p)) (h_p.toBs.str Tryd.underlying22 Tryd.underlying5 Tryd.underlying9 hs199 (.tmp rfl rfl)) ?_
      refine g_yes (yl (dj := 79) (b := false) rfl rfl (congrArg Value.bool hc200)) ?_
      refine st (v := .bool (!decide ((bstr ((nt161.takeP 0).Bytes)) = (bstr p)))) (x_neqS (.tmp rfl rfl) (.tmp rfl rfl)) ?_
      refine st (v := .bool (!decide ((bstr ((nt161.takeP 0).Bytes)) = (bstr p)))) (x_pick_f (.tmp rfl (congrArg Value.bool hc200)) (.tmp rfl rfl)) ?_
      refine st (v := .bool (!decide ((bstr ((nt161.takeP 0).Bytes)) = (bstr p)))) (x_move (.tmp rfl rfl)) ?_
      have hc201 : (decide ((bstr ((nt161.takeP 0).Bytes)) = (bstr p))) = true := (decide_eq_true (by rw [hT2.2.1]))
      refine g_yes (yl (dj := 87) (b := false) rfl rfl (congrArg Value.bool (by rw [hc201]; rfl))) ?_
      refine st (v := .pointer (some ⟨g8, 0, none⟩)) (x_move (.tmp rfl rfl)) ?_
      refine g_yes (yl (dj := 87) (b := false) rfl rfl (congrArg Value.bool (by rw [hc201]; rfl))) ?_
      have hs202 : St H _ (netG 64 37 3 5 g8 nt189 vb184 cb185 vt186 ct187 (obj g193 37 [.int .i64 ((nt161.takeP 0).From), .int .i64 ((nt161.takeP 0).To), v175] :: row 5 1 v175 ((nt161.takeP 0).Bytes.length) (((nt161.takeP 0).Bytes).map encB) :: obj g165 37 [.int .i64 (((NetS.setH wto (NetS.setH wto nt39 0 ((((2 + (n % 15)) : Nat) : Int) - 1)) ((((2 + (n % 15)) : Nat) : Int) - 1) 0).takeP 0).From), .int .i64 (((NetS.setH wto (NetS.setH wto nt39 0 ((((2 + (n % 15)) : Nat) : Int) - 1)) ((((2 + (n % 15)) : Nat) : Int) - 1) 0).takeP 0).To), v147] :: row 5 1 v147 (((NetS.setH wto (NetS.setH wto nt39 0 ((((2 + (n % 15)) : Nat) : Int) - 1)) ((((2 + (n % 15)) : Nat) : Int) - 1) 0).takeP 0).Bytes.length) ((((NetS.setH wto (NetS.setH wto nt39 0 ((((2 + (n % 15)) : Nat) : Int) - 1)) ((((2 + (n % 15)) : Nat) : Int) - 1) 0).takeP 0).Bytes).map encB) :: L)) := St.netUp [obj g193 37 [.int .i64 ((nt161.takeP 0).From), .int .i64 ((nt161.takeP 0).To), v175], row 5 1 v175 ((nt161.takeP 0).Bytes.length) (((nt161.takeP 0).Bytes).map encB), obj g165 37 [.int .i64 (((NetS.setH wto (NetS.setH wto nt39 0 ((((2 + (n % 15)) : Nat) : Int) - 1)) ((((2 + (n % 15)) : Nat) : Int) - 1) 0).takeP 0).From), .int .i64 (((NetS.setH wto (NetS.setH wto nt39 0 ((((2 + (n % 15)) : Nat) : Int) - 1)) ((((2 + (n % 15)) : Nat) : Int) - 1) 0).takeP 0).To), v147], row 5 1 v147 (((NetS.setH wto (NetS.setH wto nt39 0 ((((2 + (n % 15)) : Nat) : Int) - 1)) ((((2 + (n % 15)) : Nat) : Int) - 1) 0).takeP 0).Bytes.length) ((((NetS.setH wto (NetS.setH wto nt39 0 ((((2 + (n % 15)) : Nat) : Int) - 1)) ((((2 + (n % 15)) : Nat) : Int) - 1) 0).takeP 0).Bytes).map encB)] hs199
      refine st_c cb15 .func (evs3 (.tmp rfl rfl) .const .const) (hear_spec hs202 ok188 0 ⟨by omega, by omega⟩ 0 ⟨by omega, by omega⟩ ) ?_
      rintro e w203 ⟨rfl, hs204⟩
      refine ⟨_, rfl, ?_⟩
      have hs205 : St H _ (obj g193 37 [.int .i64 ((nt161.takeP 0).From), .int .i64 ((nt161.takeP 0).To), v175] :: row 5 1 v175 ((nt161.takeP 0).Bytes.length) (((nt161.takeP 0).Bytes).map encB) :: obj g165 37 [.int .i64 (((NetS.setH wto (NetS.setH wto nt39 0 ((((2 + (n % 15)) : Nat) : Int) - 1)) ((((2 + (n % 15)) : Nat) : Int) - 1) 0).takeP 0).From), .int .i64 (((NetS.setH wto (NetS.setH wto nt39 0 ((((2 + (n % 15)) : Nat) : Int) - 1)) ((((2 + (n % 15)) : Nat) : Int) - 1) 0).takeP 0).To), v147] :: row 5 1 v147 (((NetS.setH wto (NetS.setH wto nt39 0 ((((2 + (n % 15)) : Nat) : Int) - 1)) ((((2 + (n % 15)) : Nat) : Int) - 1) 0).takeP 0).Bytes.length) ((((NetS.setH wto (NetS.setH wto nt39 0 ((((2 + (n % 15)) : Nat) : Int) - 1)) ((((2 + (n % 15)) : Nat) : Int) - 1) 0).takeP 0).Bytes).map encB) :: netG 64 37 3 5 g8 nt189 vb184 cb185 vt186 ct187 (L)) := St.netDown [obj g193 37 [.int .i64 ((nt161.takeP 0).From), .int .i64 ((nt161.takeP 0).To), v175], row 5 1 v175 ((nt161.takeP 0).Bytes.length) (((nt161.takeP 0).Bytes).map encB), obj g165 37 [.int .i64 (((NetS.setH wto (NetS.setH wto nt39 0 ((((2 + (n % 15)) : Nat) : Int) - 1)) ((((2 + (n % 15)) : Nat) : Int) - 1) 0).takeP 0).From), .int .i64 (((NetS.setH wto (NetS.setH wto nt39 0 ((((2 + (n % 15)) : Nat) : Int) - 1)) ((((2 + (n % 15)) : Nat) : Int) - 1) 0).takeP 0).To), v147], row 5 1 v147 (((NetS.setH wto (NetS.setH wto nt39 0 ((((2 + (n % 15)) : Nat) : Int) - 1)) ((((2 + (n % 15)) : Nat) : Int) - 1) 0).takeP 0).Bytes.length) ((((NetS.setH wto (NetS.setH wto nt39 0 ((((2 + (n % 15)) : Nat) : Int) - 1)) ((((2 + (n % 15)) : Nat) : Int) - 1) 0).takeP 0).Bytes).map encB)] hs204
      refine g_yes (yl (dj := 87) (b := false) rfl rfl (congrArg Value.bool (by rw [hc201]; rfl))) ?_
      refine st (v := .bool (!(nt189.hears 0 0))) (x_not (.tmp rfl rfl)) ?_
      refine st (v := .bool (!(nt189.hears 0 0))) (x_pick_f (.tmp rfl (congrArg Value.bool (by rw [hc201]; rfl))) (.tmp rfl rfl)) ?_
      refine c_nil ?_
      refine n_then ?_
      have hc206 : (nt189.hears 0 0) = true := hA7.near
      refine c_cond_f (t := false) (.tmp rfl (congrArg Value.bool (by rw [hc206]; rfl))) rfl ?_
      refine c_skip ?_
      refine n_then ?_
      refine c_seq ?_
      refine c_seq ?_
      refine c_region ?_
      refine st (v := .bool false) (x_move (.tmp rfl (congrArg Value.bool hc64))) ?_
      refine c_nil ?_
      refine n_then ?_
      refine c_cond_f (t := false) (.tmp rfl rfl) rfl ?_
      refine c_skip ?_
      refine n_then ?_
      refine c_seq ?_
      refine c_region ?_
      refine st (v := .int .i64 ((NetS.setH wto (NetS.setH wto nt39 0 ((((2 + (n % 15)) : Nat) : Int) - 1)) ((((2 + (n % 15)) : Nat) : Int) - 1) 0).takeE 0)) (x_move (.tmp rfl rfl)) ?_
      refine st (v := .bool (decide ((((NetS.setH wto (NetS.setH wto nt39 0 ((((2 + (n % 15)) : Nat) : Int) - 1)) ((((2 + (n % 15)) : Nat) : Int) - 1) 0).takeE 0) : Int) = 10))) (x_eql (k := .i64) (a := ((NetS.setH wto (NetS.setH wto nt39 0 ((((2 + (n % 15)) : Nat) : Int) - 1)) ((((2 + (n % 15)) : Nat) : Int) - 1) 0).takeE 0)) (b := 10) (.tmp rfl rfl) .const) ?_
      refine st (v := .bool (decide ((((NetS.setH wto (NetS.setH wto nt39 0 ((((2 + (n % 15)) : Nat) : Int) - 1)) ((((2 + (n % 15)) : Nat) : Int) - 1) 0).takeE 0) : Int) = 10))) (x_move (.tmp rfl rfl)) ?_
      have hc207 : (decide ((((NetS.setH wto (NetS.setH wto nt39 0 ((((2 + (n % 15)) : Nat) : Int) - 1)) ((((2 + (n % 15)) : Nat) : Int) - 1) 0).takeE 0) : Int) = 10)) = true := (by rw [hT1.1]; decide)
      refine g_yes (yl (dj := 110) (b := true) rfl rfl (congrArg Value.bool hc207)) ?_
      refine st (v := .pointer (some ⟨g165, 0 + 2, none⟩)) (fa37_2 (.tmp rfl rfl)) ?_
      refine g_yes (yl (dj := 110) (b := true) rfl rfl (congrArg Value.bool hc207)) ?_
      refine st (v := v147) (ld22 (.tmp rfl rfl) (hs205.cell 2 rfl (0 + 2) rfl)) ?_
      refine g_yes (yl (dj := 110) (b := true) rfl rfl (congrArg Value.bool hc207)) ?_
      obtain ⟨A208, c209, hv210, hc211⟩ := ok149.slice
      refine st (v := .int .i64 ((((NetS.setH wto (NetS.setH wto nt39 0 ((((2 + (n % 15)) : Nat) : Int) - 1)) ((((2 + (n % 15)) : Nat) : Int) - 1) 0).takeP 0).Bytes.length : Nat) : Int)) (x_len (n := ((NetS.setH wto (NetS.setH wto nt39 0 ((((2 + (n % 15)) : Nat) : Int) - 1)) ((((2 + (n % 15)) : Nat) : Int) - 1) 0).takeP 0).Bytes.length) Tryd.underlying22 (.tmp rfl hv210)) ?_
      refine g_yes (yl (dj := 110) (b := true) rfl rfl (congrArg Value.bool hc207)) ?_
      refine st (v := .bool (decide ((((((NetS.setH wto (NetS.setH wto nt39 0 ((((2 + (n % 15)) : Nat) : Int) - 1)) ((((2 + (n % 15)) : Nat) : Int) - 1) 0).takeP 0).Bytes.length : Nat) : Int) : Int) = 0))) (x_eql (k := .i64) (a := ((((NetS.setH wto (NetS.setH wto nt39 0 ((((2 + (n % 15)) : Nat) : Int) - 1)) ((((2 + (n % 15)) : Nat) : Int) - 1) 0).takeP 0).Bytes.length : Nat) : Int)) (b := 0) (.tmp rfl rfl) .const) ?_
      refine st (v := .bool (decide ((((((NetS.setH wto (NetS.setH wto nt39 0 ((((2 + (n % 15)) : Nat) : Int) - 1)) ((((2 + (n % 15)) : Nat) : Int) - 1) 0).takeP 0).Bytes.length : Nat) : Int) : Int) = 0))) (x_pick_t (.tmp rfl (congrArg Value.bool hc207)) (.tmp rfl rfl)) ?_
      refine st (v := .bool (decide ((((((NetS.setH wto (NetS.setH wto nt39 0 ((((2 + (n % 15)) : Nat) : Int) - 1)) ((((2 + (n % 15)) : Nat) : Int) - 1) 0).takeP 0).Bytes.length : Nat) : Int) : Int) = 0))) (x_move (.tmp rfl rfl)) ?_
      have hc212 : (decide ((((((NetS.setH wto (NetS.setH wto nt39 0 ((((2 + (n % 15)) : Nat) : Int) - 1)) ((((2 + (n % 15)) : Nat) : Int) - 1) 0).takeP 0).Bytes.length : Nat) : Int) : Int) = 0)) = true := (decide_eq_true (by rw [hT1.2.1]; rfl))
      refine g_yes (yl (dj := 116) (b := true) rfl rfl (congrArg Value.bool hc212)) ?_
      refine st (v := .pointer (some ⟨g8, 0, none⟩)) (x_move (.tmp rfl rfl)) ?_
      refine g_yes (yl (dj := 116) (b := true) rfl rfl (congrArg Value.bool hc212)) ?_
      have hs213 : St H _ (netG 64 37 3 5 g8 nt189 vb184 cb185 vt186 ct187 (obj g193 37 [.int .i64 ((nt161.takeP 0).From), .int .i64 ((nt161.takeP 0).To), v175] :: row 5 1 v175 ((nt161.takeP 0).Bytes.length) (((nt161.takeP 0).Bytes).map encB) :: obj g165 37 [.int .i64 (((NetS.setH wto (NetS.setH wto nt39 0 ((((2 + (n % 15)) : Nat) : Int) - 1)) ((((2 + (n % 15)) : Nat) : Int) - 1) 0).takeP 0).From), .int .i64 (((NetS.setH wto (NetS.setH wto nt39 0 ((((2 + (n % 15)) : Nat) : Int) - 1)) ((((2 + (n % 15)) : Nat) : Int) - 1) 0).takeP 0).To), v147] :: row 5 1 v147 (((NetS.setH wto (NetS.setH wto nt39 0 ((((2 + (n % 15)) : Nat) : Int) - 1)) ((((2 + (n % 15)) : Nat) : Int) - 1) 0).takeP 0).Bytes.length) ((((NetS.setH wto (NetS.setH wto nt39 0 ((((2 + (n % 15)) : Nat) : Int) - 1)) ((((2 + (n % 15)) : Nat) : Int) - 1) 0).takeP 0).Bytes).map encB) :: L)) := St.netUp [obj g193 37 [.int .i64 ((nt161.takeP 0).From), .int .i64 ((nt161.takeP 0).To), v175], row 5 1 v175 ((nt161.takeP 0).Bytes.length) (((nt161.takeP 0).Bytes).map encB), obj g165 37 [.int .i64 (((NetS.setH wto (NetS.setH wto nt39 0 ((((2 + (n % 15)) : Nat) : Int) - 1)) ((((2 + (n % 15)) : Nat) : Int) - 1) 0).takeP 0).From), .int .i64 (((NetS.setH wto (NetS.setH wto nt39 0 ((((2 + (n % 15)) : Nat) : Int) - 1)) ((((2 + (n % 15)) : Nat) : Int) - 1) 0).takeP 0).To), v147], row 5 1 v147 (((NetS.setH wto (NetS.setH wto nt39 0 ((((2 + (n % 15)) : Nat) : Int) - 1)) ((((2 + (n % 15)) : Nat) : Int) - 1) 0).takeP 0).Bytes.length) ((((NetS.setH wto (NetS.setH wto nt39 0 ((((2 + (n % 15)) : Nat) : Int) - 1)) ((((2 + (n % 15)) : Nat) : Int) - 1) 0).takeP 0).Bytes).map encB)] hs205
      refine st_c cb23 .func (evs1 (.tmp rfl rfl)) (lost_spec hs213 ok188 ) ?_
      rintro e w214 ⟨rfl, hs215⟩
      refine ⟨_, rfl, ?_⟩
      have hs216 : St H _ (obj g193 37 [.int .i64 ((nt161.takeP 0).From), .int .i64 ((nt161.takeP 0).To), v175] :: row 5 1 v175 ((nt161.takeP 0).Bytes.length) (((nt161.takeP 0).Bytes).map encB) :: obj g165 37 [.int .i64 (((NetS.setH wto (NetS.setH wto nt39 0 ((((2 + (n % 15)) : Nat) : Int) - 1)) ((((2 + (n % 15)) : Nat) : Int) - 1) 0).takeP 0).From), .int .i64 (((NetS.setH wto (NetS.setH wto nt39 0 ((((2 + (n % 15)) : Nat) : Int) - 1)) ((((2 + (n % 15)) : Nat) : Int) - 1) 0).takeP 0).To), v147] :: row 5 1 v147 (((NetS.setH wto (NetS.setH wto nt39 0 ((((2 + (n % 15)) : Nat) : Int) - 1)) ((((2 + (n % 15)) : Nat) : Int) - 1) 0).takeP 0).Bytes.length) ((((NetS.setH wto (NetS.setH wto nt39 0 ((((2 + (n % 15)) : Nat) : Int) - 1)) ((((2 + (n % 15)) : Nat) : Int) - 1) 0).takeP 0).Bytes).map encB) :: netG 64 37 3 5 g8 nt189 vb184 cb185 vt186 ct187 (L)) := St.netDown [obj g193 37 [.int .i64 ((nt161.takeP 0).From), .int .i64 ((nt161.takeP 0).To), v175], row 5 1 v175 ((nt161.takeP 0).Bytes.length) (((nt161.takeP 0).Bytes).map encB), obj g165 37 [.int .i64 (((NetS.setH wto (NetS.setH wto nt39 0 ((((2 + (n % 15)) : Nat) : Int) - 1)) ((((2 + (n % 15)) : Nat) : Int) - 1) 0).takeP 0).From), .int .i64 (((NetS.setH wto (NetS.setH wto nt39 0 ((((2 + (n % 15)) : Nat) : Int) - 1)) ((((2 + (n % 15)) : Nat) : Int) - 1) 0).takeP 0).To), v147], row 5 1 v147 (((NetS.setH wto (NetS.setH wto nt39 0 ((((2 + (n % 15)) : Nat) : Int) - 1)) ((((2 + (n % 15)) : Nat) : Int) - 1) 0).takeP 0).Bytes.length) ((((NetS.setH wto (NetS.setH wto nt39 0 ((((2 + (n % 15)) : Nat) : Int) - 1)) ((((2 + (n % 15)) : Nat) : Int) - 1) 0).takeP 0).Bytes).map encB)] hs215
      refine g_yes (yl (dj := 116) (b := true) rfl rfl (congrArg Value.bool hc212)) ?_
      refine st (v := .bool (decide ((nt189.lost : Int) = 1))) (x_eql (k := .i64) (a := nt189.lost) (b := 1) (.tmp rfl rfl) .const) ?_
      refine st (v := .bool (decide ((nt189.lost : Int) = 1))) (x_pick_t (.tmp rfl (congrArg Value.bool hc212)) (.tmp rfl rfl)) ?_
      refine st (v := .bool (decide ((nt189.lost : Int) = 1))) (x_assign (.tmp rfl rfl)) ?_
      refine c_nil ?_
      refine n_then ?_
      refine c_ret ?_
      refine leave_ret (res_one (v := .bool (decide ((nt189.lost : Int) = 1))) rfl (.mk rfl rfl)) ?_
      have hyes : (decide ((nt189.lost : Int) = 1)) = true := (decide_eq_true (by rw [hA7.lost]; rfl))
      rw [hyes]
      exact ⟨rfl, hs216.drop.drop.drop.drop.netDrop⟩

end Go.Proofs.YtojlmilkdijiaaaDoor
