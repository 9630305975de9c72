/- Steps of the proofs over the functions of this seat, printed by a program (gen.py) and checked by Lean. -/
import Derived.Test.YtojlmilkdijiaaaDoorUty
import Derived.Test.YtojlmilkdijiaaaDoorFmM4b
import Derived.Test.YtojlmilkdijiaaaDoorFmP
import Derived.Test.YtojlmilkdijiaaaDoorFmN7
import Derived.Test.YtojlmilkdijiaaaDoorU8d
set_option linter.unusedVariables false
set_option linter.unusedSimpArgs false
namespace Go.Proofs.YtojlmilkdijiaaaDoor
open Go Go.FM Go.Proofs
attribute [local irreducible] wpList wpQuiet wpS Code.wp Calls
set_option maxHeartbeats 8000000 in
theorem full_spec {H : Hp} {w : World} {L : List Res} (hs : St H w (L)) {A_p : Option Addr} {n_p c_p : Nat} (p : List Nat) (h_p : By H A_p n_p c_p p) (htab : Tab H) : Calls Tryd.prog 6 #[.slice A_p n_p c_p] w (fun e w' => e = .returned (.bool true) ∧ St H w' (L)) := by
  have := h_p.len; have := h_p.le; have := h_p.bnd
  refine enter (args := [.slice A_p n_p c_p]) (N := 76) Tryd.func6 rfl rfl rfl ?_
  refine c_seq ?_
  refine c_region ?_
  refine st (v := .bool false) (x_assign .const) ?_
  refine c_nil ?_
  refine n_then ?_
  refine c_seq ?_
  refine c_seq ?_
  refine c_region ?_
  refine st_c cb11 .func (evs0 ) (awake_spec hs  htab) ?_
  rintro e w1 ⟨rfl, hs2⟩
  refine ⟨_, rfl, ?_⟩
  refine st (v := .bool false) (x_not (b := true) (.tmp rfl rfl)) ?_
  refine st (v := .bool false) (x_move (.tmp rfl rfl)) ?_
  refine g_yes (yl (dj := 13) (b := false) rfl rfl rfl) ?_
  refine st (v := .slice A_p n_p c_p) (x_move (.tmp rfl rfl)) ?_
  refine g_yes (yl (dj := 13) (b := false) rfl rfl rfl) ?_
  refine st (v := .int .i64 ((n_p : Nat) : Int)) (x_len (n := n_p) Tryd.underlying22 (.tmp rfl rfl)) ?_
  refine g_yes (yl (dj := 13) (b := false) rfl rfl rfl) ?_
  refine st (v := .bool (decide ((100 : Int) < ((n_p : Nat) : Int)))) (x_gtr (k := .i64) (a := ((n_p : Nat) : Int)) (b := 100) (.tmp rfl rfl) .const) ?_
  refine st (v := .bool (decide ((100 : Int) < ((n_p : Nat) : Int)))) (x_pick_f (.tmp rfl rfl) (.tmp rfl rfl)) ?_
  refine c_nil ?_
  refine n_then ?_
  rcases Bool.eq_false_or_eq_true (decide ((100 : Int) < ((n_p : Nat) : Int))) with hc3 | hc3
  · have hp3 : (100 : Int) < ((n_p : Nat) : Int) := of_decide_eq_true hc3
    refine c_cond_t (t := true) (.tmp rfl (congrArg Value.bool hc3)) rfl ?_
    refine c_seq ?_
    refine c_region ?_
    refine st_c cb11 .func (evs0 ) (awake_spec hs2  htab) ?_
    rintro e w4 ⟨rfl, hs5⟩
    refine ⟨_, rfl, ?_⟩
    refine st (v := .bool true) (x_assign (.tmp rfl rfl)) ?_
    refine c_nil ?_
    refine n_then ?_
    refine c_ret ?_
    refine r_then ?_
    refine leave_ret (res_one (v := .bool true) rfl (.mk rfl rfl)) ?_
    exact ⟨rfl, hs5⟩
  · have hp3 : ¬ ((100 : Int) < ((n_p : Nat) : Int)) := of_decide_eq_false hc3
    refine c_cond_f (t := false) (.tmp rfl (congrArg Value.bool hc3)) rfl ?_
    refine c_skip ?_
    refine n_then ?_
    refine c_seq ?_
    refine c_region ?_
    refine st_c cb12 .func (evs1 .const) (new_spec hs2 2 ⟨by omega, by omega⟩ (by omega) (by omega)) ?_
    rintro e w6 ⟨g8, vb9, cb10, vt11, ct12, rfl, ok13, hs7⟩
    refine ⟨_, rfl, ?_⟩
    refine st (v := .tuple #[.pointer (some ⟨g8, 0, none⟩), .int .i64 0]) (x_move (.tmp rfl rfl)) ?_
    refine st (v := .pointer (some ⟨g8, 0, none⟩)) (x_extract (.tmp rfl rfl) (i := 0) rfl) ?_
    refine st (v := .int .i64 0) (x_extract (.tmp rfl rfl) (i := 1) rfl) ?_
    refine st (v := .pointer (some ⟨g8, 0, none⟩)) (x_assign (.tmp rfl rfl)) ?_
    refine st (v := .int .i64 0) (x_assign (.tmp rfl rfl)) ?_
    refine c_nil ?_
    refine n_then ?_
    refine c_seq ?_
    refine c_seq ?_
    refine c_region ?_
    refine st (v := .int .i64 0) (x_assign .const) ?_
    refine c_nil ?_
    refine n_then ?_
    refine c_block ?_
    refine c_loop (fun ρ w mm => ∃ (i : Nat) (s : NetS) (vbs : Value) (cbs : List Value) (vts : Value) (cts : List Value), ρ 0 = .slice A_p n_p c_p ∧ ρ 3 = .pointer (some ⟨g8, 0, none⟩) ∧ ρ 5 = .int .i64 ((i : Nat) : Int) ∧ (NetOk H s vbs cbs vts cts) ∧ (FullAt s p i 0) ∧ (i ≤ 4096) ∧ St H w (netG 64 37 3 5 g8 s vbs cbs vts cts (L)) ∧ mm = 4096 - i) _ ⟨0, netNew 2, vb9, cb10, vt11, ct12, rfl, rfl, rfl, ok13, (FullAt.new p), (by omega), hs7, rfl⟩ ?_
    rintro ρ w mm ⟨i, s, vbs, cbs, vts, cts, hρ17, hρ18, hρ19, oks, hA, hi, hs20, rfl⟩
    refine c_seq ?_
    refine c_seq ?_
    refine c_region ?_
    refine st (v := .int .i64 ((i : Nat) : Int)) (x_move (.tmp rfl hρ19)) ?_
    refine st (v := .bool (decide ((((i : Nat) : Int) : Int) < 4096))) (x_lss (k := .i64) (a := ((i : Nat) : Int)) (b := 4096) (.tmp rfl rfl) .const) ?_
    refine c_nil ?_
    refine n_then ?_
    rcases Bool.eq_false_or_eq_true (decide ((((i : Nat) : Int) : Int) < 4096)) with hc21 | hc21
    · have hp21 : (((i : Nat) : Int) : Int) < 4096 := of_decide_eq_true hc21
      refine c_cond_t (t := true) (.tmp rfl (congrArg Value.bool hc21)) rfl ?_
      refine c_skip ?_
      refine n_then ?_
      refine c_seq ?_
      refine c_block ?_
      refine c_seq ?_
      refine c_region ?_
      refine st (v := .pointer (some ⟨g8, 0, none⟩)) (x_move (.tmp rfl hρ18)) ?_
      refine st (v := .slice A_p n_p c_p) (x_move (.tmp rfl hρ17)) ?_
      refine st (v := .agg #[.int .i64 1, .int .i64 0, .slice A_p n_p c_p]) (bl37 (ps := [(0, .int .i64 1), (2, .slice A_p n_p c_p)]) (.cons .const (.cons (.tmp rfl rfl) Evp.nil)) rfl) ?_
      have hs22 : St H _ (netG 64 37 3 5 g8 s vbs cbs vts cts (L)) := St.netUp [] hs20
      have hr23 : kPacket.rep H (GPacket.mk 1 0 p) [.int .i64 1, .int .i64 0, .slice A_p n_p c_p] := ⟨A_p, n_p, c_p, rfl, (show IB 1 from ⟨by omega, by omega⟩), (show IB 0 from ⟨by omega, by omega⟩), h_p⟩
      refine st_c cb17 .func (evs2 (.tmp rfl rfl) (.tmp rfl rfl)) (Put_spec hs22 oks (GPacket.mk 1 0 p) hr23 (by have h8 := hA.lost; omega)) ?_
      rintro e w24 ⟨nt31, vb26, cb27, vt28, ct29, v_33, rfl, ok30, hnt32, hs25⟩
      refine ⟨_, rfl, ?_⟩
      have hs34 : St H _ (netG 64 37 3 5 g8 nt31 vb26 cb27 vt28 ct29 (L)) := St.netDown [] hs25
      have hA2 : FullAt nt31 p (i + 1) 0 := by rw [hnt32]; exact hA.put (by omega) 0 _
      skip
      refine st (v := .bool (decide (((s.putE (GPacket.mk 1 0 p).From (GPacket.mk 1 0 p).To) : Int) ≠ 0))) (x_neq (k := .i64) (a := (s.putE (GPacket.mk 1 0 p).From (GPacket.mk 1 0 p).To)) (b := 0) (.tmp rfl rfl) .const) ?_
      refine c_nil ?_
      refine n_then ?_
      have hc35 : (decide (((s.putE (GPacket.mk 1 0 p).From (GPacket.mk 1 0 p).To) : Int) ≠ 0)) = false := (decide_eq_false (fun h => h (hA.putE (by omega))))
      refine c_cond_f (t := false) (.tmp rfl (congrArg Value.bool hc35)) rfl ?_
      refine c_skip ?_
      refine n_block ?_
      refine n_then ?_
      refine c_region ?_
      refine st (v := .int .i64 ((i : Nat) : Int)) (x_move (.tmp rfl hρ19)) ?_
      refine st (v := .int .i64 (((i + 1) : Nat) : Int)) (x_add (k := .i64) (a := ((i : Nat) : Int)) (b := 1) (.tmp rfl rfl) .const ((w64 (by omega) (by omega)).trans (by omega))) ?_
      refine st (v := .int .i64 (((i + 1) : Nat) : Int)) (x_assign (.tmp rfl rfl)) ?_
      refine c_nil ?_
      refine n_then ⟨_, _, rfl, ?_, (i + 1), nt31, vb26, cb27, vt28, ct29, hρ17, hρ18, rfl, ok30, hA2, (by omega), hs34, rfl⟩
      omega
    · have hp21 : ¬ ((((i : Nat) : Int) : Int) < 4096) := of_decide_eq_false hc21
      refine c_cond_f (t := false) (.tmp rfl (congrArg Value.bool hc21)) rfl ?_
      refine c_exit ?_
      refine x_then ?_
      refine x_then ?_
      refine x_here ?_
      refine n_then ?_
      refine c_seq ?_
      refine c_region ?_
      have hA9 : FullAt s p 4096 0 := by have h9 := hA; rw [show i = 4096 by omega] at h9; exact h9
      skip
      refine st (v := .pointer (some ⟨g8, 0, none⟩)) (x_move (.tmp rfl hρ18)) ?_
      refine st (v := .agg #[.int .i64 1, .int .i64 0, .slice none 0 0]) (bl37 (ps := [(0, .int .i64 1)]) (.cons .const Evp.nil) rfl) ?_
      have hs36 : St H _ (netG 64 37 3 5 g8 s vbs cbs vts cts (L)) := St.netUp [] hs20
      have hr37 : kPacket.rep H (GPacket.mk 1 0 []) [.int .i64 1, .int .i64 0, .slice none 0 0] := ⟨none, 0, 0, rfl, (show IB 1 from ⟨by omega, by omega⟩), (show IB 0 from ⟨by omega, by omega⟩), (By.nil _ none)⟩
      refine st_c cb17 .func (evs2 (.tmp rfl rfl) (.tmp rfl rfl)) (Put_spec hs36 oks (GPacket.mk 1 0 []) hr37 (by have h8 := hA9.lost; omega)) ?_
      rintro e w38 ⟨nt45, vb40, cb41, vt42, ct43, v_47, rfl, ok44, hnt46, hs39⟩
      refine ⟨_, rfl, ?_⟩
      have hs48 : St H _ (netG 64 37 3 5 g8 nt45 vb40 cb41 vt42 ct43 (L)) := St.netDown [] hs39
      have hB1 : FullAt nt45 p 4096 (0 + 1) := by rw [hnt46]; exact hA9.busy _ _ _
      skip
      refine st (v := .int .i64 (s.putE (GPacket.mk 1 0 []).From (GPacket.mk 1 0 []).To)) (x_assign (.tmp rfl rfl)) ?_
      refine c_nil ?_
      refine n_then ?_
      refine c_seq ?_
      refine c_region ?_
      refine st (v := .pointer (some ⟨g8, 0, none⟩)) (x_move (.tmp rfl hρ18)) ?_
      have hs49 : St H _ (netG 64 37 3 5 g8 nt45 vb40 cb41 vt42 ct43 (L)) := St.netUp [] hs48
      refine st_c cb20 .func (evs2 (.tmp rfl rfl) .const) (Double_spec hs49 ok44 7 ⟨by omega, by omega⟩ (by have h8 := hB1.lost; omega)) ?_
      rintro e w50 ⟨nt57, vb52, cb53, vt54, ct55, v_59, rfl, ok56, hnt58, hs51⟩
      refine ⟨_, rfl, ?_⟩
      have hs60 : St H _ (netG 64 37 3 5 g8 nt57 vb52 cb53 vt54 ct55 (L)) := St.netDown [] hs51
      have hB2 : FullAt nt57 p 4096 (0 + 1 + 1) := by rw [hnt58]; exact (hB1.doubleBusy (i := 7) (by decide) (by decide)).2 _
      skip
      refine st (v := .int .i64 (nt45.doubleE 7)) (x_assign (.tmp rfl rfl)) ?_
      refine c_nil ?_
      refine n_then ?_
      refine c_seq ?_
      refine c_region ?_
      have hT := FullAt.take (m := 4095) (i := 4095) hB2 (by decide) (by decide)
      refine st (v := .pointer (some ⟨g8, 0, none⟩)) (x_move (.tmp rfl hρ18)) ?_
      have hs61 : St H _ (netG 64 37 3 5 g8 nt57 vb52 cb53 vt54 ct55 (L)) := St.netUp [] hs60
      refine st_c cb22 .func (evs2 (.tmp rfl rfl) .const) (Take_spec hs61 ok56 4095 ⟨by omega, by omega⟩ (by have h8 := hB2.lost; omega)) ?_
      rintro e w62 ⟨v64, nt78, vb73, cb74, vt75, ct76, rfl, ⟨b69, b70⟩, ⟨b71, b72⟩, sm65, ok66, lb67, ok77, hnt79, hs63⟩
      refine ⟨_, rfl, ?_⟩
      have hs80 := St.netUp [row 5 1 v64 ((nt57.takeP 4095).Bytes.length) (((nt57.takeP 4095).Bytes).map encB)] hs63
      have hs81 : St H _ (row 5 1 v64 ((nt57.takeP 4095).Bytes.length) (((nt57.takeP 4095).Bytes).map encB) :: netG 64 37 3 5 g8 nt78 vb73 cb74 vt75 ct76 (L)) := St.netDown [row 5 1 v64 ((nt57.takeP 4095).Bytes.length) (((nt57.takeP 4095).Bytes).map encB)] hs80
      have hB3 : FullAt nt78 p 4095 (0 + 1 + 1) := by rw [hnt79]; exact hT.2.2
      skip
      refine st (v := .tuple #[.agg #[.int .i64 ((nt57.takeP 4095).From), .int .i64 ((nt57.takeP 4095).To), v64], .int .i64 (nt57.takeE 4095)]) (x_move (.tmp rfl rfl)) ?_
      refine st (v := .agg #[.int .i64 ((nt57.takeP 4095).From), .int .i64 ((nt57.takeP 4095).To), v64]) (x_extract (.tmp rfl rfl) (i := 0) rfl) ?_
      refine st (v := .int .i64 (nt57.takeE 4095)) (x_extract (.tmp rfl rfl) (i := 1) rfl) ?_
      refine st_m (al37 (cs := [.int .i64 0, .int .i64 0, .slice none 0 0]) hs81 rfl) ?_
      rintro _ w83 ⟨g82, rfl, hs85⟩
      refine st_m0 (sto37 (cs' := [.int .i64 ((nt57.takeP 4095).From), .int .i64 ((nt57.takeP 4095).To), v64]) (i := 0) hs85 (v := .agg #[.int .i64 ((nt57.takeP 4095).From), .int .i64 ((nt57.takeP 4095).To), v64]) (.tmp rfl rfl) (.tmp rfl rfl) rfl (Nat.le_of_ble_eq_true rfl) (oneA (allC rfl (allC rfl (allC (RowOk.oneC ok66) rfl)))) rfl) ?_
      rintro w86 hs88
      refine st (v := .int .i64 (nt57.takeE 4095)) (x_assign (.tmp rfl rfl)) ?_
      refine c_nil ?_
      refine n_then ?_
      refine c_seq ?_
      refine c_region ?_
      refine st (v := .pointer (some ⟨g8, 0, none⟩)) (x_move (.tmp rfl hρ18)) ?_
      have hs89 : St H _ (netG 64 37 3 5 g8 nt78 vb73 cb74 vt75 ct76 (obj g82 37 [.int .i64 ((nt57.takeP 4095).From), .int .i64 ((nt57.takeP 4095).To), v64] :: row 5 1 v64 ((nt57.takeP 4095).Bytes.length) (((nt57.takeP 4095).Bytes).map encB) :: L)) := St.netUp [obj g82 37 [.int .i64 ((nt57.takeP 4095).From), .int .i64 ((nt57.takeP 4095).To), v64], row 5 1 v64 ((nt57.takeP 4095).Bytes.length) (((nt57.takeP 4095).Bytes).map encB)] hs88
      refine st_c cb20 .func (evs2 (.tmp rfl rfl) .const) (Double_spec hs89 ok77 0 ⟨by omega, by omega⟩ (by have h8 := hB3.lost; omega)) ?_
      rintro e w90 ⟨nt97, vb92, cb93, vt94, ct95, v_99, rfl, ok96, hnt98, hs91⟩
      refine ⟨_, rfl, ?_⟩
      have hs100 : St H _ (obj g82 37 [.int .i64 ((nt57.takeP 4095).From), .int .i64 ((nt57.takeP 4095).To), v64] :: row 5 1 v64 ((nt57.takeP 4095).Bytes.length) (((nt57.takeP 4095).Bytes).map encB) :: netG 64 37 3 5 g8 nt97 vb92 cb93 vt94 ct95 (L)) := St.netDown [obj g82 37 [.int .i64 ((nt57.takeP 4095).From), .int .i64 ((nt57.takeP 4095).To), v64], row 5 1 v64 ((nt57.takeP 4095).Bytes.length) (((nt57.takeP 4095).Bytes).map encB)] hs91
      have hB4 : FullAt nt97 p 4096 (0 + 1 + 1) := by rw [hnt98]; exact (hB3.double (i := 0) (by decide) (by decide) (by decide)).2 _
      skip
      refine st (v := .int .i64 (nt78.doubleE 0)) (x_assign (.tmp rfl rfl)) ?_
      refine c_nil ?_
      refine n_then ?_
      refine c_seq ?_
      refine c_region ?_
      refine st (v := .int .i64 (s.putE (GPacket.mk 1 0 []).From (GPacket.mk 1 0 []).To)) (x_move (.tmp rfl rfl)) ?_
      refine st (v := .bool (decide (((s.putE (GPacket.mk 1 0 []).From (GPacket.mk 1 0 []).To) : Int) = 7))) (x_eql (k := .i64) (a := (s.putE (GPacket.mk 1 0 []).From (GPacket.mk 1 0 []).To)) (b := 7) (.tmp rfl rfl) .const) ?_
      refine st (v := .bool (decide (((s.putE (GPacket.mk 1 0 []).From (GPacket.mk 1 0 []).To) : Int) = 7))) (x_move (.tmp rfl rfl)) ?_
      have hc101 : (decide (((s.putE (GPacket.mk 1 0 []).From (GPacket.mk 1 0 []).To) : Int) = 7)) = true := (decide_eq_true hA9.busyE)
      refine g_yes (yl (dj := 46) (b := true) rfl rfl (congrArg Value.bool hc101)) ?_
      refine st (v := .int .i64 (nt45.doubleE 7)) (x_move (.tmp rfl rfl)) ?_
      refine g_yes (yl (dj := 46) (b := true) rfl rfl (congrArg Value.bool hc101)) ?_
      refine st (v := .bool (decide (((nt45.doubleE 7) : Int) = 7))) (x_eql (k := .i64) (a := (nt45.doubleE 7)) (b := 7) (.tmp rfl rfl) .const) ?_
      refine st (v := .bool (decide (((nt45.doubleE 7) : Int) = 7))) (x_pick_t (.tmp rfl (congrArg Value.bool hc101)) (.tmp rfl rfl)) ?_
      refine st (v := .bool (decide (((nt45.doubleE 7) : Int) = 7))) (x_move (.tmp rfl rfl)) ?_
      have hc102 : (decide (((nt45.doubleE 7) : Int) = 7)) = true := (decide_eq_true (hB1.doubleBusy (i := 7) (by decide) (by decide)).1)
      refine g_yes (yl (dj := 50) (b := true) rfl rfl (congrArg Value.bool hc102)) ?_
      refine st (v := .pointer (some ⟨g8, 0, none⟩)) (x_move (.tmp rfl hρ18)) ?_
      refine g_yes (yl (dj := 50) (b := true) rfl rfl (congrArg Value.bool hc102)) ?_
      have hs103 : St H _ (netG 64 37 3 5 g8 nt97 vb92 cb93 vt94 ct95 (obj g82 37 [.int .i64 ((nt57.takeP 4095).From), .int .i64 ((nt57.takeP 4095).To), v64] :: row 5 1 v64 ((nt57.takeP 4095).Bytes.length) (((nt57.takeP 4095).Bytes).map encB) :: L)) := St.netUp [obj g82 37 [.int .i64 ((nt57.takeP 4095).From), .int .i64 ((nt57.takeP 4095).To), v64], row 5 1 v64 ((nt57.takeP 4095).Bytes.length) (((nt57.takeP 4095).Bytes).map encB)] hs100
      refine st_c cb23 .func (evs1 (.tmp rfl rfl)) (lost_spec hs103 ok96 ) ?_
      rintro e w104 ⟨rfl, hs105⟩
      refine ⟨_, rfl, ?_⟩
      have hs106 : St H _ (obj g82 37 [.int .i64 ((nt57.takeP 4095).From), .int .i64 ((nt57.takeP 4095).To), v64] :: row 5 1 v64 ((nt57.takeP 4095).Bytes.length) (((nt57.takeP 4095).Bytes).map encB) :: netG 64 37 3 5 g8 nt97 vb92 cb93 vt94 ct95 (L)) := St.netDown [obj g82 37 [.int .i64 ((nt57.takeP 4095).From), .int .i64 ((nt57.takeP 4095).To), v64], row 5 1 v64 ((nt57.takeP 4095).Bytes.length) (((nt57.takeP 4095).Bytes).map encB)] hs105
      refine g_yes (yl (dj := 50) (b := true) rfl rfl (congrArg Value.bool hc102)) ?_
      refine st (v := .bool (decide ((nt97.lost : Int) = 2))) (x_eql (k := .i64) (a := nt97.lost) (b := 2) (.tmp rfl rfl) .const) ?_
      refine st (v := .bool (decide ((nt97.lost : Int) = 2))) (x_pick_t (.tmp rfl (congrArg Value.bool hc102)) (.tmp rfl rfl)) ?_
      refine st (v := .bool (decide ((nt97.lost : Int) = 2))) (x_move (.tmp rfl rfl)) ?_
      have hc107 : (decide ((nt97.lost : Int) = 2)) = true := (decide_eq_true (by rw [hB4.lost]; rfl))
      refine g_yes (yl (dj := 55) (b := true) rfl rfl (congrArg Value.bool hc107)) ?_
      refine st (v := .int .i64 (nt57.takeE 4095)) (x_move (.tmp rfl rfl)) ?_
      refine g_yes (yl (dj := 55) (b := true) rfl rfl (congrArg Value.bool hc107)) ?_
      refine st (v := .bool (decide (((nt57.takeE 4095) : Int) = 0))) (x_eql (k := .i64) (a := (nt57.takeE 4095)) (b := 0) (.tmp rfl rfl) .const) ?_
      refine st (v := .bool (decide (((nt57.takeE 4095) : Int) = 0))) (x_pick_t (.tmp rfl (congrArg Value.bool hc107)) (.tmp rfl rfl)) ?_
      refine st (v := .bool (decide (((nt57.takeE 4095) : Int) = 0))) (x_move (.tmp rfl rfl)) ?_
      have hc108 : (decide (((nt57.takeE 4095) : Int) = 0)) = true := (decide_eq_true hT.1)
      refine g_yes (yl (dj := 59) (b := true) rfl rfl (congrArg Value.bool hc108)) ?_
      refine st (v := .pointer (some ⟨g82, 0 + 2, none⟩)) (fa37_2 (.tmp rfl rfl)) ?_
      refine g_yes (yl (dj := 59) (b := true) rfl rfl (congrArg Value.bool hc108)) ?_
      refine st (v := v64) (ld22 (.tmp rfl rfl) (hs106.cell 0 rfl (0 + 2) rfl)) ?_
      refine g_yes (yl (dj := 59) (b := true) rfl rfl (congrArg Value.bool hc108)) ?_
      refine st (v := .string (bstr ((nt57.takeP 4095).Bytes))) (hs106.rowStr Tryd.underlying22 Tryd.underlying5 Tryd.underlying9 1 rfl ok66 (.tmp rfl rfl)) ?_
      refine g_yes (yl (dj := 59) (b := true) rfl rfl (congrArg Value.bool hc108)) ?_
      refine st (v := .slice A_p n_p c_p) (x_move (.tmp rfl hρ17)) ?_
      refine g_yes (yl (dj := 59) (b := true) rfl rfl (congrArg Value.bool hc108)) ?_
      refine st (v := .string (bstr p)) (h_p.toBs.str Tryd.underlying22 Tryd.underlying5 Tryd.underlying9 hs106 (.tmp rfl rfl)) ?_
      refine g_yes (yl (dj := 59) (b := true) rfl rfl (congrArg Value.bool hc108)) ?_
      refine st (v := .bool (decide ((bstr ((nt57.takeP 4095).Bytes)) = (bstr p)))) (x_eqlS (.tmp rfl rfl) (.tmp rfl rfl)) ?_
      refine st (v := .bool (decide ((bstr ((nt57.takeP 4095).Bytes)) = (bstr p)))) (x_pick_t (.tmp rfl (congrArg Value.bool hc108)) (.tmp rfl rfl)) ?_
      refine st (v := .bool (decide ((bstr ((nt57.takeP 4095).Bytes)) = (bstr p)))) (x_move (.tmp rfl rfl)) ?_
      have hc109 : (decide ((bstr ((nt57.takeP 4095).Bytes)) = (bstr p))) = true := (decide_eq_true (by rw [hT.2.1]))
      refine g_yes (yl (dj := 67) (b := true) rfl rfl (congrArg Value.bool hc109)) ?_
      refine st (v := .int .i64 (nt78.doubleE 0)) (x_move (.tmp rfl rfl)) ?_
      refine g_yes (yl (dj := 67) (b := true) rfl rfl (congrArg Value.bool hc109)) ?_
      refine st (v := .bool (decide (((nt78.doubleE 0) : Int) = 0))) (x_eql (k := .i64) (a := (nt78.doubleE 0)) (b := 0) (.tmp rfl rfl) .const) ?_
      refine st (v := .bool (decide (((nt78.doubleE 0) : Int) = 0))) (x_pick_t (.tmp rfl (congrArg Value.bool hc109)) (.tmp rfl rfl)) ?_
      refine st (v := .bool (decide (((nt78.doubleE 0) : Int) = 0))) (x_move (.tmp rfl rfl)) ?_
      have hc110 : (decide (((nt78.doubleE 0) : Int) = 0)) = true := (decide_eq_true (hB3.double (i := 0) (by decide) (by decide) (by decide)).1)
      refine g_yes (yl (dj := 71) (b := true) rfl rfl (congrArg Value.bool hc110)) ?_
      refine st (v := .pointer (some ⟨g8, 0, none⟩)) (x_move (.tmp rfl hρ18)) ?_
      refine g_yes (yl (dj := 71) (b := true) rfl rfl (congrArg Value.bool hc110)) ?_
      have hs111 : St H _ (netG 64 37 3 5 g8 nt97 vb92 cb93 vt94 ct95 (obj g82 37 [.int .i64 ((nt57.takeP 4095).From), .int .i64 ((nt57.takeP 4095).To), v64] :: row 5 1 v64 ((nt57.takeP 4095).Bytes.length) (((nt57.takeP 4095).Bytes).map encB) :: L)) := St.netUp [obj g82 37 [.int .i64 ((nt57.takeP 4095).From), .int .i64 ((nt57.takeP 4095).To), v64], row 5 1 v64 ((nt57.takeP 4095).Bytes.length) (((nt57.takeP 4095).Bytes).map encB)] hs106
      refine st_c cb18 .func (evs1 (.tmp rfl rfl)) (len_spec hs111 ok96 ) ?_
      rintro e w112 ⟨rfl, hs113⟩
      refine ⟨_, rfl, ?_⟩
      have hs114 : St H _ (obj g82 37 [.int .i64 ((nt57.takeP 4095).From), .int .i64 ((nt57.takeP 4095).To), v64] :: row 5 1 v64 ((nt57.takeP 4095).Bytes.length) (((nt57.takeP 4095).Bytes).map encB) :: netG 64 37 3 5 g8 nt97 vb92 cb93 vt94 ct95 (L)) := St.netDown [obj g82 37 [.int .i64 ((nt57.takeP 4095).From), .int .i64 ((nt57.takeP 4095).To), v64], row 5 1 v64 ((nt57.takeP 4095).Bytes.length) (((nt57.takeP 4095).Bytes).map encB)] hs113
      refine g_yes (yl (dj := 71) (b := true) rfl rfl (congrArg Value.bool hc110)) ?_
      refine st (v := .bool (decide ((((nt97.ps.length : Nat) : Int) : Int) = 4096))) (x_eql (k := .i64) (a := ((nt97.ps.length : Nat) : Int)) (b := 4096) (.tmp rfl rfl) .const) ?_
      refine st (v := .bool (decide ((((nt97.ps.length : Nat) : Int) : Int) = 4096))) (x_pick_t (.tmp rfl (congrArg Value.bool hc110)) (.tmp rfl rfl)) ?_
      refine st (v := .bool (decide ((((nt97.ps.length : Nat) : Int) : Int) = 4096))) (x_assign (.tmp rfl rfl)) ?_
      refine c_nil ?_
      refine n_then ?_
      refine c_ret ?_
      refine leave_ret (res_one (v := .bool (decide ((((nt97.ps.length : Nat) : Int) : Int) = 4096))) rfl (.mk rfl rfl)) ?_
      have hyes : (decide ((((nt97.ps.length : Nat) : Int) : Int) = 4096)) = true := (decide_eq_true (by rw [hB4.len]; rfl))
      rw [hyes]
      exact ⟨rfl, hs114.drop.drop.netDrop⟩

end Go.Proofs.YtojlmilkdijiaaaDoor
