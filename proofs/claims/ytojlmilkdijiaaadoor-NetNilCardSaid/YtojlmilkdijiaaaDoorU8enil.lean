/- Steps of the proofs over the functions of this seat, printed by a program (gen.py) and checked by Lean. -/
import Derived.Test.YtojlmilkdijiaaaDoorUty
import Derived.Test.YtojlmilkdijiaaaDoorFmM4b
import Derived.Test.YtojlmilkdijiaaaDoorFmP
import Derived.Test.YtojlmilkdijiaaaDoorU8d
set_option linter.unusedVariables false
set_option linter.unusedSimpArgs false
namespace Go.Proofs.YtojlmilkdijiaaaDoor
open Go Go.FM Go.Proofs
attribute [local irreducible] wpList wpQuiet wpS Code.wp Calls
set_option maxHeartbeats 8000000 in
theorem nil_spec {H : Hp} {w : World} {L : List Res} (hs : St H w (L)) (i : Int) (b_i : IB i) (k : Int) (b_k : IB k) {A_p : Option Addr} {n_p c_p : Nat} (p : List Nat) (h_p : By H A_p n_p c_p p) (htab : Tab H) : Calls Tryd.prog 10 #[.int .i64 i, .int .i64 k, .slice A_p n_p c_p] w (fun e w' => e = .returned (.bool true) ∧ St H w' (L)) := by
  obtain ⟨b_i1, b_i2⟩ := b_i
  obtain ⟨b_k1, b_k2⟩ := b_k
  have := h_p.len; have := h_p.le; have := h_p.bnd
  refine enter (args := [.int .i64 i, .int .i64 k, .slice A_p n_p c_p]) (N := 94) Tryd.func10 rfl rfl rfl ?_
  refine c_seq ?_
  refine c_region ?_
  refine st (v := .bool false) (x_assign .const) ?_
  refine c_nil ?_
  refine n_then ?_
  refine c_seq ?_
  refine c_region ?_
  refine st (v := .pointer none) (x_assign .const) ?_
  refine c_nil ?_
  refine n_then ?_
  refine c_seq ?_
  refine c_region ?_
  refine st (v := .pointer none) (x_move (.tmp rfl rfl)) ?_
  refine st (v := .int .i64 i) (x_move (.tmp rfl rfl)) ?_
  refine st_c cb21 .func (evs2 (.tmp rfl rfl) (.tmp rfl rfl)) (Peek_nil hs  i ⟨b_i1, b_i2⟩ ) ?_
  rintro e w1 ⟨rfl, hs2⟩
  refine ⟨_, rfl, ?_⟩
  refine st (v := .tuple #[.agg #[.int .i64 0, .int .i64 0, .slice none 0 0], .int .i64 6]) (x_move (.tmp rfl rfl)) ?_
  refine st (v := .agg #[.int .i64 0, .int .i64 0, .slice none 0 0]) (x_extract (.tmp rfl rfl) (i := 0) rfl) ?_
  refine st (v := .int .i64 6) (x_extract (.tmp rfl rfl) (i := 1) rfl) ?_
  refine st_m (al37 (cs := [.int .i64 0, .int .i64 0, .slice none 0 0]) hs2 rfl) ?_
  rintro _ w4 ⟨g3, rfl, hs6⟩
  refine st_m0 (sto37 (cs' := [.int .i64 0, .int .i64 0, .slice none 0 0]) (i := 0) hs6 (v := .agg #[.int .i64 0, .int .i64 0, .slice none 0 0]) (.tmp rfl rfl) (.tmp rfl rfl) rfl (Nat.le_of_ble_eq_true rfl) (oneA rfl) rfl) ?_
  rintro w7 hs9
  refine st (v := .int .i64 6) (x_assign (.tmp rfl rfl)) ?_
  refine c_nil ?_
  refine n_then ?_
  refine c_seq ?_
  refine c_region ?_
  refine st (v := .pointer none) (x_move (.tmp rfl rfl)) ?_
  refine st (v := .int .i64 i) (x_move (.tmp rfl rfl)) ?_
  refine st_c cb22 .func (evs2 (.tmp rfl rfl) (.tmp rfl rfl)) (Take_nil hs9  i ⟨b_i1, b_i2⟩ ) ?_
  rintro e w10 ⟨rfl, hs11⟩
  refine ⟨_, rfl, ?_⟩
  refine st (v := .tuple #[.agg #[.int .i64 0, .int .i64 0, .slice none 0 0], .int .i64 6]) (x_move (.tmp rfl rfl)) ?_
  refine st (v := .agg #[.int .i64 0, .int .i64 0, .slice none 0 0]) (x_extract (.tmp rfl rfl) (i := 0) rfl) ?_
  refine st (v := .int .i64 6) (x_extract (.tmp rfl rfl) (i := 1) rfl) ?_
  refine st_m (al37 (cs := [.int .i64 0, .int .i64 0, .slice none 0 0]) hs11 rfl) ?_
  rintro _ w13 ⟨g12, rfl, hs15⟩
  refine st_m0 (sto37 (cs' := [.int .i64 0, .int .i64 0, .slice none 0 0]) (i := 0) hs15 (v := .agg #[.int .i64 0, .int .i64 0, .slice none 0 0]) (.tmp rfl rfl) (.tmp rfl rfl) rfl (Nat.le_of_ble_eq_true rfl) (oneA rfl) rfl) ?_
  rintro w16 hs18
  refine st (v := .int .i64 6) (x_assign (.tmp rfl rfl)) ?_
  refine c_nil ?_
  refine n_then ?_
  refine c_seq ?_
  refine c_region ?_
  refine st_c cb11 .func (evs0 ) (awake_spec hs18  htab) ?_
  rintro e w19 ⟨rfl, hs20⟩
  refine ⟨_, rfl, ?_⟩
  refine st (v := .bool true) (x_move (.tmp rfl rfl)) ?_
  refine g_yes (yl (dj := 25) (b := true) rfl rfl rfl) ?_
  refine st (v := .int .i64 6) (x_move (.tmp rfl rfl)) ?_
  refine g_yes (yl (dj := 25) (b := true) rfl rfl rfl) ?_
  refine st (v := .bool true) (x_eql (k := .i64) (a := 6) (b := 6) (.tmp rfl rfl) .const) ?_
  refine st (v := .bool true) (x_pick_t (.tmp rfl rfl) (.tmp rfl rfl)) ?_
  refine st (v := .bool true) (x_move (.tmp rfl rfl)) ?_
  refine g_yes (yl (dj := 29) (b := true) rfl rfl rfl) ?_
  refine st (v := .int .i64 6) (x_move (.tmp rfl rfl)) ?_
  refine g_yes (yl (dj := 29) (b := true) rfl rfl rfl) ?_
  refine st (v := .bool true) (x_eql (k := .i64) (a := 6) (b := 6) (.tmp rfl rfl) .const) ?_
  refine st (v := .bool true) (x_pick_t (.tmp rfl rfl) (.tmp rfl rfl)) ?_
  refine st (v := .bool true) (x_move (.tmp rfl rfl)) ?_
  refine g_yes (yl (dj := 33) (b := true) rfl rfl rfl) ?_
  refine st (v := .pointer none) (x_move (.tmp rfl rfl)) ?_
  refine g_yes (yl (dj := 33) (b := true) rfl rfl rfl) ?_
  refine st (v := .slice A_p n_p c_p) (x_move (.tmp rfl rfl)) ?_
  refine g_yes (yl (dj := 33) (b := true) rfl rfl rfl) ?_
  refine st (v := .agg #[.int .i64 0, .int .i64 0, .slice A_p n_p c_p]) (bl37 (ps := [(2, .slice A_p n_p c_p)]) (.cons (.tmp rfl rfl) Evp.nil) rfl) ?_
  refine g_yes (yl (dj := 33) (b := true) rfl rfl rfl) ?_
  have hr21 : kPacket.rep H (GPacket.mk 0 0 p) [.int .i64 0, .int .i64 0, .slice A_p n_p c_p] := ⟨A_p, n_p, c_p, rfl, (show IB 0 from ⟨by omega, by omega⟩), (show IB 0 from ⟨by omega, by omega⟩), h_p⟩
  refine st_c cb17 .func (evs2 (.tmp rfl rfl) (.tmp rfl rfl)) (Put_nil hs20  (GPacket.mk 0 0 p) hr21 ) ?_
  rintro e w22 ⟨rfl, hs23⟩
  refine ⟨_, rfl, ?_⟩
  refine g_yes (yl (dj := 33) (b := true) rfl rfl rfl) ?_
  refine st (v := .bool true) (x_eql (k := .i64) (a := 6) (b := 6) (.tmp rfl rfl) .const) ?_
  refine st (v := .bool true) (x_pick_t (.tmp rfl rfl) (.tmp rfl rfl)) ?_
  refine st (v := .bool true) (x_move (.tmp rfl rfl)) ?_
  refine g_yes (yl (dj := 40) (b := true) rfl rfl rfl) ?_
  refine st (v := .pointer none) (x_move (.tmp rfl rfl)) ?_
  refine g_yes (yl (dj := 40) (b := true) rfl rfl rfl) ?_
  refine st (v := .int .i64 i) (x_move (.tmp rfl rfl)) ?_
  refine g_yes (yl (dj := 40) (b := true) rfl rfl rfl) ?_
  refine st_c cb28 .func (evs2 (.tmp rfl rfl) (.tmp rfl rfl)) (Drop_nil hs23  i ⟨b_i1, b_i2⟩ ) ?_
  rintro e w24 ⟨rfl, hs25⟩
  refine ⟨_, rfl, ?_⟩
  refine g_yes (yl (dj := 40) (b := true) rfl rfl rfl) ?_
  refine st (v := .bool true) (x_eql (k := .i64) (a := 6) (b := 6) (.tmp rfl rfl) .const) ?_
  refine st (v := .bool true) (x_pick_t (.tmp rfl rfl) (.tmp rfl rfl)) ?_
  refine st (v := .bool true) (x_move (.tmp rfl rfl)) ?_
  refine g_yes (yl (dj := 46) (b := true) rfl rfl rfl) ?_
  refine st (v := .pointer none) (x_move (.tmp rfl rfl)) ?_
  refine g_yes (yl (dj := 46) (b := true) rfl rfl rfl) ?_
  refine st (v := .int .i64 i) (x_move (.tmp rfl rfl)) ?_
  refine g_yes (yl (dj := 46) (b := true) rfl rfl rfl) ?_
  refine st_c cb20 .func (evs2 (.tmp rfl rfl) (.tmp rfl rfl)) (Double_nil hs25  i ⟨b_i1, b_i2⟩ ) ?_
  rintro e w26 ⟨rfl, hs27⟩
  refine ⟨_, rfl, ?_⟩
  refine g_yes (yl (dj := 46) (b := true) rfl rfl rfl) ?_
  refine st (v := .bool true) (x_eql (k := .i64) (a := 6) (b := 6) (.tmp rfl rfl) .const) ?_
  refine st (v := .bool true) (x_pick_t (.tmp rfl rfl) (.tmp rfl rfl)) ?_
  refine st (v := .bool true) (x_move (.tmp rfl rfl)) ?_
  refine g_yes (yl (dj := 52) (b := true) rfl rfl rfl) ?_
  refine st (v := .pointer none) (x_move (.tmp rfl rfl)) ?_
  refine g_yes (yl (dj := 52) (b := true) rfl rfl rfl) ?_
  refine st (v := .int .i64 i) (x_move (.tmp rfl rfl)) ?_
  refine g_yes (yl (dj := 52) (b := true) rfl rfl rfl) ?_
  refine st (v := .int .i64 k) (x_move (.tmp rfl rfl)) ?_
  refine g_yes (yl (dj := 52) (b := true) rfl rfl rfl) ?_
  refine st_c cb19 .func (evs3 (.tmp rfl rfl) (.tmp rfl rfl) (.tmp rfl rfl)) (Turn_nil hs27  i ⟨b_i1, b_i2⟩ k ⟨b_k1, b_k2⟩ ) ?_
  rintro e w28 ⟨rfl, hs29⟩
  refine ⟨_, rfl, ?_⟩
  refine g_yes (yl (dj := 52) (b := true) rfl rfl rfl) ?_
  refine st (v := .bool true) (x_eql (k := .i64) (a := 6) (b := 6) (.tmp rfl rfl) .const) ?_
  refine st (v := .bool true) (x_pick_t (.tmp rfl rfl) (.tmp rfl rfl)) ?_
  refine st (v := .bool true) (x_move (.tmp rfl rfl)) ?_
  refine g_yes (yl (dj := 59) (b := true) rfl rfl rfl) ?_
  refine st (v := .pointer none) (x_move (.tmp rfl rfl)) ?_
  refine g_yes (yl (dj := 59) (b := true) rfl rfl rfl) ?_
  refine st (v := .int .i64 i) (x_move (.tmp rfl rfl)) ?_
  refine g_yes (yl (dj := 59) (b := true) rfl rfl rfl) ?_
  refine st (v := .int .i64 k) (x_move (.tmp rfl rfl)) ?_
  refine g_yes (yl (dj := 59) (b := true) rfl rfl rfl) ?_
  refine st_c cb13 .func (evs3 (.tmp rfl rfl) (.tmp rfl rfl) (.tmp rfl rfl)) (Cut_nil hs29  i ⟨b_i1, b_i2⟩ k ⟨b_k1, b_k2⟩ ) ?_
  rintro e w30 ⟨rfl, hs31⟩
  refine ⟨_, rfl, ?_⟩
  refine g_yes (yl (dj := 59) (b := true) rfl rfl rfl) ?_
  refine st (v := .bool true) (x_eql (k := .i64) (a := 6) (b := 6) (.tmp rfl rfl) .const) ?_
  refine st (v := .bool true) (x_pick_t (.tmp rfl rfl) (.tmp rfl rfl)) ?_
  refine st (v := .bool true) (x_move (.tmp rfl rfl)) ?_
  refine g_yes (yl (dj := 66) (b := true) rfl rfl rfl) ?_
  refine st (v := .pointer none) (x_move (.tmp rfl rfl)) ?_
  refine g_yes (yl (dj := 66) (b := true) rfl rfl rfl) ?_
  refine st (v := .int .i64 i) (x_move (.tmp rfl rfl)) ?_
  refine g_yes (yl (dj := 66) (b := true) rfl rfl rfl) ?_
  refine st (v := .int .i64 k) (x_move (.tmp rfl rfl)) ?_
  refine g_yes (yl (dj := 66) (b := true) rfl rfl rfl) ?_
  refine st_c cb24 .func (evs3 (.tmp rfl rfl) (.tmp rfl rfl) (.tmp rfl rfl)) (Join_nil hs31  i ⟨b_i1, b_i2⟩ k ⟨b_k1, b_k2⟩ ) ?_
  rintro e w32 ⟨rfl, hs33⟩
  refine ⟨_, rfl, ?_⟩
  refine g_yes (yl (dj := 66) (b := true) rfl rfl rfl) ?_
  refine st (v := .bool true) (x_eql (k := .i64) (a := 6) (b := 6) (.tmp rfl rfl) .const) ?_
  refine st (v := .bool true) (x_pick_t (.tmp rfl rfl) (.tmp rfl rfl)) ?_
  refine st (v := .bool true) (x_move (.tmp rfl rfl)) ?_
  refine g_yes (yl (dj := 73) (b := true) rfl rfl rfl) ?_
  refine st (v := .pointer none) (x_move (.tmp rfl rfl)) ?_
  refine g_yes (yl (dj := 73) (b := true) rfl rfl rfl) ?_
  refine st (v := .int .i64 i) (x_move (.tmp rfl rfl)) ?_
  refine g_yes (yl (dj := 73) (b := true) rfl rfl rfl) ?_
  refine st (v := .int .i64 k) (x_move (.tmp rfl rfl)) ?_
  refine g_yes (yl (dj := 73) (b := true) rfl rfl rfl) ?_
  refine st_c cb15 .func (evs3 (.tmp rfl rfl) (.tmp rfl rfl) (.tmp rfl rfl)) (Hear_nil hs33  i ⟨b_i1, b_i2⟩ k ⟨b_k1, b_k2⟩ ) ?_
  rintro e w34 ⟨rfl, hs35⟩
  refine ⟨_, rfl, ?_⟩
  refine g_yes (yl (dj := 73) (b := true) rfl rfl rfl) ?_
  refine st (v := .bool true) (x_not (b := false) (.tmp rfl rfl)) ?_
  refine st (v := .bool true) (x_pick_t (.tmp rfl rfl) (.tmp rfl rfl)) ?_
  refine st (v := .bool true) (x_move (.tmp rfl rfl)) ?_
  refine g_yes (yl (dj := 80) (b := true) rfl rfl rfl) ?_
  refine st (v := .pointer none) (x_move (.tmp rfl rfl)) ?_
  refine g_yes (yl (dj := 80) (b := true) rfl rfl rfl) ?_
  refine st (v := .int .i64 i) (x_move (.tmp rfl rfl)) ?_
  refine g_yes (yl (dj := 80) (b := true) rfl rfl rfl) ?_
  refine st_c cb14 .func (evs2 (.tmp rfl rfl) (.tmp rfl rfl)) (Class_nil hs35  i ⟨b_i1, b_i2⟩ ) ?_
  rintro e w36 ⟨rfl, hs37⟩
  refine ⟨_, rfl, ?_⟩
  refine g_yes (yl (dj := 80) (b := true) rfl rfl rfl) ?_
  refine st (v := .bool true) (x_eql (k := .u16) (a := 0) (b := 0) (.tmp rfl rfl) .const) ?_
  refine st (v := .bool true) (x_pick_t (.tmp rfl rfl) (.tmp rfl rfl)) ?_
  refine st (v := .bool true) (x_move (.tmp rfl rfl)) ?_
  refine g_yes (yl (dj := 86) (b := true) rfl rfl rfl) ?_
  refine st (v := .pointer none) (x_move (.tmp rfl rfl)) ?_
  refine g_yes (yl (dj := 86) (b := true) rfl rfl rfl) ?_
  refine st_c cb18 .func (evs1 (.tmp rfl rfl)) (Len_nil hs37  ) ?_
  rintro e w38 ⟨rfl, hs39⟩
  refine ⟨_, rfl, ?_⟩
  refine g_yes (yl (dj := 86) (b := true) rfl rfl rfl) ?_
  refine st (v := .pointer none) (x_move (.tmp rfl rfl)) ?_
  refine g_yes (yl (dj := 86) (b := true) rfl rfl rfl) ?_
  refine st_c cb23 .func (evs1 (.tmp rfl rfl)) (Lost_nil hs39  ) ?_
  rintro e w40 ⟨rfl, hs41⟩
  refine ⟨_, rfl, ?_⟩
  refine g_yes (yl (dj := 86) (b := true) rfl rfl rfl) ?_
  refine st (v := .int .i64 0) (x_add (k := .i64) (a := 0) (b := 0) (.tmp rfl rfl) (.tmp rfl rfl) (w64 (by omega) (by omega))) ?_
  refine g_yes (yl (dj := 86) (b := true) rfl rfl rfl) ?_
  refine st (v := .bool true) (x_eql (k := .i64) (a := 0) (b := 0) (.tmp rfl rfl) .const) ?_
  refine st (v := .bool true) (x_pick_t (.tmp rfl rfl) (.tmp rfl rfl)) ?_
  refine st (v := .bool true) (x_assign (.tmp rfl rfl)) ?_
  refine c_nil ?_
  refine n_then ?_
  refine c_ret ?_
  refine leave_ret (res_one (v := .bool true) rfl (.mk rfl rfl)) ?_
  exact ⟨rfl, hs41.drop.drop⟩

end Go.Proofs.YtojlmilkdijiaaaDoor
