/- Steps of the proofs over the functions of this seat, printed by a program (gen.py) and checked by Lean. -/
import Derived.Test.YtojlmilkdijiaaaDoorUty
import Derived.Test.YtojlmilkdijiaaaDoorFmM4b
import Derived.Test.YtojlmilkdijiaaaDoorFmP
import Derived.Test.YtojlmilkdijiaaaDoorFmN2
import Derived.Test.YtojlmilkdijiaaaDoorU8b
set_option linter.unusedVariables false
set_option linter.unusedSimpArgs false
namespace Go.Proofs.YtojlmilkdijiaaaDoor
open Go Go.FM Go.Proofs
attribute [local irreducible] wpList wpQuiet wpS Code.wp Calls
set_option maxHeartbeats 8000000 in
theorem put_nil {H : Hp} {w : World} {L : List Res} (hs : St H w (L))  (p : GPacket) {k_p : List Value} (h_p : kPacket.rep H p k_p) (k : Int) (b_k : IB k) : Calls Tryd.prog 35 #[.pointer none, .agg k_p.toArray, .int .i64 k] w (fun e w' => e = .returned (.int .i64 6) ∧ St H w' (L)) := by
  obtain ⟨A5, n6, c7, rfl, ⟨b1, b2⟩, ⟨b3, b4⟩, hy8⟩ := h_p
  have := hy8.len; have := hy8.bnd; have := hy8.le
  obtain ⟨b_k1, b_k2⟩ := b_k
  refine enter (args := [.pointer none, .agg #[.int .i64 p.From, .int .i64 p.To, .slice A5 n6 c7], .int .i64 k]) (N := 71) Tryd.func35 rfl rfl rfl ?_
  refine c_seq ?_
  refine c_region ?_
  refine st_m (m_box (cs := [.int .i64 p.From, .int .i64 p.To, .slice A5 n6 c7]) hs (v := .agg #[.int .i64 p.From, .int .i64 p.To, .slice A5 n6 c7]) (.tmp rfl rfl) rfl) ?_
  rintro _ w10 ⟨g9, rfl, hs12⟩
  refine st (v := .int .i64 0) (x_assign .const) ?_
  refine c_nil ?_
  refine n_then ?_
  refine c_seq ?_
  refine c_block ?_
  refine c_seq ?_
  refine c_region ?_
  refine st (v := .pointer none) (x_move (.tmp rfl rfl)) ?_
  refine st (v := .bool true) (x_eqlP Tryd.underlying24 (.tmp rfl rfl) .const rfl) ?_
  refine st (v := .bool true) (x_assign (.tmp rfl rfl)) ?_
  refine c_nil ?_
  refine n_then ?_
  refine c_cond_t (t := true) (.tmp rfl rfl) rfl ?_
  refine c_seq ?_
  refine c_region ?_
  refine st (v := .int .i64 6) (x_assign .const) ?_
  refine c_nil ?_
  refine n_then ?_
  refine c_ret ?_
  refine r_block ?_
  refine r_then ?_
  refine leave_ret (res_one (v := .int .i64 6) rfl (.mk rfl rfl)) ?_
  exact ⟨rfl, hs12.drop⟩

set_option maxHeartbeats 8000000 in
theorem Put_nil {H : Hp} {w : World} {L : List Res} (hs : St H w (L))  (p : GPacket) {k_p : List Value} (h_p : kPacket.rep H p k_p) : Calls Tryd.prog 17 #[.pointer none, .agg k_p.toArray] w (fun e w' => e = .returned (.int .i64 6) ∧ St H w' (L)) := by
  obtain ⟨A5, n6, c7, rfl, ⟨b1, b2⟩, ⟨b3, b4⟩, hy8⟩ := h_p
  have := hy8.len; have := hy8.bnd; have := hy8.le
  refine enter (args := [.pointer none, .agg #[.int .i64 p.From, .int .i64 p.To, .slice A5 n6 c7]]) (N := 8) Tryd.func17 rfl rfl rfl ?_
  refine c_seq ?_
  refine c_region ?_
  refine st_m (m_box (cs := [.int .i64 p.From, .int .i64 p.To, .slice A5 n6 c7]) hs (v := .agg #[.int .i64 p.From, .int .i64 p.To, .slice A5 n6 c7]) (.tmp rfl rfl) rfl) ?_
  rintro _ w10 ⟨g9, rfl, hs12⟩
  refine st (v := .int .i64 0) (x_assign .const) ?_
  refine c_nil ?_
  refine n_then ?_
  refine c_seq ?_
  refine c_region ?_
  refine st (v := .pointer none) (x_move (.tmp rfl rfl)) ?_
  refine st (v := .agg #[.int .i64 p.From, .int .i64 p.To, .slice A5 n6 c7]) (ld37 (cs := [.int .i64 p.From, .int .i64 p.To, .slice A5 n6 c7]) (.tmp rfl rfl) (hs12.at_ 0 rfl (0) rfl) rfl) ?_
  have hr13 : kPacket.rep H p [.int .i64 p.From, .int .i64 p.To, .slice A5 n6 c7] := ⟨A5, n6, c7, rfl, ⟨b1, b2⟩, ⟨b3, b4⟩, hy8⟩
  refine st_c cb35 .func (evs3 (.tmp rfl rfl) (.tmp rfl rfl) .const) (put_nil hs12  p hr13 0 ⟨by omega, by omega⟩ ) ?_
  rintro e w14 ⟨rfl, hs15⟩
  refine ⟨_, rfl, ?_⟩
  refine st (v := .int .i64 6) (x_assign (.tmp rfl rfl)) ?_
  refine c_nil ?_
  refine n_then ?_
  refine c_ret ?_
  refine leave_ret (res_one (v := .int .i64 6) rfl (.mk rfl rfl)) ?_
  exact ⟨rfl, hs15.drop⟩

set_option maxHeartbeats 8000000 in
theorem Len_nil {H : Hp} {w : World} {L : List Res} (hs : St H w (L))  : Calls Tryd.prog 18 #[.pointer none] w (fun e w' => e = .returned (.int .i64 0) ∧ St H w' (L)) := by
  refine enter (args := [.pointer none]) (N := 10) Tryd.func18 rfl rfl rfl ?_
  refine c_seq ?_
  refine c_region ?_
  refine st (v := .int .i64 0) (x_assign .const) ?_
  refine c_nil ?_
  refine n_then ?_
  refine c_seq ?_
  refine c_seq ?_
  refine c_region ?_
  refine st (v := .pointer none) (x_move (.tmp rfl rfl)) ?_
  refine st (v := .bool true) (x_eqlP Tryd.underlying24 (.tmp rfl rfl) .const rfl) ?_
  refine c_nil ?_
  refine n_then ?_
  refine c_cond_t (t := true) (.tmp rfl rfl) rfl ?_
  refine c_seq ?_
  refine c_region ?_
  refine st (v := .int .i64 0) (x_assign .const) ?_
  refine c_nil ?_
  refine n_then ?_
  refine c_ret ?_
  refine r_then ?_
  refine leave_ret (res_one (v := .int .i64 0) rfl (.mk rfl rfl)) ?_
  exact ⟨rfl, hs⟩

set_option maxHeartbeats 8000000 in
theorem Lost_nil {H : Hp} {w : World} {L : List Res} (hs : St H w (L))  : Calls Tryd.prog 23 #[.pointer none] w (fun e w' => e = .returned (.int .i64 0) ∧ St H w' (L)) := by
  refine enter (args := [.pointer none]) (N := 9) Tryd.func23 rfl rfl rfl ?_
  refine c_seq ?_
  refine c_region ?_
  refine st (v := .int .i64 0) (x_assign .const) ?_
  refine c_nil ?_
  refine n_then ?_
  refine c_seq ?_
  refine c_seq ?_
  refine c_region ?_
  refine st (v := .pointer none) (x_move (.tmp rfl rfl)) ?_
  refine st (v := .bool true) (x_eqlP Tryd.underlying24 (.tmp rfl rfl) .const rfl) ?_
  refine c_nil ?_
  refine n_then ?_
  refine c_cond_t (t := true) (.tmp rfl rfl) rfl ?_
  refine c_seq ?_
  refine c_region ?_
  refine st (v := .int .i64 0) (x_assign .const) ?_
  refine c_nil ?_
  refine n_then ?_
  refine c_ret ?_
  refine r_then ?_
  refine leave_ret (res_one (v := .int .i64 0) rfl (.mk rfl rfl)) ?_
  exact ⟨rfl, hs⟩

set_option maxHeartbeats 8000000 in
theorem look_nil {H : Hp} {w : World} {L : List Res} (hs : St H w (L))  (i : Int) (b_i : IB i) : Calls Tryd.prog 36 #[.pointer none, .int .i64 i] w (fun e w' => e = .returned (.int .i64 6) ∧ St H w' (L)) := by
  obtain ⟨b_i1, b_i2⟩ := b_i
  refine enter (args := [.pointer none, .int .i64 i]) (N := 20) Tryd.func36 rfl rfl rfl ?_
  refine c_seq ?_
  refine c_region ?_
  refine st (v := .int .i64 0) (x_assign .const) ?_
  refine c_nil ?_
  refine n_then ?_
  refine c_seq ?_
  refine c_block ?_
  refine c_seq ?_
  refine c_region ?_
  refine st (v := .pointer none) (x_move (.tmp rfl rfl)) ?_
  refine st (v := .bool true) (x_eqlP Tryd.underlying24 (.tmp rfl rfl) .const rfl) ?_
  refine st (v := .bool true) (x_assign (.tmp rfl rfl)) ?_
  refine c_nil ?_
  refine n_then ?_
  refine c_cond_t (t := true) (.tmp rfl rfl) rfl ?_
  refine c_seq ?_
  refine c_region ?_
  refine st (v := .int .i64 6) (x_assign .const) ?_
  refine c_nil ?_
  refine n_then ?_
  refine c_ret ?_
  refine r_block ?_
  refine r_then ?_
  refine leave_ret (res_one (v := .int .i64 6) rfl (.mk rfl rfl)) ?_
  exact ⟨rfl, hs⟩

set_option maxHeartbeats 8000000 in
theorem Peek_nil {H : Hp} {w : World} {L : List Res} (hs : St H w (L))  (i : Int) (b_i : IB i) : Calls Tryd.prog 21 #[.pointer none, .int .i64 i] w (fun e w' => e = .returned (.tuple #[.agg #[.int .i64 0, .int .i64 0, .slice none 0 0], .int .i64 6]) ∧ St H w' (L)) := by
  obtain ⟨b_i1, b_i2⟩ := b_i
  refine enter (args := [.pointer none, .int .i64 i]) (N := 27) Tryd.func21 rfl rfl rfl ?_
  refine c_seq ?_
  refine c_region ?_
  refine st_m (al37 (cs := [.int .i64 0, .int .i64 0, .slice none 0 0]) hs rfl) ?_
  rintro _ w2 ⟨g1, rfl, hs4⟩
  refine st (v := .int .i64 0) (x_assign .const) ?_
  refine c_nil ?_
  refine n_then ?_
  refine c_seq ?_
  refine c_seq ?_
  refine c_region ?_
  refine st (v := .pointer none) (x_move (.tmp rfl rfl)) ?_
  refine st (v := .int .i64 i) (x_move (.tmp rfl rfl)) ?_
  refine st_c cb36 .func (evs2 (.tmp rfl rfl) (.tmp rfl rfl)) (look_nil hs4  i ⟨b_i1, b_i2⟩ ) ?_
  rintro e w5 ⟨rfl, hs6⟩
  refine ⟨_, rfl, ?_⟩
  refine st (v := .int .i64 6) (x_assign (.tmp rfl rfl)) ?_
  refine c_nil ?_
  refine n_then ?_
  refine c_seq ?_
  refine c_region ?_
  refine st (v := .int .i64 6) (x_move (.tmp rfl rfl)) ?_
  refine st (v := .bool true) (x_neq (k := .i64) (a := 6) (b := 0) (.tmp rfl rfl) .const) ?_
  refine c_nil ?_
  refine n_then ?_
  refine c_cond_t (t := true) (.tmp rfl rfl) rfl ?_
  refine c_seq ?_
  refine c_region ?_
  refine st (v := .agg #[.int .i64 0, .int .i64 0, .slice none 0 0]) (bl37 (ps := []) Evp.nil rfl) ?_
  refine st (v := .int .i64 6) (x_move (.tmp rfl rfl)) ?_
  refine st_m0 (sto37 (cs' := [.int .i64 0, .int .i64 0, .slice none 0 0]) (i := 0) hs6 (v := .agg #[.int .i64 0, .int .i64 0, .slice none 0 0]) (.tmp rfl rfl) (.tmp rfl rfl) rfl (Nat.le_of_ble_eq_true rfl) (oneA rfl) rfl) ?_
  rintro w7 hs9
  refine st (v := .int .i64 6) (x_assign (.tmp rfl rfl)) ?_
  refine c_nil ?_
  refine n_then ?_
  refine c_ret ?_
  refine r_then ?_
  refine leave_ret (res_two (v := .agg #[.int .i64 0, .int .i64 0, .slice none 0 0]) (u := .int .i64 6) rfl (.mkCell rfl rfl (lv37 (cs := [.int .i64 0, .int .i64 0, .slice none 0 0]) (hs9.at_ 0 rfl 0 rfl) rfl)) (.mk rfl rfl)) ?_
  exact ⟨rfl, hs9.drop⟩

set_option maxHeartbeats 8000000 in
theorem Take_nil {H : Hp} {w : World} {L : List Res} (hs : St H w (L))  (i : Int) (b_i : IB i) : Calls Tryd.prog 22 #[.pointer none, .int .i64 i] w (fun e w' => e = .returned (.tuple #[.agg #[.int .i64 0, .int .i64 0, .slice none 0 0], .int .i64 6]) ∧ St H w' (L)) := by
  obtain ⟨b_i1, b_i2⟩ := b_i
  refine enter (args := [.pointer none, .int .i64 i]) (N := 37) Tryd.func22 rfl rfl rfl ?_
  refine c_seq ?_
  refine c_region ?_
  refine st_m (al37 (cs := [.int .i64 0, .int .i64 0, .slice none 0 0]) hs rfl) ?_
  rintro _ w2 ⟨g1, rfl, hs4⟩
  refine st (v := .int .i64 0) (x_assign .const) ?_
  refine c_nil ?_
  refine n_then ?_
  refine c_seq ?_
  refine c_region ?_
  refine st (v := .pointer none) (x_move (.tmp rfl rfl)) ?_
  refine st (v := .int .i64 i) (x_move (.tmp rfl rfl)) ?_
  refine st_c cb21 .func (evs2 (.tmp rfl rfl) (.tmp rfl rfl)) (Peek_nil hs4  i ⟨b_i1, b_i2⟩ ) ?_
  rintro e w5 ⟨rfl, hs6⟩
  refine ⟨_, rfl, ?_⟩
  refine st (v := .tuple #[.agg #[.int .i64 0, .int .i64 0, .slice none 0 0], .int .i64 6]) (x_move (.tmp rfl rfl)) ?_
  refine st (v := .agg #[.int .i64 0, .int .i64 0, .slice none 0 0]) (x_extract (.tmp rfl rfl) (i := 0) rfl) ?_
  refine st (v := .int .i64 6) (x_extract (.tmp rfl rfl) (i := 1) rfl) ?_
  refine st_m (al37 (cs := [.int .i64 0, .int .i64 0, .slice none 0 0]) hs6 rfl) ?_
  rintro _ w8 ⟨g7, rfl, hs10⟩
  refine st_m0 (sto37 (cs' := [.int .i64 0, .int .i64 0, .slice none 0 0]) (i := 0) hs10 (v := .agg #[.int .i64 0, .int .i64 0, .slice none 0 0]) (.tmp rfl rfl) (.tmp rfl rfl) rfl (Nat.le_of_ble_eq_true rfl) (oneA rfl) rfl) ?_
  rintro w11 hs13
  refine st (v := .int .i64 6) (x_assign (.tmp rfl rfl)) ?_
  refine c_nil ?_
  refine n_then ?_
  refine c_seq ?_
  refine c_seq ?_
  refine c_region ?_
  refine st (v := .int .i64 6) (x_move (.tmp rfl rfl)) ?_
  refine st (v := .bool true) (x_neq (k := .i64) (a := 6) (b := 0) (.tmp rfl rfl) .const) ?_
  refine c_nil ?_
  refine n_then ?_
  refine c_cond_t (t := true) (.tmp rfl rfl) rfl ?_
  refine c_seq ?_
  refine c_region ?_
  refine st (v := .agg #[.int .i64 0, .int .i64 0, .slice none 0 0]) (bl37 (ps := []) Evp.nil rfl) ?_
  refine st (v := .int .i64 6) (x_move (.tmp rfl rfl)) ?_
  have hs14 : St H _ (obj g1 37 [.int .i64 0, .int .i64 0, .slice none 0 0] :: obj g7 37 [.int .i64 0, .int .i64 0, .slice none 0 0] :: L) := hs13.pick 1 rfl rfl
  refine st_m0 (sto37 (cs' := [.int .i64 0, .int .i64 0, .slice none 0 0]) (i := 0) hs14 (v := .agg #[.int .i64 0, .int .i64 0, .slice none 0 0]) (.tmp rfl rfl) (.tmp rfl rfl) rfl (Nat.le_of_ble_eq_true rfl) (oneA rfl) rfl) ?_
  rintro w15 hs17
  refine st (v := .int .i64 6) (x_assign (.tmp rfl rfl)) ?_
  refine c_nil ?_
  refine n_then ?_
  refine c_ret ?_
  refine r_then ?_
  refine leave_ret (res_two (v := .agg #[.int .i64 0, .int .i64 0, .slice none 0 0]) (u := .int .i64 6) rfl (.mkCell rfl rfl (lv37 (cs := [.int .i64 0, .int .i64 0, .slice none 0 0]) (hs17.at_ 0 rfl 0 rfl) rfl)) (.mk rfl rfl)) ?_
  exact ⟨rfl, hs17.drop.drop⟩

set_option maxHeartbeats 8000000 in
theorem Drop_nil {H : Hp} {w : World} {L : List Res} (hs : St H w (L))  (i : Int) (b_i : IB i) : Calls Tryd.prog 28 #[.pointer none, .int .i64 i] w (fun e w' => e = .returned (.int .i64 6) ∧ St H w' (L)) := by
  obtain ⟨b_i1, b_i2⟩ := b_i
  refine enter (args := [.pointer none, .int .i64 i]) (N := 22) Tryd.func28 rfl rfl rfl ?_
  refine c_seq ?_
  refine c_region ?_
  refine st (v := .int .i64 0) (x_assign .const) ?_
  refine c_nil ?_
  refine n_then ?_
  refine c_seq ?_
  refine c_seq ?_
  refine c_region ?_
  refine st (v := .pointer none) (x_move (.tmp rfl rfl)) ?_
  refine st (v := .int .i64 i) (x_move (.tmp rfl rfl)) ?_
  refine st_c cb36 .func (evs2 (.tmp rfl rfl) (.tmp rfl rfl)) (look_nil hs  i ⟨b_i1, b_i2⟩ ) ?_
  rintro e w1 ⟨rfl, hs2⟩
  refine ⟨_, rfl, ?_⟩
  refine st (v := .int .i64 6) (x_assign (.tmp rfl rfl)) ?_
  refine c_nil ?_
  refine n_then ?_
  refine c_seq ?_
  refine c_region ?_
  refine st (v := .int .i64 6) (x_move (.tmp rfl rfl)) ?_
  refine st (v := .bool true) (x_neq (k := .i64) (a := 6) (b := 0) (.tmp rfl rfl) .const) ?_
  refine c_nil ?_
  refine n_then ?_
  refine c_cond_t (t := true) (.tmp rfl rfl) rfl ?_
  refine c_seq ?_
  refine c_region ?_
  refine st (v := .int .i64 6) (x_move (.tmp rfl rfl)) ?_
  refine st (v := .int .i64 6) (x_assign (.tmp rfl rfl)) ?_
  refine c_nil ?_
  refine n_then ?_
  refine c_ret ?_
  refine r_then ?_
  refine leave_ret (res_one (v := .int .i64 6) rfl (.mk rfl rfl)) ?_
  exact ⟨rfl, hs2⟩

set_option maxHeartbeats 8000000 in
theorem Double_nil {H : Hp} {w : World} {L : List Res} (hs : St H w (L))  (i : Int) (b_i : IB i) : Calls Tryd.prog 20 #[.pointer none, .int .i64 i] w (fun e w' => e = .returned (.int .i64 6) ∧ St H w' (L)) := by
  obtain ⟨b_i1, b_i2⟩ := b_i
  refine enter (args := [.pointer none, .int .i64 i]) (N := 26) Tryd.func20 rfl rfl rfl ?_
  refine c_seq ?_
  refine c_region ?_
  refine st (v := .int .i64 0) (x_assign .const) ?_
  refine c_nil ?_
  refine n_then ?_
  refine c_seq ?_
  refine c_region ?_
  refine st (v := .pointer none) (x_move (.tmp rfl rfl)) ?_
  refine st (v := .int .i64 i) (x_move (.tmp rfl rfl)) ?_
  refine st_c cb21 .func (evs2 (.tmp rfl rfl) (.tmp rfl rfl)) (Peek_nil hs  i ⟨b_i1, b_i2⟩ ) ?_
  rintro e w1 ⟨rfl, hs2⟩
  refine ⟨_, rfl, ?_⟩
  refine st (v := .tuple #[.agg #[.int .i64 0, .int .i64 0, .slice none 0 0], .int .i64 6]) (x_move (.tmp rfl rfl)) ?_
  refine st (v := .agg #[.int .i64 0, .int .i64 0, .slice none 0 0]) (x_extract (.tmp rfl rfl) (i := 0) rfl) ?_
  refine st (v := .int .i64 6) (x_extract (.tmp rfl rfl) (i := 1) rfl) ?_
  refine st_m (al37 (cs := [.int .i64 0, .int .i64 0, .slice none 0 0]) hs2 rfl) ?_
  rintro _ w4 ⟨g3, rfl, hs6⟩
  refine st_m0 (sto37 (cs' := [.int .i64 0, .int .i64 0, .slice none 0 0]) (i := 0) hs6 (v := .agg #[.int .i64 0, .int .i64 0, .slice none 0 0]) (.tmp rfl rfl) (.tmp rfl rfl) rfl (Nat.le_of_ble_eq_true rfl) (oneA rfl) rfl) ?_
  rintro w7 hs9
  refine st (v := .int .i64 6) (x_assign (.tmp rfl rfl)) ?_
  refine c_nil ?_
  refine n_then ?_
  refine c_seq ?_
  refine c_seq ?_
  refine c_region ?_
  refine st (v := .int .i64 6) (x_move (.tmp rfl rfl)) ?_
  refine st (v := .bool true) (x_neq (k := .i64) (a := 6) (b := 0) (.tmp rfl rfl) .const) ?_
  refine c_nil ?_
  refine n_then ?_
  refine c_cond_t (t := true) (.tmp rfl rfl) rfl ?_
  refine c_seq ?_
  refine c_region ?_
  refine st (v := .int .i64 6) (x_move (.tmp rfl rfl)) ?_
  refine st (v := .int .i64 6) (x_assign (.tmp rfl rfl)) ?_
  refine c_nil ?_
  refine n_then ?_
  refine c_ret ?_
  refine r_then ?_
  refine leave_ret (res_one (v := .int .i64 6) rfl (.mk rfl rfl)) ?_
  exact ⟨rfl, hs9.drop⟩

set_option maxHeartbeats 8000000 in
theorem Turn_nil {H : Hp} {w : World} {L : List Res} (hs : St H w (L))  (i : Int) (b_i : IB i) (k : Int) (b_k : IB k) : Calls Tryd.prog 19 #[.pointer none, .int .i64 i, .int .i64 k] w (fun e w' => e = .returned (.int .i64 6) ∧ St H w' (L)) := by
  obtain ⟨b_i1, b_i2⟩ := b_i
  obtain ⟨b_k1, b_k2⟩ := b_k
  refine enter (args := [.pointer none, .int .i64 i, .int .i64 k]) (N := 59) Tryd.func19 rfl rfl rfl ?_
  refine c_seq ?_
  refine c_region ?_
  refine st (v := .int .i64 0) (x_assign .const) ?_
  refine c_nil ?_
  refine n_then ?_
  refine c_seq ?_
  refine c_seq ?_
  refine c_region ?_
  refine st (v := .pointer none) (x_move (.tmp rfl rfl)) ?_
  refine st (v := .int .i64 i) (x_move (.tmp rfl rfl)) ?_
  refine st_c cb36 .func (evs2 (.tmp rfl rfl) (.tmp rfl rfl)) (look_nil hs  i ⟨b_i1, b_i2⟩ ) ?_
  rintro e w1 ⟨rfl, hs2⟩
  refine ⟨_, rfl, ?_⟩
  refine st (v := .int .i64 6) (x_assign (.tmp rfl rfl)) ?_
  refine c_nil ?_
  refine n_then ?_
  refine c_seq ?_
  refine c_region ?_
  refine st (v := .int .i64 6) (x_move (.tmp rfl rfl)) ?_
  refine st (v := .bool true) (x_neq (k := .i64) (a := 6) (b := 0) (.tmp rfl rfl) .const) ?_
  refine c_nil ?_
  refine n_then ?_
  refine c_cond_t (t := true) (.tmp rfl rfl) rfl ?_
  refine c_seq ?_
  refine c_region ?_
  refine st (v := .int .i64 6) (x_move (.tmp rfl rfl)) ?_
  refine st (v := .int .i64 6) (x_assign (.tmp rfl rfl)) ?_
  refine c_nil ?_
  refine n_then ?_
  refine c_ret ?_
  refine r_then ?_
  refine leave_ret (res_one (v := .int .i64 6) rfl (.mk rfl rfl)) ?_
  exact ⟨rfl, hs2⟩

set_option maxHeartbeats 8000000 in
theorem set_nil {H : Hp} {w : World} {L : List Res} (hs : St H w (L))  (a : Int) (b_a : IB a) (b : Int) (b_b : IB b) {f_f : Nat} {cap_f : Array Value} (f : Nat → Int → Nat) (cb_f : Cb Tryd.prog f_f) (h_f : ∀ {w : World} {L : List Res} (hs : St H w L) (x0_ : Nat) (b_x0_ : x0_ < 65536) (x1_ : Int) (b_x1_ : IB x1_), Calls Tryd.prog f_f (#[.int .u16 ((x0_ : Nat) : Int), .int .i64 x1_] ++ cap_f) w (fun e w' => e = .returned (.int .u16 (((f x0_ x1_) : Nat) : Int)) ∧ St H w' L)) : Calls Tryd.prog 29 #[.pointer none, .int .i64 a, .int .i64 b, .func (.func f_f) #[] cap_f] w (fun e w' => e = .returned (.int .i64 6) ∧ St H w' (L)) := by
  obtain ⟨b_a1, b_a2⟩ := b_a
  obtain ⟨b_b1, b_b2⟩ := b_b
  refine enter (args := [.pointer none, .int .i64 a, .int .i64 b, .func (.func f_f) #[] cap_f]) (N := 56) Tryd.func29 rfl rfl rfl ?_
  refine c_seq ?_
  refine c_region ?_
  refine st (v := .int .i64 0) (x_assign .const) ?_
  refine c_nil ?_
  refine n_then ?_
  refine c_seq ?_
  refine c_block ?_
  refine c_seq ?_
  refine c_region ?_
  refine st (v := .pointer none) (x_move (.tmp rfl rfl)) ?_
  refine st (v := .bool true) (x_eqlP Tryd.underlying24 (.tmp rfl rfl) .const rfl) ?_
  refine st (v := .bool true) (x_assign (.tmp rfl rfl)) ?_
  refine c_nil ?_
  refine n_then ?_
  refine c_cond_t (t := true) (.tmp rfl rfl) rfl ?_
  refine c_seq ?_
  refine c_region ?_
  refine st (v := .int .i64 6) (x_assign .const) ?_
  refine c_nil ?_
  refine n_then ?_
  refine c_ret ?_
  refine r_block ?_
  refine r_then ?_
  refine leave_ret (res_one (v := .int .i64 6) rfl (.mk rfl rfl)) ?_
  exact ⟨rfl, hs⟩

theorem with_cl {H : Hp} {w : World} {L : List Res} (hs : St H w L) (s : Nat) (b_s : s < 65536) (i : Int) (b_i : IB i) : Calls Tryd.prog 39 #[.int .u16 ((s : Nat) : Int), .int .i64 i] w (fun e w' => e = .returned (.int .u16 ((wth s i : Nat) : Int)) ∧ St H w' L) := with_spec hs s i b_s b_i
theorem without_cl {H : Hp} {w : World} {L : List Res} (hs : St H w L) (s : Nat) (b_s : s < 65536) (i : Int) (b_i : IB i) : Calls Tryd.prog 30 #[.int .u16 ((s : Nat) : Int), .int .i64 i] w (fun e w' => e = .returned (.int .u16 ((wto s i : Nat) : Int)) ∧ St H w' L) := without_spec hs s i b_s b_i
set_option maxHeartbeats 8000000 in
theorem Cut_nil {H : Hp} {w : World} {L : List Res} (hs : St H w (L))  (a : Int) (b_a : IB a) (b : Int) (b_b : IB b) : Calls Tryd.prog 13 #[.pointer none, .int .i64 a, .int .i64 b] w (fun e w' => e = .returned (.int .i64 6) ∧ St H w' (L)) := by
  obtain ⟨b_a1, b_a2⟩ := b_a
  obtain ⟨b_b1, b_b2⟩ := b_b
  refine enter (args := [.pointer none, .int .i64 a, .int .i64 b]) (N := 11) Tryd.func13 rfl rfl rfl ?_
  refine c_seq ?_
  refine c_region ?_
  refine st (v := .int .i64 0) (x_assign .const) ?_
  refine c_nil ?_
  refine n_then ?_
  refine c_seq ?_
  refine c_region ?_
  refine st (v := .pointer none) (x_move (.tmp rfl rfl)) ?_
  refine st (v := .int .i64 a) (x_move (.tmp rfl rfl)) ?_
  refine st (v := .int .i64 b) (x_move (.tmp rfl rfl)) ?_
  refine st_c cb29 .func (evs4 (.tmp rfl rfl) (.tmp rfl rfl) (.tmp rfl rfl) .func) (set_nil hs  a ⟨b_a1, b_a2⟩ b ⟨b_b1, b_b2⟩ (fun (y0 : Nat) (y1 : Int) => (wto y0 y1)) cb30 (fun {_} {_} hs y0 h0 y1 h1 => without_cl hs y0 h0 y1 h1 ) ) ?_
  rintro e w1 ⟨rfl, hs2⟩
  refine ⟨_, rfl, ?_⟩
  refine st (v := .int .i64 6) (x_assign (.tmp rfl rfl)) ?_
  refine c_nil ?_
  refine n_then ?_
  refine c_ret ?_
  refine leave_ret (res_one (v := .int .i64 6) rfl (.mk rfl rfl)) ?_
  exact ⟨rfl, hs2⟩

set_option maxHeartbeats 8000000 in
theorem Join_nil {H : Hp} {w : World} {L : List Res} (hs : St H w (L))  (a : Int) (b_a : IB a) (b : Int) (b_b : IB b) : Calls Tryd.prog 24 #[.pointer none, .int .i64 a, .int .i64 b] w (fun e w' => e = .returned (.int .i64 6) ∧ St H w' (L)) := by
  obtain ⟨b_a1, b_a2⟩ := b_a
  obtain ⟨b_b1, b_b2⟩ := b_b
  refine enter (args := [.pointer none, .int .i64 a, .int .i64 b]) (N := 11) Tryd.func24 rfl rfl rfl ?_
  refine c_seq ?_
  refine c_region ?_
  refine st (v := .int .i64 0) (x_assign .const) ?_
  refine c_nil ?_
  refine n_then ?_
  refine c_seq ?_
  refine c_region ?_
  refine st (v := .pointer none) (x_move (.tmp rfl rfl)) ?_
  refine st (v := .int .i64 a) (x_move (.tmp rfl rfl)) ?_
  refine st (v := .int .i64 b) (x_move (.tmp rfl rfl)) ?_
  refine st_c cb29 .func (evs4 (.tmp rfl rfl) (.tmp rfl rfl) (.tmp rfl rfl) .func) (set_nil hs  a ⟨b_a1, b_a2⟩ b ⟨b_b1, b_b2⟩ (fun (y0 : Nat) (y1 : Int) => (wth y0 y1)) cb39 (fun {_} {_} hs y0 h0 y1 h1 => with_cl hs y0 h0 y1 h1 ) ) ?_
  rintro e w1 ⟨rfl, hs2⟩
  refine ⟨_, rfl, ?_⟩
  refine st (v := .int .i64 6) (x_assign (.tmp rfl rfl)) ?_
  refine c_nil ?_
  refine n_then ?_
  refine c_ret ?_
  refine leave_ret (res_one (v := .int .i64 6) rfl (.mk rfl rfl)) ?_
  exact ⟨rfl, hs2⟩

set_option maxHeartbeats 8000000 in
theorem Hear_nil {H : Hp} {w : World} {L : List Res} (hs : St H w (L))  (a : Int) (b_a : IB a) (b : Int) (b_b : IB b) : Calls Tryd.prog 15 #[.pointer none, .int .i64 a, .int .i64 b] w (fun e w' => e = .returned (.bool false) ∧ St H w' (L)) := by
  obtain ⟨b_a1, b_a2⟩ := b_a
  obtain ⟨b_b1, b_b2⟩ := b_b
  refine enter (args := [.pointer none, .int .i64 a, .int .i64 b]) (N := 24) Tryd.func15 rfl rfl rfl ?_
  refine c_seq ?_
  refine c_region ?_
  refine st (v := .bool false) (x_assign .const) ?_
  refine c_nil ?_
  refine n_then ?_
  refine c_seq ?_
  refine c_region ?_
  refine st (v := .pointer none) (x_move (.tmp rfl rfl)) ?_
  refine st (v := .bool false) (x_neqP Tryd.underlying24 (.tmp rfl rfl) .const rfl) ?_
  refine st (v := .bool false) (x_move (.tmp rfl rfl)) ?_
  refine g_no (yl (dj := 9) (b := false) rfl rfl rfl) rfl ?_
  refine g_no (yl (dj := 9) (b := false) rfl rfl rfl) rfl ?_
  refine g_no (yl (dj := 9) (b := false) rfl rfl rfl) rfl ?_
  refine st (v := .bool false) (x_pick_f (.tmp rfl rfl) .const) ?_
  refine st (v := .bool false) (x_move (.tmp rfl rfl)) ?_
  refine g_no (yl (dj := 14) (b := false) rfl rfl rfl) rfl ?_
  refine g_no (yl (dj := 14) (b := false) rfl rfl rfl) rfl ?_
  refine g_no (yl (dj := 14) (b := false) rfl rfl rfl) rfl ?_
  refine g_no (yl (dj := 14) (b := false) rfl rfl rfl) rfl ?_
  refine g_no (yl (dj := 14) (b := false) rfl rfl rfl) rfl ?_
  refine g_no (yl (dj := 14) (b := false) rfl rfl rfl) rfl ?_
  refine g_no (yl (dj := 14) (b := false) rfl rfl rfl) rfl ?_
  refine g_no (yl (dj := 14) (b := false) rfl rfl rfl) rfl ?_
  refine st (v := .bool false) (x_pick_f (.tmp rfl rfl) .const) ?_
  refine st (v := .bool false) (x_assign (.tmp rfl rfl)) ?_
  refine c_nil ?_
  refine n_then ?_
  refine c_ret ?_
  refine leave_ret (res_one (v := .bool false) rfl (.mk rfl rfl)) ?_
  exact ⟨rfl, hs⟩

set_option maxHeartbeats 8000000 in
theorem Class_nil {H : Hp} {w : World} {L : List Res} (hs : St H w (L))  (a : Int) (b_a : IB a) : Calls Tryd.prog 14 #[.pointer none, .int .i64 a] w (fun e w' => e = .returned (.int .u16 ((0 : Nat) : Int)) ∧ St H w' (L)) := by
  obtain ⟨b_a1, b_a2⟩ := b_a
  refine enter (args := [.pointer none, .int .i64 a]) (N := 47) Tryd.func14 rfl rfl rfl ?_
  refine c_seq ?_
  refine c_region ?_
  refine st (v := .int .u16 0) (x_assign .const) ?_
  refine c_nil ?_
  refine n_then ?_
  refine c_seq ?_
  refine c_seq ?_
  refine c_region ?_
  refine st (v := .pointer none) (x_move (.tmp rfl rfl)) ?_
  refine st (v := .bool true) (x_eqlP Tryd.underlying24 (.tmp rfl rfl) .const rfl) ?_
  refine st (v := .bool true) (x_move (.tmp rfl rfl)) ?_
  refine g_no (yl (dj := 9) (b := true) rfl rfl rfl) rfl ?_
  refine g_no (yl (dj := 9) (b := true) rfl rfl rfl) rfl ?_
  refine g_no (yl (dj := 9) (b := true) rfl rfl rfl) rfl ?_
  refine g_no (yl (dj := 9) (b := true) rfl rfl rfl) rfl ?_
  refine st (v := .bool true) (x_pick_t (.tmp rfl rfl) .const) ?_
  refine c_nil ?_
  refine n_then ?_
  refine c_cond_t (t := true) (.tmp rfl rfl) rfl ?_
  refine c_seq ?_
  refine c_region ?_
  refine st (v := .int .u16 0) (x_assign .const) ?_
  refine c_nil ?_
  refine n_then ?_
  refine c_ret ?_
  refine r_then ?_
  refine leave_ret (res_one (v := .int .u16 0) rfl (.mk rfl rfl)) ?_
  exact ⟨rfl, hs⟩

end Go.Proofs.YtojlmilkdijiaaaDoor
