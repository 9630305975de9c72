/- Steps of the proofs over the functions of this seat, printed by a program (gen.py) and checked by Lean. -/
import Derived.Test.YtkbllbphkdnmbaaTy
import Derived.Test.YtkbllbphkdnmbaaFmM6
import Derived.Test.YtkbllbphkdnmbaaU6e
set_option linter.unusedVariables false
set_option linter.unusedSimpArgs false
namespace Go.Proofs.Ytkbllbphkdnmbaa
open Go Go.FM Go.Proofs
attribute [local irreducible] wpList wpQuiet wpS Code.wp Calls
set_option maxHeartbeats 8000000 in
theorem cutRests_spec {H : Hp} {w : World} {L : List Res} (hs : St H w (L)) {A_l : Option Addr} {n_l c_l : Nat} (l : (List GState)) (h_l : Sl kState H A_l n_l c_l l) (v : GViewID) {k_v : List Value} (h_v : kViewID.rep H v k_v) (had : Int) (b_had : IB had) : Calls Try.prog 3 #[.slice A_l n_l c_l, .agg k_v.toArray, .int .i64 had] w (fun e w' => e = .returned (.bool true) ∧ St H w' (L)) := by
  have := h_l.len; have := h_l.le; have : n_l * 48 ≤ 140737488351232 := h_l.bnd
  obtain ⟨rfl, b1, ⟨b2, b3⟩⟩ := h_v
  obtain ⟨b_had1, b_had2⟩ := b_had
  refine enter (args := [.slice A_l n_l c_l, .agg #[.int .u64 ((v.N : Nat) : Int), .int .i64 v.P], .int .i64 had]) (N := 44) Try.func3 rfl rfl rfl ?_
  refine c_seq ?_
  refine c_region ?_
  refine st_m (m_box (cs := [.int .u64 ((v.N : Nat) : Int), .int .i64 v.P]) hs (v := .agg #[.int .u64 ((v.N : Nat) : Int), .int .i64 v.P]) (.tmp rfl rfl) rfl) ?_
  rintro _ w5 ⟨g4, rfl, hs7⟩
  refine st (v := .bool false) (x_assign .const) ?_
  refine c_nil ?_
  refine n_then ?_
  refine c_seq ?_
  refine c_seq ?_
  refine c_region ?_
  refine st_c cb10 .func (evs0 ) (awake_spec hs7  ) ?_
  rintro e w8 ⟨rfl, hs9⟩
  refine ⟨_, rfl, ?_⟩
  refine st (v := .bool false) (x_not (b := true) (.tmp rfl rfl)) ?_
  refine st (v := .bool false) (x_move (.tmp rfl rfl)) ?_
  refine g_yes (yl (dj := 14) (b := false) rfl rfl rfl) ?_
  refine st (v := .slice A_l n_l c_l) (x_move (.tmp rfl rfl)) ?_
  refine g_yes (yl (dj := 14) (b := false) rfl rfl rfl) ?_
  refine st_c cb11 .func (evs1 (.tmp rfl rfl)) (right_spec hs9 l h_l ) ?_
  rintro e w10 ⟨rfl, hs11⟩
  refine ⟨_, rfl, ?_⟩
  refine g_yes (yl (dj := 14) (b := false) rfl rfl rfl) ?_
  refine st (v := .bool (!(rightS l))) (x_not (.tmp rfl rfl)) ?_
  refine st (v := .bool (!(rightS l))) (x_pick_f (.tmp rfl rfl) (.tmp rfl rfl)) ?_
  refine c_nil ?_
  refine n_then ?_
  rcases Bool.eq_false_or_eq_true (rightS l) with hc12 | hc12
  · refine c_cond_f (t := false) (.tmp rfl (congrArg Value.bool (by rw [hc12]; rfl))) rfl ?_
    refine c_skip ?_
    refine n_then ?_
    refine c_seq ?_
    refine c_region ?_
    have hrt := rightS_spec hc12; have hjl : (joinS l).length ≤ 40 := Nat.le_trans (joinTo_length l l.length) hrt.2
    refine st (v := .slice A_l n_l c_l) (x_move (.tmp rfl rfl)) ?_
    refine st_c cb12 .func (evs1 (.tmp rfl rfl)) (rjoin_spec hs11 l h_l hrt.1) ?_
    rintro e w13 ⟨v15, cs18, rfl, ok16, hk19, hs14⟩
    have := h_l.len
    refine ⟨_, rfl, ?_⟩
    refine st (v := v15) (x_assign (.tmp rfl rfl)) ?_
    refine c_nil ?_
    refine n_then ?_
    refine c_seq ?_
    refine c_region ?_
    refine st (v := v15) (x_move (.tmp rfl rfl)) ?_
    refine st (v := .agg #[.int .u64 ((v.N : Nat) : Int), .int .i64 v.P]) (ld25 (cs := [.int .u64 ((v.N : Nat) : Int), .int .i64 v.P]) (.tmp rfl rfl) (hs14.at_ 1 rfl (0) rfl) rfl) ?_
    refine st (v := .int .i64 had) (x_move (.tmp rfl rfl)) ?_
    have : (joinS l).length * 48 ≤ 140737488351232 := by omega
    obtain ⟨H20, A21, c22, hle23, hs24, rfl, sp25⟩ := hs14.freezeSl (d := kState) ok16 hk19 this
    have := sp25.len; have := sp25.le
    have hr26 : kViewID.rep H20 v [.int .u64 ((v.N : Nat) : Int), .int .i64 v.P] := ⟨rfl, b1, ⟨b2, b3⟩⟩
    refine st_c cb13 .func (evs3 (.tmp rfl rfl) (.tmp rfl rfl) (.tmp rfl rfl)) (rest_spec hs24 (joinS l) sp25 v hr26 had ⟨b_had1, b_had2⟩ (fun s hs => hrt.1 s (joinTo_mem l _ s hs).1)) ?_
    rintro e w27 ⟨H29, A31, n32, c33, hle30, rfl, sp34, hs28⟩
    have := sp34.len; have := sp34.le; have : n32 * 32 ≤ 140737488351232 := sp34.bnd
    refine ⟨_, rfl, ?_⟩
    refine st (v := .tuple #[.slice A31 n32 c33, .int .i64 (((restS (joinS l) v had).2 : Nat) : Int)]) (x_move (.tmp rfl rfl)) ?_
    refine st (v := .slice A31 n32 c33) (x_extract (.tmp rfl rfl) (i := 0) rfl) ?_
    refine st (v := .int .i64 (((restS (joinS l) v had).2 : Nat) : Int)) (x_extract (.tmp rfl rfl) (i := 1) rfl) ?_
    refine st (v := .slice A31 n32 c33) (x_assign (.tmp rfl rfl)) ?_
    refine st (v := .int .i64 (((restS (joinS l) v had).2 : Nat) : Int)) (x_assign (.tmp rfl rfl)) ?_
    refine c_nil ?_
    refine n_then ?_
    refine c_seq ?_
    refine c_region ?_
    refine st (v := .slice A21 ((joinS l).length) c22) (x_move (.tmp rfl rfl)) ?_
    refine st (v := .agg #[.int .u64 ((v.N : Nat) : Int), .int .i64 v.P]) (ld25 (cs := [.int .u64 ((v.N : Nat) : Int), .int .i64 v.P]) (.tmp rfl rfl) (hs28.at_ 0 rfl (0) rfl) rfl) ?_
    refine st (v := .int .i64 had) (x_move (.tmp rfl rfl)) ?_
    have hr35 : kViewID.rep H29 v [.int .u64 ((v.N : Nat) : Int), .int .i64 v.P] := ⟨rfl, b1, ⟨b2, b3⟩⟩
    refine st_c cb14 .func (evs3 (.tmp rfl rfl) (.tmp rfl rfl) (.tmp rfl rfl)) (rrest_spec hs28 (joinS l) (sp25.mono hle30) v hr35 had ⟨b_had1, b_had2⟩ (fun s hs => hrt.1 s (joinTo_mem l _ s hs).1)) ?_
    rintro e w36 ⟨A38, n39, c40, rfl, sp41, hs37⟩
    have := sp41.len; have := sp41.le; have : n39 * 32 ≤ 140737488351232 := sp41.bnd
    refine ⟨_, rfl, ?_⟩
    refine st (v := .tuple #[.slice A38 n39 c40, .int .i64 (((restS (joinS l) v had).2 : Nat) : Int)]) (x_move (.tmp rfl rfl)) ?_
    refine st (v := .slice A38 n39 c40) (x_extract (.tmp rfl rfl) (i := 0) rfl) ?_
    refine st (v := .int .i64 (((restS (joinS l) v had).2 : Nat) : Int)) (x_extract (.tmp rfl rfl) (i := 1) rfl) ?_
    refine st (v := .slice A38 n39 c40) (x_assign (.tmp rfl rfl)) ?_
    refine st (v := .int .i64 (((restS (joinS l) v had).2 : Nat) : Int)) (x_assign (.tmp rfl rfl)) ?_
    refine c_nil ?_
    refine n_then ?_
    refine c_seq ?_
    refine c_region ?_
    refine st (v := .int .i64 (((restS (joinS l) v had).2 : Nat) : Int)) (x_move (.tmp rfl rfl)) ?_
    refine st (v := .int .i64 (((restS (joinS l) v had).2 : Nat) : Int)) (x_move (.tmp rfl rfl)) ?_
    refine st (v := .bool (decide (((((restS (joinS l) v had).2 : Nat) : Int) : Int) = (((restS (joinS l) v had).2 : Nat) : Int)))) (x_eql (k := .i64) (a := (((restS (joinS l) v had).2 : Nat) : Int)) (b := (((restS (joinS l) v had).2 : Nat) : Int)) (.tmp rfl rfl) (.tmp rfl rfl)) ?_
    refine st (v := .bool true) (x_move (.tmp rfl (congrArg Value.bool (show (decide (((((restS (joinS l) v had).2 : Nat) : Int) : Int) = (((restS (joinS l) v had).2 : Nat) : Int))) = true from by simp)))) ?_
    refine g_yes (yl (dj := 39) (b := true) rfl rfl rfl) ?_
    refine st (v := .slice A31 n32 c33) (x_move (.tmp rfl rfl)) ?_
    refine g_yes (yl (dj := 39) (b := true) rfl rfl rfl) ?_
    refine st (v := .slice A38 n39 c40) (x_move (.tmp rfl rfl)) ?_
    refine g_yes (yl (dj := 39) (b := true) rfl rfl rfl) ?_
    refine st_c cb15 .func (evs2 (.tmp rfl rfl) (.tmp rfl rfl)) (items_spec hs37 ((restS (joinS l) v had).1) sp34 ((restS (joinS l) v had).1) sp41 ) ?_
    rintro e w42 ⟨rfl, hs43⟩
    refine ⟨_, rfl, ?_⟩
    refine st (v := .bool (decide (((restS (joinS l) v had).1) = ((restS (joinS l) v had).1)))) (x_pick_t (.tmp rfl rfl) (.tmp rfl rfl)) ?_
    refine st (v := .bool (decide (((restS (joinS l) v had).1) = ((restS (joinS l) v had).1)))) (x_assign (.tmp rfl rfl)) ?_
    refine c_nil ?_
    refine n_then ?_
    refine c_ret ?_
    refine leave_ret (res_one (v := .bool (decide (((restS (joinS l) v had).1) = ((restS (joinS l) v had).1)))) rfl (.mk rfl rfl)) ?_
    have hyes : (decide (((restS (joinS l) v had).1) = ((restS (joinS l) v had).1))) = true := (by simp)
    rw [hyes]
    exact ⟨rfl, (hs43.drop.weaken (hle23.trans hle30))⟩
  · refine c_cond_t (t := true) (.tmp rfl (congrArg Value.bool (by rw [hc12]; rfl))) rfl ?_
    refine c_seq ?_
    refine c_region ?_
    refine st_c cb10 .func (evs0 ) (awake_spec hs11  ) ?_
    rintro e w44 ⟨rfl, hs45⟩
    refine ⟨_, rfl, ?_⟩
    refine st (v := .bool true) (x_assign (.tmp rfl rfl)) ?_
    refine c_nil ?_
    refine n_then ?_
    refine c_ret ?_
    refine r_then ?_
    refine leave_ret (res_one (v := .bool true) rfl (.mk rfl rfl)) ?_
    exact ⟨rfl, hs45.drop⟩

end Go.Proofs.Ytkbllbphkdnmbaa
