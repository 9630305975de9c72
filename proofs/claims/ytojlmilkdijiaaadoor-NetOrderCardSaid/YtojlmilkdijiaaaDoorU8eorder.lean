/- Steps of the proofs over the functions of this seat, printed by a program (gen.py) and checked by Lean. -/
import Derived.Test.YtojlmilkdijiaaaDoorUty
import Derived.Test.YtojlmilkdijiaaaDoorFmM4b
import Derived.Test.YtojlmilkdijiaaaDoorFmP
import Derived.Test.YtojlmilkdijiaaaDoorFmN8
import Derived.Test.YtojlmilkdijiaaaDoorU8d
set_option linter.unusedVariables false
set_option linter.unusedSimpArgs false
namespace Go.Proofs.YtojlmilkdijiaaaDoor
open Go Go.FM Go.Proofs
attribute [local irreducible] wpList wpQuiet wpS Code.wp Calls
set_option maxHeartbeats 8000000 in
theorem order_spec {H : Hp} {w : World} {L : List Res} (hs : St H w (L)) {A_l : Option Addr} {n_l c_l : Nat} (l : (List (List Nat))) (h_l : Sl kBs H A_l n_l c_l l) {A_picks : Option Addr} {n_picks c_picks : Nat} (picks : List Nat) (h_picks : By H A_picks n_picks c_picks picks) (htab : Tab H) : Calls Tryd.prog 5 #[.slice A_l n_l c_l, .slice A_picks n_picks c_picks] w (fun e w' => e = .returned (.bool true) ∧ St H w' (L)) := by
  have := h_l.len; have := h_l.le; have : n_l * 24 ≤ 140737488351232 := h_l.bnd
  have := h_picks.len; have := h_picks.le; have := h_picks.bnd
  refine enter (args := [.slice A_l n_l c_l, .slice A_picks n_picks c_picks]) (N := 160) Tryd.func5 rfl rfl rfl ?_
  refine c_seq ?_
  refine c_region ?_
  refine st (v := .bool false) (x_assign .const) ?_
  refine c_nil ?_
  refine n_then ?_
  refine c_seq ?_
  refine c_seq ?_
  refine c_region ?_
  refine st_c cb11 .func (evs0 ) (awake_spec hs  htab) ?_
  rintro e w1 ⟨rfl, hs2⟩
  refine ⟨_, rfl, ?_⟩
  refine st (v := .bool false) (x_not (b := true) (.tmp rfl rfl)) ?_
  refine st (v := .bool false) (x_move (.tmp rfl rfl)) ?_
  refine g_yes (yl (dj := 20) (b := false) rfl rfl rfl) ?_
  refine st (v := .slice A_l n_l c_l) (x_move (.tmp rfl rfl)) ?_
  refine g_yes (yl (dj := 20) (b := false) rfl rfl rfl) ?_
  refine st (v := .int .i64 ((n_l : Nat) : Int)) (x_len (n := n_l) Tryd.underlying43 (.tmp rfl rfl)) ?_
  refine g_yes (yl (dj := 20) (b := false) rfl rfl rfl) ?_
  refine st (v := .bool (decide ((60 : Int) < ((n_l : Nat) : Int)))) (x_gtr (k := .i64) (a := ((n_l : Nat) : Int)) (b := 60) (.tmp rfl rfl) .const) ?_
  refine st (v := .bool (decide ((60 : Int) < ((n_l : Nat) : Int)))) (x_pick_f (.tmp rfl rfl) (.tmp rfl rfl)) ?_
  refine c_nil ?_
  refine n_then ?_
  rcases Bool.eq_false_or_eq_true (decide ((60 : Int) < ((n_l : Nat) : Int))) with hc3 | hc3
  · have hp3 : (60 : Int) < ((n_l : Nat) : Int) := of_decide_eq_true hc3
    refine c_cond_t (t := true) (.tmp rfl (congrArg Value.bool hc3)) rfl ?_
    refine c_seq ?_
    refine c_region ?_
    refine st_c cb11 .func (evs0 ) (awake_spec hs2  htab) ?_
    rintro e w4 ⟨rfl, hs5⟩
    refine ⟨_, rfl, ?_⟩
    refine st (v := .bool true) (x_assign (.tmp rfl rfl)) ?_
    refine c_nil ?_
    refine n_then ?_
    refine c_ret ?_
    refine r_then ?_
    refine leave_ret (res_one (v := .bool true) rfl (.mk rfl rfl)) ?_
    exact ⟨rfl, hs5⟩
  · have hp3 : ¬ ((60 : Int) < ((n_l : Nat) : Int)) := of_decide_eq_false hc3
    refine c_cond_f (t := false) (.tmp rfl (congrArg Value.bool hc3)) rfl ?_
    refine c_skip ?_
    refine n_then ?_
    refine c_seq ?_
    refine c_region ?_
    refine st_c cb12 .func (evs1 .const) (new_spec hs2 2 ⟨by omega, by omega⟩ (by omega) (by omega)) ?_
    rintro e w6 ⟨g8, vb9, cb10, vt11, ct12, rfl, ok13, hs7⟩
    refine ⟨_, rfl, ?_⟩
    refine st (v := .tuple #[.pointer (some ⟨g8, 0, none⟩), .int .i64 0]) (x_move (.tmp rfl rfl)) ?_
    refine st (v := .pointer (some ⟨g8, 0, none⟩)) (x_extract (.tmp rfl rfl) (i := 0) rfl) ?_
    refine st (v := .int .i64 0) (x_extract (.tmp rfl rfl) (i := 1) rfl) ?_
    refine st (v := .pointer (some ⟨g8, 0, none⟩)) (x_assign (.tmp rfl rfl)) ?_
    refine st (v := .int .i64 0) (x_assign (.tmp rfl rfl)) ?_
    refine c_nil ?_
    refine n_then ?_
    refine c_seq ?_
    refine c_region ?_
    refine st_c cb12 .func (evs1 .const) (new_spec hs7 2 ⟨by omega, by omega⟩ (by omega) (by omega)) ?_
    rintro e w16 ⟨g18, vb19, cb20, vt21, ct22, rfl, ok23, hs17⟩
    refine ⟨_, rfl, ?_⟩
    refine st (v := .tuple #[.pointer (some ⟨g18, 0, none⟩), .int .i64 0]) (x_move (.tmp rfl rfl)) ?_
    refine st (v := .pointer (some ⟨g18, 0, none⟩)) (x_extract (.tmp rfl rfl) (i := 0) rfl) ?_
    refine st (v := .int .i64 0) (x_extract (.tmp rfl rfl) (i := 1) rfl) ?_
    refine st (v := .pointer (some ⟨g18, 0, none⟩)) (x_assign (.tmp rfl rfl)) ?_
    refine st (v := .int .i64 0) (x_assign (.tmp rfl rfl)) ?_
    refine c_nil ?_
    refine n_then ?_
    refine c_seq ?_
    refine c_seq ?_
    refine c_region ?_
    refine st (v := .int .i64 0) (x_assign .const) ?_
    refine c_nil ?_
    refine n_then ?_
    refine c_block ?_
    refine c_loop (fun ρ w mm => ∃ (H26 : Hp) (i : Nat) (sa : NetS) (vbsa : Value) (cbsa : List Value) (vtsa : Value) (ctsa : List Value) (sb : NetS) (vbsb : Value) (cbsb : List Value) (vtsb : Value) (ctsb : List Value) (ka : List Int) (kb : List Int), ρ 0 = .slice A_l n_l c_l ∧ ρ 1 = .slice A_picks n_picks c_picks ∧ ρ 5 = .pointer (some ⟨g8, 0, none⟩) ∧ ρ 7 = .pointer (some ⟨g18, 0, none⟩) ∧ ρ 9 = .int .i64 ((i : Nat) : Int) ∧ (H.le H26) ∧ (NetOk H26 sa vbsa cbsa vtsa ctsa) ∧ (NetOk H26 sb vbsb cbsb vtsb ctsb) ∧ (TwoAt sa (msgs l (List.range i)) ka) ∧ (TwoAt sb (msgs l (List.range i)) kb) ∧ (i ≤ n_l) ∧ St H26 w (netG 64 37 3 5 g18 sb vbsb cbsb vtsb ctsb (netG 64 37 3 5 g8 sa vbsa cbsa vtsa ctsa (L))) ∧ mm = n_l - i) _ ⟨H, 0, netNew 2, vb9, cb10, vt11, ct12, netNew 2, vb19, cb20, vt21, ct22, [], [], rfl, rfl, rfl, rfl, rfl, (Hp.le.refl _), ok13, ok23, TwoAt.new, TwoAt.new, (by omega), hs17, rfl⟩ ?_
    rintro ρ w mm ⟨H26, i, sa, vbsa, cbsa, vtsa, ctsa, sb, vbsb, cbsb, vtsb, ctsb, ka, kb, hρ28, hρ29, hρ30, hρ31, hρ32, hg27, oksa, oksb, hA, hB, hi, hs33, rfl⟩
    refine c_seq ?_
    refine c_seq ?_
    refine c_region ?_
    refine st (v := .int .i64 ((i : Nat) : Int)) (x_move (.tmp rfl hρ32)) ?_
    refine st (v := .slice A_l n_l c_l) (x_move (.tmp rfl hρ28)) ?_
    refine st (v := .int .i64 ((n_l : Nat) : Int)) (x_len (n := n_l) Tryd.underlying43 (.tmp rfl rfl)) ?_
    refine st (v := .bool (decide ((((i : Nat) : Int) : Int) < ((n_l : Nat) : Int)))) (x_lss (k := .i64) (a := ((i : Nat) : Int)) (b := ((n_l : Nat) : Int)) (.tmp rfl rfl) (.tmp rfl rfl)) ?_
    refine c_nil ?_
    refine n_then ?_
    rcases Bool.eq_false_or_eq_true (decide ((((i : Nat) : Int) : Int) < ((n_l : Nat) : Int))) with hc34 | hc34
    · have hp34 : (((i : Nat) : Int) : Int) < ((n_l : Nat) : Int) := of_decide_eq_true hc34
      refine c_cond_t (t := true) (.tmp rfl (congrArg Value.bool hc34)) rfl ?_
      refine c_skip ?_
      refine n_then ?_
      refine c_seq ?_
      refine c_block ?_
      refine c_seq ?_
      refine c_region ?_
      refine st (v := .int .i64 ((i : Nat) : Int)) (x_move (.tmp rfl hρ32)) ?_
      have hb35 : i < 256 := by omega
      refine st (v := .int .u8 ((i : Nat) : Int)) (x_conv (k := .i64) (a := ((i : Nat) : Int)) Tryd.underlying3 Tryd.underlying5 (.tmp rfl rfl) (wU rfl rfl hb35)) ?_
      refine st_m (m_lit (n := 1) (ps := [(0, .int .u8 ((i : Nat) : Int))]) (cs := [.int .u8 ((i : Nat) : Int)]) Tryd.underlying22 inf5 (.cons (.tmp rfl rfl) Evp.nil) (by decide) (by decide) rfl rfl hs33) ?_
      rintro _ w37 ⟨g36, rfl, hs39⟩
      refine st (v := .slice A_l n_l c_l) (x_move (.tmp rfl hρ28)) ?_
      refine st (v := .int .i64 ((i : Nat) : Int)) (x_move (.tmp rfl hρ32)) ?_
      obtain ⟨e40, b41, o42, cs43, hx44, hA45, hr46, hat47⟩ := (h_l.mono hg27).get (i := i) (by omega)
      obtain ⟨A48, n49, c50, rfl, hy51⟩ := hr46
      have := hy51.len; have := hy51.bnd; have := hy51.le
      have hat47x : ∀ {w : World} {L : List Res}, St H26 w L → At w ⟨b41, o42 + i * 1, none⟩ [.slice A48 n49 c50] := fun h => hat47 h
      refine st (v := .pointer (some ⟨b41, (o42 + i * 1), none⟩)) (ixo43 (.tmp rfl rfl) hA45 (i := ((i : Nat) : Int)) (.tmp rfl rfl) (by omega) (by omega) (by omega)) ?_
      refine st (v := .slice A48 n49 c50) (ld22 (.tmp rfl rfl) ((hat47x hs39).cell 0 rfl)) ?_
      obtain ⟨hs53, ok54⟩ := hs39.rowOfObj (n := 1) (size := 1) rfl (by decide)
      have hs55 : St H26 _ (row 5 1 (.slice (some ⟨g36, 0, none⟩) 1 1) 1 ([i].map encB) :: netG 64 37 3 5 g18 sb vbsb cbsb vtsb ctsb (netG 64 37 3 5 g8 sa vbsa cbsa vtsa ctsa (L))) := hs53
      refine st_m (m_appBs Tryd.underlying22 inf5 hs55 ok54 (.tmp rfl rfl) (.tmp rfl rfl) hy51.toBs (by omega)) ?_
      rintro v56 w57 ⟨ok58, hs59⟩
      obtain ⟨A60, c61, rfl, hc62⟩ := ok58.slice
      skip
      refine st (v := .agg #[.int .i64 0, .int .i64 1, .slice A60 (1 + n49) c61]) (bl37 (ps := [(1, .int .i64 1), (2, .slice A60 (1 + n49) c61)]) (.cons .const (.cons (.tmp rfl rfl) Evp.nil)) rfl) ?_
      refine st_m (al37 (cs := [.int .i64 0, .int .i64 0, .slice none 0 0]) hs59 rfl) ?_
      rintro _ w65 ⟨g63, rfl, hs67⟩
      refine st_m0 (sto37 (cs' := [.int .i64 0, .int .i64 1, .slice A60 (1 + n49) c61]) (i := 0) hs67 (v := .agg #[.int .i64 0, .int .i64 1, .slice A60 (1 + n49) c61]) (.tmp rfl rfl) (.tmp rfl rfl) rfl (Nat.le_of_ble_eq_true rfl) (oneA rfl) rfl) ?_
      rintro w68 hs70
      refine c_nil ?_
      refine n_then ?_
      refine c_seq ?_
      refine c_region ?_
      refine st (v := .slice A_l n_l c_l) (x_move (.tmp rfl hρ28)) ?_
      refine st (v := .int .i64 ((i : Nat) : Int)) (x_move (.tmp rfl hρ32)) ?_
      refine st (v := .pointer (some ⟨b41, (o42 + i * 1), none⟩)) (ixo43 (.tmp rfl rfl) hA45 (i := ((i : Nat) : Int)) (.tmp rfl rfl) (by omega) (by omega) (by omega)) ?_
      refine st (v := .slice A48 n49 c50) (ld22 (.tmp rfl rfl) ((hat47x hs70).cell 0 rfl)) ?_
      refine st (v := .int .i64 ((n49 : Nat) : Int)) (x_len (n := n49) Tryd.underlying22 (.tmp rfl rfl)) ?_
      refine st (v := .bool (decide ((1000 : Int) < ((n49 : Nat) : Int)))) (x_gtr (k := .i64) (a := ((n49 : Nat) : Int)) (b := 1000) (.tmp rfl rfl) .const) ?_
      refine st (v := .bool (decide ((1000 : Int) < ((n49 : Nat) : Int)))) (x_move (.tmp rfl rfl)) ?_
      rcases Bool.eq_false_or_eq_true (decide ((1000 : Int) < ((n49 : Nat) : Int))) with hc71 | hc71
      · have hp71 : (1000 : Int) < ((n49 : Nat) : Int) := of_decide_eq_true hc71
        refine g_no (yl (dj := 55) (b := true) rfl rfl (congrArg Value.bool hc71)) rfl ?_
        refine g_no (yl (dj := 55) (b := true) rfl rfl (congrArg Value.bool hc71)) rfl ?_
        refine g_no (yl (dj := 55) (b := true) rfl rfl (congrArg Value.bool hc71)) rfl ?_
        refine g_no (yl (dj := 55) (b := true) rfl rfl (congrArg Value.bool hc71)) rfl ?_
        refine st (v := .bool true) (x_pick_t (.tmp rfl (congrArg Value.bool hc71)) .const) ?_
        refine st (v := .bool true) (x_move (.tmp rfl rfl)) ?_
        refine g_no (yl (dj := 61) (b := true) rfl rfl rfl) rfl ?_
        refine g_no (yl (dj := 61) (b := true) rfl rfl rfl) rfl ?_
        refine g_no (yl (dj := 61) (b := true) rfl rfl rfl) rfl ?_
        refine g_no (yl (dj := 61) (b := true) rfl rfl rfl) rfl ?_
        refine st (v := .bool true) (x_pick_t (.tmp rfl rfl) .const) ?_
        refine c_nil ?_
        refine n_then ?_
        refine c_cond_t (t := true) (.tmp rfl rfl) rfl ?_
        refine c_seq ?_
        refine c_region ?_
        refine st (v := .slice A_l n_l c_l) (x_move (.tmp rfl hρ28)) ?_
        refine st (v := .int .i64 ((i : Nat) : Int)) (x_move (.tmp rfl hρ32)) ?_
        refine st (v := .pointer (some ⟨b41, (o42 + i * 1), none⟩)) (ixo43 (.tmp rfl rfl) hA45 (i := ((i : Nat) : Int)) (.tmp rfl rfl) (by omega) (by omega) (by omega)) ?_
        refine st (v := .slice A48 n49 c50) (ld22 (.tmp rfl rfl) ((hat47x hs70).cell 0 rfl)) ?_
        refine st (v := .int .i64 ((n49 : Nat) : Int)) (x_len (n := n49) Tryd.underlying22 (.tmp rfl rfl)) ?_
        refine st (v := .bool (decide ((1000 : Int) < ((n49 : Nat) : Int)))) (x_gtr (k := .i64) (a := ((n49 : Nat) : Int)) (b := 1000) (.tmp rfl rfl) .const) ?_
        refine st (v := .bool true) (x_assign (.tmp rfl (congrArg Value.bool hc71))) ?_
        refine c_nil ?_
        refine n_then ?_
        refine c_ret ?_
        refine r_block ?_
        refine r_then ?_
        refine r_then ?_
        refine r_block ?_
        refine r_then ?_
        refine leave_ret (res_one (v := .bool true) rfl (.mk rfl rfl)) ?_
        exact ⟨rfl, (hs70.drop.drop.netDrop.netDrop.weaken hg27)⟩
      · have hp71 : ¬ ((1000 : Int) < ((n49 : Nat) : Int)) := of_decide_eq_false hc71
        refine g_yes (yl (dj := 55) (b := false) rfl rfl (congrArg Value.bool hc71)) ?_
        refine st (v := .pointer (some ⟨g8, 0, none⟩)) (x_move (.tmp rfl hρ30)) ?_
        refine g_yes (yl (dj := 55) (b := false) rfl rfl (congrArg Value.bool hc71)) ?_
        refine st (v := .agg #[.int .i64 0, .int .i64 1, .slice A60 (1 + n49) c61]) (ld37 (cs := [.int .i64 0, .int .i64 1, .slice A60 (1 + n49) c61]) (.tmp rfl rfl) (hs70.at_ 0 rfl (0) rfl) rfl) ?_
        refine g_yes (yl (dj := 55) (b := false) rfl rfl (congrArg Value.bool hc71)) ?_
        skip
        have hs72 : St H26 _ (row 5 1 (.slice A60 (1 + n49) c61) (1 + n49) (([i] ++ e40).map encB) :: obj g63 37 [.int .i64 0, .int .i64 1, .slice A60 (1 + n49) c61] :: netG 64 37 3 5 g18 sb vbsb cbsb vtsb ctsb (netG 64 37 3 5 g8 sa vbsa cbsa vtsa ctsa (L))) := hs70.pick 1 rfl rfl
        obtain ⟨H73, hle76, hs77, hp78, _⟩ := hs72.lendBsC ok58 ((Small.cons (show i < 256 by omega) Small.nil).append hy51.toBs.lt) (by omega)
        have hp78 := hp78.toBs
        have hy79 : By H73 A60 (1 + n49) c61 ([i] ++ e40) := ⟨hp78, by omega⟩
        have hs80 : St H73 _ (netG 64 37 3 5 g8 sa vbsa cbsa vtsa ctsa (obj g63 37 [.int .i64 0, .int .i64 1, .slice A60 (1 + n49) c61] :: netG 64 37 3 5 g18 sb vbsb cbsb vtsb ctsb (L))) := St.netUp2 [obj g63 37 [.int .i64 0, .int .i64 1, .slice A60 (1 + n49) c61]] hs77
        have hr81 : kPacket.rep H73 (GPacket.mk 0 1 ([i] ++ e40)) [.int .i64 0, .int .i64 1, .slice A60 (1 + n49) c61] := ⟨A60, (1 + n49), c61, rfl, (show IB 0 from ⟨by omega, by omega⟩), (show IB 1 from ⟨by omega, by omega⟩), hy79⟩
        refine st_c cb17 .func (evs2 (.tmp rfl rfl) (.tmp rfl rfl)) (Put_spec hs80 (NetOk.mono oksa hle76) (GPacket.mk 0 1 ([i] ++ e40)) hr81 (by have h8 := hA.lost; omega)) ?_
        rintro e w82 ⟨nt89, vb84, cb85, vt86, ct87, v_91, rfl, ok88, hnt90, hs83⟩
        refine ⟨_, rfl, ?_⟩
        have hs92 : St H73 _ (obj g63 37 [.int .i64 0, .int .i64 1, .slice A60 (1 + n49) c61] :: netG 64 37 3 5 g18 sb vbsb cbsb vtsb ctsb (netG 64 37 3 5 g8 nt89 vb84 cb85 vt86 ct87 (L))) := St.netDown2 [obj g63 37 [.int .i64 0, .int .i64 1, .slice A60 (1 + n49) c61]] hs83
        refine g_yes (yl (dj := 55) (b := false) rfl rfl (congrArg Value.bool hc71)) ?_
        have hA2 : TwoAt nt89 (msgs l (List.range (i + 1))) (ka ++ [0]) := by rw [hnt90, ← msgs_snoc, show l.getD i [] = e40 from by rw [List.getD_eq_getElem?_getD, hx44]; rfl]; exact hA.put (by rw [msgs_len, List.length_range]; omega) _ 0 _
        skip
        refine st (v := .bool (decide (((sa.putE (GPacket.mk 0 1 ([i] ++ e40)).From (GPacket.mk 0 1 ([i] ++ e40)).To) : Int) ≠ 0))) (x_neq (k := .i64) (a := (sa.putE (GPacket.mk 0 1 ([i] ++ e40)).From (GPacket.mk 0 1 ([i] ++ e40)).To)) (b := 0) (.tmp rfl rfl) .const) ?_
        refine st (v := .bool (decide (((sa.putE (GPacket.mk 0 1 ([i] ++ e40)).From (GPacket.mk 0 1 ([i] ++ e40)).To) : Int) ≠ 0))) (x_pick_f (.tmp rfl (congrArg Value.bool hc71)) (.tmp rfl rfl)) ?_
        refine st (v := .bool (decide (((sa.putE (GPacket.mk 0 1 ([i] ++ e40)).From (GPacket.mk 0 1 ([i] ++ e40)).To) : Int) ≠ 0))) (x_move (.tmp rfl rfl)) ?_
        have hc93 : (decide (((sa.putE (GPacket.mk 0 1 ([i] ++ e40)).From (GPacket.mk 0 1 ([i] ++ e40)).To) : Int) ≠ 0)) = false := (decide_eq_false (fun h => h (hA.putE (by rw [msgs_len, List.length_range]; omega))))
        refine g_yes (yl (dj := 61) (b := false) rfl rfl (congrArg Value.bool hc93)) ?_
        refine st (v := .pointer (some ⟨g18, 0, none⟩)) (x_move (.tmp rfl hρ31)) ?_
        refine g_yes (yl (dj := 61) (b := false) rfl rfl (congrArg Value.bool hc93)) ?_
        refine st (v := .agg #[.int .i64 0, .int .i64 1, .slice A60 (1 + n49) c61]) (ld37 (cs := [.int .i64 0, .int .i64 1, .slice A60 (1 + n49) c61]) (.tmp rfl rfl) (hs92.at_ 0 rfl (0) rfl) rfl) ?_
        refine g_yes (yl (dj := 61) (b := false) rfl rfl (congrArg Value.bool hc93)) ?_
        skip
        have hs94 : St H73 _ (netG 64 37 3 5 g18 sb vbsb cbsb vtsb ctsb (obj g63 37 [.int .i64 0, .int .i64 1, .slice A60 (1 + n49) c61] :: netG 64 37 3 5 g8 nt89 vb84 cb85 vt86 ct87 (L))) := St.netUp [obj g63 37 [.int .i64 0, .int .i64 1, .slice A60 (1 + n49) c61]] hs92
        have hr95 : kPacket.rep H73 (GPacket.mk 0 1 ([i] ++ e40)) [.int .i64 0, .int .i64 1, .slice A60 (1 + n49) c61] := ⟨A60, (1 + n49), c61, rfl, (show IB 0 from ⟨by omega, by omega⟩), (show IB 1 from ⟨by omega, by omega⟩), hy79⟩
        refine st_c cb17 .func (evs2 (.tmp rfl rfl) (.tmp rfl rfl)) (Put_spec hs94 (NetOk.mono oksb hle76) (GPacket.mk 0 1 ([i] ++ e40)) hr95 (by have h8 := hB.lost; omega)) ?_
        rintro e w96 ⟨nt103, vb98, cb99, vt100, ct101, v_105, rfl, ok102, hnt104, hs97⟩
        refine ⟨_, rfl, ?_⟩
        have hs106 : St H73 _ (obj g63 37 [.int .i64 0, .int .i64 1, .slice A60 (1 + n49) c61] :: netG 64 37 3 5 g18 nt103 vb98 cb99 vt100 ct101 (netG 64 37 3 5 g8 nt89 vb84 cb85 vt86 ct87 (L))) := St.netDown [obj g63 37 [.int .i64 0, .int .i64 1, .slice A60 (1 + n49) c61]] hs97
        refine g_yes (yl (dj := 61) (b := false) rfl rfl (congrArg Value.bool hc93)) ?_
        have hB2 : TwoAt nt103 (msgs l (List.range (i + 1))) (kb ++ [0]) := by rw [hnt104, ← msgs_snoc, show l.getD i [] = e40 from by rw [List.getD_eq_getElem?_getD, hx44]; rfl]; exact hB.put (by rw [msgs_len, List.length_range]; omega) _ 0 _
        skip
        refine st (v := .bool (decide (((sb.putE (GPacket.mk 0 1 ([i] ++ e40)).From (GPacket.mk 0 1 ([i] ++ e40)).To) : Int) ≠ 0))) (x_neq (k := .i64) (a := (sb.putE (GPacket.mk 0 1 ([i] ++ e40)).From (GPacket.mk 0 1 ([i] ++ e40)).To)) (b := 0) (.tmp rfl rfl) .const) ?_
        refine st (v := .bool (decide (((sb.putE (GPacket.mk 0 1 ([i] ++ e40)).From (GPacket.mk 0 1 ([i] ++ e40)).To) : Int) ≠ 0))) (x_pick_f (.tmp rfl (congrArg Value.bool hc93)) (.tmp rfl rfl)) ?_
        refine c_nil ?_
        refine n_then ?_
        have hc107 : (decide (((sb.putE (GPacket.mk 0 1 ([i] ++ e40)).From (GPacket.mk 0 1 ([i] ++ e40)).To) : Int) ≠ 0)) = false := (decide_eq_false (fun h => h (hB.putE (by rw [msgs_len, List.length_range]; omega))))
        refine c_cond_f (t := false) (.tmp rfl (congrArg Value.bool hc107)) rfl ?_
        refine c_skip ?_
        refine n_block ?_
        refine n_then ?_
        refine c_region ?_
        refine st (v := .int .i64 ((i : Nat) : Int)) (x_move (.tmp rfl hρ32)) ?_
        refine st (v := .int .i64 (((i + 1) : Nat) : Int)) (x_add (k := .i64) (a := ((i : Nat) : Int)) (b := 1) (.tmp rfl rfl) .const ((w64 (by omega) (by omega)).trans (by omega))) ?_
        refine st (v := .int .i64 (((i + 1) : Nat) : Int)) (x_assign (.tmp rfl rfl)) ?_
        refine c_nil ?_
        refine n_then ⟨_, _, rfl, ?_, H73, (i + 1), nt89, vb84, cb85, vt86, ct87, nt103, vb98, cb99, vt100, ct101, ka ++ [0], kb ++ [0], hρ28, hρ29, hρ30, hρ31, rfl, (hg27.trans hle76), ok88, ok102, hA2, hB2, (by omega), hs106.drop, rfl⟩
        omega
    · have hp34 : ¬ ((((i : Nat) : Int) : Int) < ((n_l : Nat) : Int)) := of_decide_eq_false hc34
      refine c_cond_f (t := false) (.tmp rfl (congrArg Value.bool hc34)) rfl ?_
      refine c_exit ?_
      refine x_then ?_
      refine x_then ?_
      refine x_here ?_
      refine n_then ?_
      refine c_seq ?_
      refine c_region ?_
      refine st (v := .slice A_l n_l c_l) (x_move (.tmp rfl hρ28)) ?_
      refine st (v := .int .i64 ((n_l : Nat) : Int)) (x_len (n := n_l) Tryd.underlying43 (.tmp rfl rfl)) ?_
      have hr114 : kB.rep H26 false [.bool false] := rfl
      refine st_m (m_makeK (d := kB) (y0 := false) (i := ((n_l : Nat) : Int)) Tryd.underlying44 inf4 hr114 hs33 (.tmp rfl rfl) (.tmp rfl rfl) (by omega) (by omega) (by decide)) ?_
      rintro v108 w109 ⟨cs110, ok111, hk112, hs113⟩
      have hn116 : (List.replicate n_l false).length = n_l := by simp
      refine st (v := v108) (x_assign (.tmp rfl rfl)) ?_
      refine c_nil ?_
      refine n_then ?_
      refine c_seq ?_
      refine c_seq ?_
      refine c_region ?_
      refine st (v := .int .i64 0) (x_assign .const) ?_
      refine c_nil ?_
      refine n_then ?_
      refine c_block ?_
      refine c_loop (fun ρ w mm => ∃ (H118 : Hp) (seen : List Bool) (v_seen : Value) (c_seen : List Value) (j : Nat) (ua : NetS) (vbua : Value) (cbua : List Value) (vtua : Value) (ctua : List Value) (ub : NetS) (vbub : Value) (cbub : List Value) (vtub : Value) (ctub : List Value) (qa : List Int) (qb : List Int) (J : List Nat), ρ 0 = .slice A_l n_l c_l ∧ ρ 1 = .slice A_picks n_picks c_picks ∧ ρ 5 = .pointer (some ⟨g8, 0, none⟩) ∧ ρ 7 = .pointer (some ⟨g18, 0, none⟩) ∧ ρ 11 = v_seen ∧ ρ 12 = .int .i64 ((j : Nat) : Int) ∧ (H26.le H118) ∧ (RowOk kB.sz v_seen seen.length c_seen) ∧ (kB.toKn.rows H118 seen c_seen) ∧ (NetOk H118 ua vbua cbua vtua ctua) ∧ (NetOk H118 ub vbub cbub vtub ctub) ∧ (TwoAt ua (msgs l (List.range' j (n_l - j))) qa) ∧ (TwoAt ub (msgs l J) qb) ∧ (PicksAt J seen n_l j) ∧ (j ≤ n_l) ∧ St H118 w (row 4 1 v_seen seen.length c_seen :: netG 64 37 3 5 g18 ub vbub cbub vtub ctub (netG 64 37 3 5 g8 ua vbua cbua vtua ctua (L))) ∧ mm = n_l - j) _ ⟨H26, (List.replicate n_l false), v108, cs110, 0, sa, vbsa, cbsa, vtsa, ctsa, sb, vbsb, cbsb, vtsb, ctsb, ka, kb, List.range n_l, hρ28, hρ29, hρ30, hρ31, rfl, rfl, (Hp.le.refl _), ok111, hk112, oksa, oksb, (by have h9 := hA; rw [show i = n_l by omega, List.range_eq_range'] at h9; exact h9), (by have h9 := hB; rw [show i = n_l by omega] at h9; exact h9), (PicksAt.start n_l), (by omega), hs113, rfl⟩ ?_
      rintro ρ w mm ⟨H118, seen, v_seen, c_seen, j, ua, vbua, cbua, vtua, ctua, ub, vbub, cbub, vtub, ctub, qa, qb, J, hρ120, hρ121, hρ122, hρ123, hρ124, hρ125, hg119, ok_seen, hk_seen, okua, okub, hC, hD, hP, hj, hs126, rfl⟩
      refine c_seq ?_
      refine c_seq ?_
      refine c_region ?_
      refine st (v := .int .i64 ((j : Nat) : Int)) (x_move (.tmp rfl hρ125)) ?_
      refine st (v := .slice A_l n_l c_l) (x_move (.tmp rfl hρ120)) ?_
      refine st (v := .int .i64 ((n_l : Nat) : Int)) (x_len (n := n_l) Tryd.underlying43 (.tmp rfl rfl)) ?_
      refine st (v := .bool (decide ((((j : Nat) : Int) : Int) < ((n_l : Nat) : Int)))) (x_lss (k := .i64) (a := ((j : Nat) : Int)) (b := ((n_l : Nat) : Int)) (.tmp rfl rfl) (.tmp rfl rfl)) ?_
      refine c_nil ?_
      refine n_then ?_
      rcases Bool.eq_false_or_eq_true (decide ((((j : Nat) : Int) : Int) < ((n_l : Nat) : Int))) with hc127 | hc127
      · have hp127 : (((j : Nat) : Int) : Int) < ((n_l : Nat) : Int) := of_decide_eq_true hc127
        refine c_cond_t (t := true) (.tmp rfl (congrArg Value.bool hc127)) rfl ?_
        refine c_skip ?_
        refine n_then ?_
        refine c_seq ?_
        refine c_block ?_
        refine c_seq ?_
        refine c_region ?_
        have hJl := hP.len; have hsl := hP.sl; have hlb : ub.ps.length = J.length := hD.len.trans (msgs_len _ _); have hmb := okub.max; have hrf := range_from (i := j) (n := n_l) (by omega); have hT := hC.take (i := 0) (m := 0) rfl (msgs_get hrf.1)
        refine st (v := .pointer (some ⟨g8, 0, none⟩)) (x_move (.tmp rfl hρ122)) ?_
        skip
        have hs128 : St H118 _ (netG 64 37 3 5 g8 ua vbua cbua vtua ctua (row 4 1 v_seen seen.length c_seen :: netG 64 37 3 5 g18 ub vbub cbub vtub ctub (L))) := St.netUp2 [row 4 1 v_seen seen.length c_seen] hs126
        refine st_c cb22 .func (evs2 (.tmp rfl rfl) .const) (Take_spec hs128 okua 0 ⟨by omega, by omega⟩ (by have h8 := hC.lost; omega)) ?_
        rintro e w129 ⟨v131, nt145, vb140, cb141, vt142, ct143, rfl, ⟨b136, b137⟩, ⟨b138, b139⟩, sm132, ok133, lb134, ok144, hnt146, hs130⟩
        refine ⟨_, rfl, ?_⟩
        have hs147 := St.netUp [row 5 1 v131 ((ua.takeP 0).Bytes.length) (((ua.takeP 0).Bytes).map encB)] hs130
        have hs148 : St H118 _ (row 5 1 v131 ((ua.takeP 0).Bytes.length) (((ua.takeP 0).Bytes).map encB) :: row 4 1 v_seen seen.length c_seen :: netG 64 37 3 5 g18 ub vbub cbub vtub ctub (netG 64 37 3 5 g8 nt145 vb140 cb141 vt142 ct143 (L))) := St.netDown2 [row 5 1 v131 ((ua.takeP 0).Bytes.length) (((ua.takeP 0).Bytes).map encB), row 4 1 v_seen seen.length c_seen] hs147
        have hC2 : TwoAt nt145 (msgs l (List.range' (j + 1) (n_l - (j + 1)))) (qa.eraseIdx 0) := by rw [hnt146, ← hrf.2, ← msgs_erase]; exact hT.2.2
        skip
        refine st (v := .tuple #[.agg #[.int .i64 ((ua.takeP 0).From), .int .i64 ((ua.takeP 0).To), v131], .int .i64 (ua.takeE 0)]) (x_move (.tmp rfl rfl)) ?_
        refine st (v := .agg #[.int .i64 ((ua.takeP 0).From), .int .i64 ((ua.takeP 0).To), v131]) (x_extract (.tmp rfl rfl) (i := 0) rfl) ?_
        refine st (v := .int .i64 (ua.takeE 0)) (x_extract (.tmp rfl rfl) (i := 1) rfl) ?_
        refine st_m (al37 (cs := [.int .i64 0, .int .i64 0, .slice none 0 0]) hs148 rfl) ?_
        rintro _ w150 ⟨g149, rfl, hs152⟩
        refine st_m0 (sto37 (cs' := [.int .i64 ((ua.takeP 0).From), .int .i64 ((ua.takeP 0).To), v131]) (i := 0) hs152 (v := .agg #[.int .i64 ((ua.takeP 0).From), .int .i64 ((ua.takeP 0).To), v131]) (.tmp rfl rfl) (.tmp rfl rfl) rfl (Nat.le_of_ble_eq_true rfl) (oneA (allC rfl (allC rfl (allC (RowOk.oneC ok133) rfl)))) rfl) ?_
        rintro w153 hs155
        refine st (v := .int .i64 (ua.takeE 0)) (x_assign (.tmp rfl rfl)) ?_
        refine c_nil ?_
        refine n_then ?_
        refine c_seq ?_
        refine c_region ?_
        refine st (v := .int .i64 0) (x_assign .const) ?_
        refine c_nil ?_
        refine n_then ?_
        refine c_seq ?_
        refine c_seq ?_
        refine c_region ?_
        refine st (v := .int .i64 ((j : Nat) : Int)) (x_move (.tmp rfl hρ125)) ?_
        refine st (v := .slice A_picks n_picks c_picks) (x_move (.tmp rfl hρ121)) ?_
        refine st (v := .int .i64 ((n_picks : Nat) : Int)) (x_len (n := n_picks) Tryd.underlying22 (.tmp rfl rfl)) ?_
        refine st (v := .bool (decide ((((j : Nat) : Int) : Int) < ((n_picks : Nat) : Int)))) (x_lss (k := .i64) (a := ((j : Nat) : Int)) (b := ((n_picks : Nat) : Int)) (.tmp rfl rfl) (.tmp rfl rfl)) ?_
        refine c_nil ?_
        refine n_then ?_
        rcases Bool.eq_false_or_eq_true (decide ((((j : Nat) : Int) : Int) < ((n_picks : Nat) : Int))) with hc156 | hc156
        · have hp156 : (((j : Nat) : Int) : Int) < ((n_picks : Nat) : Int) := of_decide_eq_true hc156
          refine c_cond_t (t := true) (.tmp rfl (congrArg Value.bool hc156)) rfl ?_
          refine s_region (L := obj g149 37 [.int .i64 ((ua.takeP 0).From), .int .i64 ((ua.takeP 0).To), v131] :: row 5 1 v131 ((ua.takeP 0).Bytes.length) (((ua.takeP 0).Bytes).map encB) :: row 4 1 v_seen seen.length c_seen :: netG 64 37 3 5 g18 ub vbub cbub vtub ctub (netG 64 37 3 5 g8 nt145 vb140 cb141 vt142 ct143 (L))) (L' := obj g149 37 [.int .i64 ((ua.takeP 0).From), .int .i64 ((ua.takeP 0).To), v131] :: row 5 1 v131 ((ua.takeP 0).Bytes.length) (((ua.takeP 0).Bytes).map encB) :: row 4 1 v_seen seen.length c_seen :: netG 64 37 3 5 g18 ub vbub cbub vtub ctub (netG 64 37 3 5 g8 nt145 vb140 cb141 vt142 ct143 (L))) none [(0, true), (1, true), (2, true), (3, true), (4, true), (5, true), (6, false), (7, true), (8, true)] mixed hs155 (fun u hu => hu) (by kernel_rfl) ?_
          intro w157 hs158
          refine s_st (k := 0) (v := .slice A_picks n_picks c_picks) rfl (fun w hs => (x_move (.tmp rfl hρ121))) ?_
          refine s_st (k := 1) (v := .int .i64 ((j : Nat) : Int)) rfl (fun w hs => (x_move (.tmp rfl hρ125))) ?_
          obtain ⟨b159, o160, hA161, hc162⟩ := ((h_picks.toBs.mono hg27).mono hg119).get (i := j) (by omega)
          refine s_st (k := 2) (v := .pointer (some ⟨b159, (o160 + j * 1), none⟩)) rfl (fun w hs => (ixo22 (.tmp rfl rfl) hA161 (i := ((j : Nat) : Int)) (.tmp rfl rfl) (by omega) (by omega) rfl)) ?_
          refine s_st (k := 3) (v := .int .u8 ((picks.getD j 0 : Nat) : Int)) rfl (fun w hs => (ld5 (.tmp rfl rfl) (hc162 hs))) ?_
          have : (picks.getD j 0) < 256 := (((h_picks.toBs.mono hg27).mono hg119).lt.getD _)
          refine s_st (k := 4) (v := .int .i64 ((picks.getD j 0 : Nat) : Int)) rfl (fun w hs => (x_conv (k := .u8) (a := ((picks.getD j 0 : Nat) : Int)) Tryd.underlying5 Tryd.underlying3 (.tmp rfl rfl) (w64 (by omega) (by omega)))) ?_
          refine s_st (k := 5) (v := .pointer (some ⟨g18, 0, none⟩)) rfl (fun w hs => (x_move (.tmp rfl hρ123))) ?_
          refine s_eff (k := 6) rfl ?_
          have hs163 : St H118 _ (netG 64 37 3 5 g18 ub vbub cbub vtub ctub (obj g149 37 [.int .i64 ((ua.takeP 0).From), .int .i64 ((ua.takeP 0).To), v131] :: row 5 1 v131 ((ua.takeP 0).Bytes.length) (((ua.takeP 0).Bytes).map encB) :: row 4 1 v_seen seen.length c_seen :: netG 64 37 3 5 g8 nt145 vb140 cb141 vt142 ct143 (L))) := St.netUp [obj g149 37 [.int .i64 ((ua.takeP 0).From), .int .i64 ((ua.takeP 0).To), v131], row 5 1 v131 ((ua.takeP 0).Bytes.length) (((ua.takeP 0).Bytes).map encB), row 4 1 v_seen seen.length c_seen] hs158
          refine st_c cb18 .func (evs1 (.tmp rfl rfl)) (len_spec hs163 okub ) ?_
          rintro e w164 ⟨rfl, hs165⟩
          refine ⟨_, rfl, ?_⟩
          have hs166 : St H118 _ (obj g149 37 [.int .i64 ((ua.takeP 0).From), .int .i64 ((ua.takeP 0).To), v131] :: row 5 1 v131 ((ua.takeP 0).Bytes.length) (((ua.takeP 0).Bytes).map encB) :: row 4 1 v_seen seen.length c_seen :: netG 64 37 3 5 g18 ub vbub cbub vtub ctub (netG 64 37 3 5 g8 nt145 vb140 cb141 vt142 ct143 (L))) := St.netDown [obj g149 37 [.int .i64 ((ua.takeP 0).From), .int .i64 ((ua.takeP 0).To), v131], row 5 1 v131 ((ua.takeP 0).Bytes.length) (((ua.takeP 0).Bytes).map encB), row 4 1 v_seen seen.length c_seen] hs165
          refine s_on (S' := fun u => St H118 u (obj g149 37 [.int .i64 ((ua.takeP 0).From), .int .i64 ((ua.takeP 0).To), v131] :: row 5 1 v131 ((ua.takeP 0).Bytes.length) (((ua.takeP 0).Bytes).map encB) :: row 4 1 v_seen seen.length c_seen :: netG 64 37 3 5 g18 ub vbub cbub vtub ctub (netG 64 37 3 5 g8 nt145 vb140 cb141 vt142 ct143 (L)))) (fun u hu => hu) hs166 ?_
          refine s_st (k := 7) (v := .int .i64 ((((picks.getD j 0) % ub.ps.length) : Nat) : Int)) rfl (fun w hs => (x_remN (k := .i64) (m := (picks.getD j 0)) (n := ub.ps.length) (.tmp rfl rfl) (.tmp rfl rfl) (by omega))) ?_
          refine s_st (k := 8) (v := .int .i64 ((((picks.getD j 0) % ub.ps.length) : Nat) : Int)) rfl (fun w hs => (x_assign (.tmp rfl rfl))) ?_
          refine s_nil ?_
          refine n_then ?_
          refine c_seq ?_
          refine c_region ?_
          have hat : ((picks.getD j 0) % ub.ps.length) < J.length := by rw [← hlb]; exact Nat.mod_lt _ (by omega)
          obtain ⟨z, hz⟩ : ∃ z, J[((picks.getD j 0) % ub.ps.length)]? = some z := ⟨_, List.getElem?_eq_getElem hat⟩
          have hzl := hP.lt z (List.mem_of_getElem? hz)
          have hU := hD.take (i := ((((picks.getD j 0) % ub.ps.length) : Nat) : Int)) (m := ((picks.getD j 0) % ub.ps.length)) rfl (msgs_get hz)
          skip
          refine st (v := .pointer (some ⟨g18, 0, none⟩)) (x_move (.tmp rfl hρ123)) ?_
          refine st (v := .int .i64 ((((picks.getD j 0) % ub.ps.length) : Nat) : Int)) (x_move (.tmp rfl rfl)) ?_
          skip
          have hs167 : St H118 _ (netG 64 37 3 5 g18 ub vbub cbub vtub ctub (obj g149 37 [.int .i64 ((ua.takeP 0).From), .int .i64 ((ua.takeP 0).To), v131] :: row 5 1 v131 ((ua.takeP 0).Bytes.length) (((ua.takeP 0).Bytes).map encB) :: row 4 1 v_seen seen.length c_seen :: netG 64 37 3 5 g8 nt145 vb140 cb141 vt142 ct143 (L))) := St.netUp [obj g149 37 [.int .i64 ((ua.takeP 0).From), .int .i64 ((ua.takeP 0).To), v131], row 5 1 v131 ((ua.takeP 0).Bytes.length) (((ua.takeP 0).Bytes).map encB), row 4 1 v_seen seen.length c_seen] hs166
          refine st_c cb22 .func (evs2 (.tmp rfl rfl) (.tmp rfl rfl)) (Take_spec hs167 okub ((((picks.getD j 0) % ub.ps.length) : Nat) : Int) ⟨by omega, by omega⟩ (by have h8 := hD.lost; omega)) ?_
          rintro e w168 ⟨v170, nt184, vb179, cb180, vt181, ct182, rfl, ⟨b175, b176⟩, ⟨b177, b178⟩, sm171, ok172, lb173, ok183, hnt185, hs169⟩
          refine ⟨_, rfl, ?_⟩
          have hs186 := St.netUp [row 5 1 v170 ((ub.takeP ((((picks.getD j 0) % ub.ps.length) : Nat) : Int)).Bytes.length) (((ub.takeP ((((picks.getD j 0) % ub.ps.length) : Nat) : Int)).Bytes).map encB)] hs169
          have hs187 : St H118 _ (row 5 1 v170 ((ub.takeP ((((picks.getD j 0) % ub.ps.length) : Nat) : Int)).Bytes.length) (((ub.takeP ((((picks.getD j 0) % ub.ps.length) : Nat) : Int)).Bytes).map encB) :: obj g149 37 [.int .i64 ((ua.takeP 0).From), .int .i64 ((ua.takeP 0).To), v131] :: row 5 1 v131 ((ua.takeP 0).Bytes.length) (((ua.takeP 0).Bytes).map encB) :: row 4 1 v_seen seen.length c_seen :: netG 64 37 3 5 g18 nt184 vb179 cb180 vt181 ct182 (netG 64 37 3 5 g8 nt145 vb140 cb141 vt142 ct143 (L))) := St.netDown [row 5 1 v170 ((ub.takeP ((((picks.getD j 0) % ub.ps.length) : Nat) : Int)).Bytes.length) (((ub.takeP ((((picks.getD j 0) % ub.ps.length) : Nat) : Int)).Bytes).map encB), obj g149 37 [.int .i64 ((ua.takeP 0).From), .int .i64 ((ua.takeP 0).To), v131], row 5 1 v131 ((ua.takeP 0).Bytes.length) (((ua.takeP 0).Bytes).map encB), row 4 1 v_seen seen.length c_seen] hs186
          have hD2 : TwoAt nt184 (msgs l (J.eraseIdx ((picks.getD j 0) % ub.ps.length))) (qb.eraseIdx ((picks.getD j 0) % ub.ps.length)) := by rw [hnt185, ← msgs_erase]; exact hU.2.2
          skip
          refine st (v := .tuple #[.agg #[.int .i64 ((ub.takeP ((((picks.getD j 0) % ub.ps.length) : Nat) : Int)).From), .int .i64 ((ub.takeP ((((picks.getD j 0) % ub.ps.length) : Nat) : Int)).To), v170], .int .i64 (ub.takeE ((((picks.getD j 0) % ub.ps.length) : Nat) : Int))]) (x_move (.tmp rfl rfl)) ?_
          refine st (v := .agg #[.int .i64 ((ub.takeP ((((picks.getD j 0) % ub.ps.length) : Nat) : Int)).From), .int .i64 ((ub.takeP ((((picks.getD j 0) % ub.ps.length) : Nat) : Int)).To), v170]) (x_extract (.tmp rfl rfl) (i := 0) rfl) ?_
          refine st (v := .int .i64 (ub.takeE ((((picks.getD j 0) % ub.ps.length) : Nat) : Int))) (x_extract (.tmp rfl rfl) (i := 1) rfl) ?_
          refine st_m (al37 (cs := [.int .i64 0, .int .i64 0, .slice none 0 0]) hs187 rfl) ?_
          rintro _ w189 ⟨g188, rfl, hs191⟩
          refine st_m0 (sto37 (cs' := [.int .i64 ((ub.takeP ((((picks.getD j 0) % ub.ps.length) : Nat) : Int)).From), .int .i64 ((ub.takeP ((((picks.getD j 0) % ub.ps.length) : Nat) : Int)).To), v170]) (i := 0) hs191 (v := .agg #[.int .i64 ((ub.takeP ((((picks.getD j 0) % ub.ps.length) : Nat) : Int)).From), .int .i64 ((ub.takeP ((((picks.getD j 0) % ub.ps.length) : Nat) : Int)).To), v170]) (.tmp rfl rfl) (.tmp rfl rfl) rfl (Nat.le_of_ble_eq_true rfl) (oneA (allC rfl (allC rfl (allC (RowOk.oneC ok172) rfl)))) rfl) ?_
          rintro w192 hs194
          have hs195 : St H118 _ (row 5 1 v131 ((ua.takeP 0).Bytes.length) (((ua.takeP 0).Bytes).map encB) :: obj g188 37 [.int .i64 ((ub.takeP ((((picks.getD j 0) % ub.ps.length) : Nat) : Int)).From), .int .i64 ((ub.takeP ((((picks.getD j 0) % ub.ps.length) : Nat) : Int)).To), v170] :: row 5 1 v170 ((ub.takeP ((((picks.getD j 0) % ub.ps.length) : Nat) : Int)).Bytes.length) (((ub.takeP ((((picks.getD j 0) % ub.ps.length) : Nat) : Int)).Bytes).map encB) :: obj g149 37 [.int .i64 ((ua.takeP 0).From), .int .i64 ((ua.takeP 0).To), v131] :: row 4 1 v_seen seen.length c_seen :: netG 64 37 3 5 g18 nt184 vb179 cb180 vt181 ct182 (netG 64 37 3 5 g8 nt145 vb140 cb141 vt142 ct143 (L))) := hs194.pick 3 rfl rfl
          obtain ⟨H196, A197, c198, hle199, hs200, rfl, hp201⟩ := hs195.freezeBs ok133 sm132 (by omega)
          have hy202 : By H196 A197 ((ua.takeP 0).Bytes.length) c198 ((ua.takeP 0).Bytes) := ⟨hp201, by omega⟩
          have hs203 : St H196 _ (row 5 1 v170 ((ub.takeP ((((picks.getD j 0) % ub.ps.length) : Nat) : Int)).Bytes.length) (((ub.takeP ((((picks.getD j 0) % ub.ps.length) : Nat) : Int)).Bytes).map encB) :: obj g188 37 [.int .i64 ((ub.takeP ((((picks.getD j 0) % ub.ps.length) : Nat) : Int)).From), .int .i64 ((ub.takeP ((((picks.getD j 0) % ub.ps.length) : Nat) : Int)).To), v170] :: obj g149 37 [.int .i64 ((ua.takeP 0).From), .int .i64 ((ua.takeP 0).To), .slice A197 ((ua.takeP 0).Bytes.length) c198] :: row 4 1 v_seen seen.length c_seen :: netG 64 37 3 5 g18 nt184 vb179 cb180 vt181 ct182 (netG 64 37 3 5 g8 nt145 vb140 cb141 vt142 ct143 (L))) := hs200.pick 1 rfl rfl
          obtain ⟨H204, A205, c206, hle207, hs208, rfl, hp209⟩ := hs203.freezeBs ok172 sm171 (by omega)
          have hy210 : By H204 A205 ((ub.takeP ((((picks.getD j 0) % ub.ps.length) : Nat) : Int)).Bytes.length) c206 ((ub.takeP ((((picks.getD j 0) % ub.ps.length) : Nat) : Int)).Bytes) := ⟨hp209, by omega⟩
          have hpl : (ua.takeP 0).Bytes.length = 1 + (l.getD j []).length := by rw [hT.2.1]; show (_ :: _ : List Nat).length = _; rw [List.length_cons]; omega
          have hp0 : (ua.takeP 0).Bytes.getD 0 0 = j := by rw [hT.2.1]; rfl
          have hql : ((ub.takeP ((((picks.getD j 0) % ub.ps.length) : Nat) : Int)).Bytes).length = 1 + (l.getD z []).length := by rw [hU.2.1]; show (_ :: _ : List Nat).length = _; rw [List.length_cons]; omega
          have hzq : ((ub.takeP ((((picks.getD j 0) % ub.ps.length) : Nat) : Int)).Bytes).getD 0 0 = z := by rw [hU.2.1]; rfl
          skip
          refine st (v := .int .i64 (ub.takeE ((((picks.getD j 0) % ub.ps.length) : Nat) : Int))) (x_assign (.tmp rfl rfl)) ?_
          refine c_nil ?_
          refine n_then ?_
          refine c_seq ?_
          refine c_seq ?_
          refine q_region mixed hs208 (by kernel_rfl) ?_
          refine q_st (v := .int .i64 (ua.takeE 0)) (fun w hs => (x_move (.tmp rfl rfl))) ?_
          refine q_st (v := .bool (decide (((ua.takeE 0) : Int) ≠ 0))) (fun w hs => (x_neq (k := .i64) (a := (ua.takeE 0)) (b := 0) (.tmp rfl rfl) .const)) ?_
          refine q_st (v := .bool (decide (((ua.takeE 0) : Int) ≠ 0))) (fun w hs => (x_move (.tmp rfl rfl))) ?_
          have hc211 : (decide (((ua.takeE 0) : Int) ≠ 0)) = false := (decide_eq_false (fun h => h hT.1))
          refine q_yes (yl (dj := 107) (b := false) rfl rfl (congrArg Value.bool hc211)) ?_
          refine q_st (v := .int .i64 (ub.takeE ((((picks.getD j 0) % ub.ps.length) : Nat) : Int))) (fun w hs => (x_move (.tmp rfl rfl))) ?_
          refine q_yes (yl (dj := 107) (b := false) rfl rfl (congrArg Value.bool hc211)) ?_
          refine q_st (v := .bool (decide (((ub.takeE ((((picks.getD j 0) % ub.ps.length) : Nat) : Int)) : Int) ≠ 0))) (fun w hs => (x_neq (k := .i64) (a := (ub.takeE ((((picks.getD j 0) % ub.ps.length) : Nat) : Int))) (b := 0) (.tmp rfl rfl) .const)) ?_
          refine q_st (v := .bool (decide (((ub.takeE ((((picks.getD j 0) % ub.ps.length) : Nat) : Int)) : Int) ≠ 0))) (fun w hs => (x_pick_f (.tmp rfl (congrArg Value.bool hc211)) (.tmp rfl rfl))) ?_
          refine q_st (v := .bool (decide (((ub.takeE ((((picks.getD j 0) % ub.ps.length) : Nat) : Int)) : Int) ≠ 0))) (fun w hs => (x_move (.tmp rfl rfl))) ?_
          have hc212 : (decide (((ub.takeE ((((picks.getD j 0) % ub.ps.length) : Nat) : Int)) : Int) ≠ 0)) = false := (decide_eq_false (fun h => h hU.1))
          refine q_yes (yl (dj := 111) (b := false) rfl rfl (congrArg Value.bool hc212)) ?_
          refine q_st (v := .pointer (some ⟨g149, 0 + 2, none⟩)) (fun w hs => (fa37_2 (.tmp rfl rfl))) ?_
          refine q_yes (yl (dj := 111) (b := false) rfl rfl (congrArg Value.bool hc212)) ?_
          refine q_st (v := .slice A197 ((ua.takeP 0).Bytes.length) c198) (fun w hs => (ld22 (.tmp rfl rfl) (hs.cell 1 rfl (0 + 2) rfl))) ?_
          refine q_yes (yl (dj := 111) (b := false) rfl rfl (congrArg Value.bool hc212)) ?_
          obtain ⟨b213, o214, hA215, hc216⟩ := (hy202.toBs.mono hle207).get (i := 0) (by omega)
          refine q_st (v := .pointer (some ⟨b213, (o214 + 0 * 1), none⟩)) (fun w hs => (ixo22 (.tmp rfl rfl) hA215 (i := 0) .const (by omega) (by omega) rfl)) ?_
          refine q_yes (yl (dj := 111) (b := false) rfl rfl (congrArg Value.bool hc212)) ?_
          refine q_st (v := .int .u8 ((((ua.takeP 0).Bytes).getD 0 0 : Nat) : Int)) (fun w hs => (ld5 (.tmp rfl rfl) (hc216 hs))) ?_
          refine q_yes (yl (dj := 111) (b := false) rfl rfl (congrArg Value.bool hc212)) ?_
          have : (((ua.takeP 0).Bytes).getD 0 0) < 256 := ((hy202.toBs.mono hle207).lt.getD _)
          refine q_st (v := .int .i64 ((((ua.takeP 0).Bytes).getD 0 0 : Nat) : Int)) (fun w hs => (x_conv (k := .u8) (a := ((((ua.takeP 0).Bytes).getD 0 0 : Nat) : Int)) Tryd.underlying5 Tryd.underlying3 (.tmp rfl rfl) (w64 (by omega) (by omega)))) ?_
          refine q_yes (yl (dj := 111) (b := false) rfl rfl (congrArg Value.bool hc212)) ?_
          refine q_st (v := .int .i64 ((j : Nat) : Int)) (fun w hs => (x_move (.tmp rfl hρ125))) ?_
          refine q_yes (yl (dj := 111) (b := false) rfl rfl (congrArg Value.bool hc212)) ?_
          refine q_st (v := .bool (decide ((((((ua.takeP 0).Bytes).getD 0 0 : Nat) : Int) : Int) ≠ ((j : Nat) : Int)))) (fun w hs => (x_neq (k := .i64) (a := ((((ua.takeP 0).Bytes).getD 0 0 : Nat) : Int)) (b := ((j : Nat) : Int)) (.tmp rfl rfl) (.tmp rfl rfl))) ?_
          refine q_st (v := .bool (decide ((((((ua.takeP 0).Bytes).getD 0 0 : Nat) : Int) : Int) ≠ ((j : Nat) : Int)))) (fun w hs => (x_pick_f (.tmp rfl (congrArg Value.bool hc212)) (.tmp rfl rfl))) ?_
          refine q_st (v := .bool (decide ((((((ua.takeP 0).Bytes).getD 0 0 : Nat) : Int) : Int) ≠ ((j : Nat) : Int)))) (fun w hs => (x_move (.tmp rfl rfl))) ?_
          have hc217 : (decide ((((((ua.takeP 0).Bytes).getD 0 0 : Nat) : Int) : Int) ≠ ((j : Nat) : Int))) = false := (decide_eq_false (fun h => h (by rw [hp0])))
          refine q_yes (yl (dj := 120) (b := false) rfl rfl (congrArg Value.bool hc217)) ?_
          refine q_st (v := .pointer (some ⟨g149, 0 + 2, none⟩)) (fun w hs => (fa37_2 (.tmp rfl rfl))) ?_
          refine q_yes (yl (dj := 120) (b := false) rfl rfl (congrArg Value.bool hc217)) ?_
          refine q_st (v := .slice A197 ((ua.takeP 0).Bytes.length) c198) (fun w hs => (ld22 (.tmp rfl rfl) (hs.cell 1 rfl (0 + 2) rfl))) ?_
          refine q_yes (yl (dj := 120) (b := false) rfl rfl (congrArg Value.bool hc217)) ?_
          have := (hy202.toBs.mono hle207).le
          refine q_st (v := .slice (cutA A197 c198 1 1) (((ua.takeP 0).Bytes.length) - 1) (c198 - 1)) (fun w hs => (bs_l Tryd.underlying22 inf5 (a := 1) (.tmp rfl rfl) .const (by omega) (by omega) (by omega))) ?_
          refine q_yes (yl (dj := 120) (b := false) rfl rfl (congrArg Value.bool hc217)) ?_
          refine q_st (v := .string (bstr (((ua.takeP 0).Bytes).drop 1))) (fun w hs => (((hy202.toBs.mono hle207).drop (k := 1) (by omega)).str Tryd.underlying22 Tryd.underlying5 Tryd.underlying9 hs (.tmp rfl rfl))) ?_
          refine q_yes (yl (dj := 120) (b := false) rfl rfl (congrArg Value.bool hc217)) ?_
          refine q_st (v := .slice A_l n_l c_l) (fun w hs => (x_move (.tmp rfl hρ120))) ?_
          refine q_yes (yl (dj := 120) (b := false) rfl rfl (congrArg Value.bool hc217)) ?_
          refine q_st (v := .int .i64 ((j : Nat) : Int)) (fun w hs => (x_move (.tmp rfl hρ125))) ?_
          refine q_yes (yl (dj := 120) (b := false) rfl rfl (congrArg Value.bool hc217)) ?_
          obtain ⟨e218, b219, o220, cs221, hx222, hA223, hr224, hat225⟩ := ((((h_l.mono hg27).mono hg119).mono hle199).mono hle207).get (i := j) (by omega)
          obtain ⟨A226, n227, c228, rfl, hy229⟩ := hr224
          have := hy229.len; have := hy229.bnd; have := hy229.le
          have hat225x : ∀ {w : World} {L : List Res}, St H204 w L → At w ⟨b219, o220 + j * 1, none⟩ [.slice A226 n227 c228] := fun h => hat225 h
          refine q_st (v := .pointer (some ⟨b219, (o220 + j * 1), none⟩)) (fun w hs => (ixo43 (.tmp rfl rfl) hA223 (i := ((j : Nat) : Int)) (.tmp rfl rfl) (by omega) (by omega) (by omega))) ?_
          refine q_yes (yl (dj := 120) (b := false) rfl rfl (congrArg Value.bool hc217)) ?_
          refine q_st (v := .slice A226 n227 c228) (fun w hs => (ld22 (.tmp rfl rfl) ((hat225x hs).cell 0 rfl))) ?_
          refine q_yes (yl (dj := 120) (b := false) rfl rfl (congrArg Value.bool hc217)) ?_
          refine q_st (v := .string (bstr e218)) (fun w hs => (hy229.toBs.str Tryd.underlying22 Tryd.underlying5 Tryd.underlying9 hs (.tmp rfl rfl))) ?_
          refine q_yes (yl (dj := 120) (b := false) rfl rfl (congrArg Value.bool hc217)) ?_
          refine q_st (v := .bool (!decide ((bstr (((ua.takeP 0).Bytes).drop 1)) = (bstr e218)))) (fun w hs => (x_neqS (.tmp rfl rfl) (.tmp rfl rfl))) ?_
          refine q_st (v := .bool (!decide ((bstr (((ua.takeP 0).Bytes).drop 1)) = (bstr e218)))) (fun w hs => (x_pick_f (.tmp rfl (congrArg Value.bool hc217)) (.tmp rfl rfl))) ?_
          refine q_st (v := .bool (!decide ((bstr (((ua.takeP 0).Bytes).drop 1)) = (bstr e218)))) (fun w hs => (x_move (.tmp rfl rfl))) ?_
          have hc230 : (decide ((bstr (((ua.takeP 0).Bytes).drop 1)) = (bstr e218))) = true := (decide_eq_true (by rw [hT.2.1]; show bstr ((j :: l.getD j []).drop 1) = _; rw [List.getD_eq_getElem?_getD, hx222]; rfl))
          refine q_yes (yl (dj := 132) (b := false) rfl rfl (congrArg Value.bool (by rw [hc230]; rfl))) ?_
          refine q_st (v := v_seen) (fun w hs => (x_move (.tmp rfl hρ124))) ?_
          refine q_yes (yl (dj := 132) (b := false) rfl rfl (congrArg Value.bool (by rw [hc230]; rfl))) ?_
          refine q_st (v := .pointer (some ⟨g188, 0 + 2, none⟩)) (fun w hs => (fa37_2 (.tmp rfl rfl))) ?_
          refine q_yes (yl (dj := 132) (b := false) rfl rfl (congrArg Value.bool (by rw [hc230]; rfl))) ?_
          refine q_st (v := .slice A205 ((ub.takeP ((((picks.getD j 0) % ub.ps.length) : Nat) : Int)).Bytes.length) c206) (fun w hs => (ld22 (.tmp rfl rfl) (hs.cell 0 rfl (0 + 2) rfl))) ?_
          refine q_yes (yl (dj := 132) (b := false) rfl rfl (congrArg Value.bool (by rw [hc230]; rfl))) ?_
          obtain ⟨b231, o232, hA233, hc234⟩ := hy210.toBs.get (i := 0) (by omega)
          refine q_st (v := .pointer (some ⟨b231, (o232 + 0 * 1), none⟩)) (fun w hs => (ixo22 (.tmp rfl rfl) hA233 (i := 0) .const (by omega) (by omega) rfl)) ?_
          refine q_yes (yl (dj := 132) (b := false) rfl rfl (congrArg Value.bool (by rw [hc230]; rfl))) ?_
          refine q_st (v := .int .u8 ((((ub.takeP ((((picks.getD j 0) % ub.ps.length) : Nat) : Int)).Bytes).getD 0 0 : Nat) : Int)) (fun w hs => (ld5 (.tmp rfl rfl) (hc234 hs))) ?_
          refine q_yes (yl (dj := 132) (b := false) rfl rfl (congrArg Value.bool (by rw [hc230]; rfl))) ?_
          obtain ⟨g235, c236, hv237⟩ := ok_seen.pos (by omega)
          obtain ⟨e238, cs239, hx240, hr241, hsub242⟩ := Kn.rows_get (i := (((ub.takeP ((((picks.getD j 0) % ub.ps.length) : Nat) : Int)).Bytes).getD 0 0)) (Kn.rows_mono (Kn.rows_mono hk_seen hle199) hle207) (by omega)
          obtain ⟨rfl⟩ := hr241
          refine q_st (v := .pointer (some ⟨g235, ((((ub.takeP ((((picks.getD j 0) % ub.ps.length) : Nat) : Int)).Bytes).getD 0 0) * 1), none⟩)) (fun w hs => (ixo44 (.tmp rfl hv237) rfl (i := ((((ub.takeP ((((picks.getD j 0) % ub.ps.length) : Nat) : Int)).Bytes).getD 0 0 : Nat) : Int)) (.tmp rfl rfl) (by omega) (by omega) (by omega))) ?_
          refine q_yes (yl (dj := 132) (b := false) rfl rfl (congrArg Value.bool (by rw [hc230]; rfl))) ?_
          refine q_st (v := .bool e238) (fun w hs => (ld4 (.tmp rfl rfl) ((hs.rowAt 2 rfl hv237 ((((ub.takeP ((((picks.getD j 0) % ub.ps.length) : Nat) : Int)).Bytes).getD 0 0) * 1) hsub242).cell 0 rfl))) ?_
          refine q_st (v := .bool e238) (fun w hs => (x_pick_f (.tmp rfl (congrArg Value.bool (by rw [hc230]; rfl))) (.tmp rfl rfl))) ?_
          refine q_nil ?_
          intro w hs243
          refine n_then ?_
          have hc244 : e238 = false := (by have h9 := hP.new z (List.mem_of_getElem? hz); rw [List.getD_eq_getElem?_getD, ← hzq, hx240] at h9; exact h9)
          refine c_cond_f (t := false) (.tmp rfl (congrArg Value.bool hc244)) rfl ?_
          refine c_skip ?_
          refine n_then ?_
          refine c_region ?_
          refine st (v := v_seen) (x_move (.tmp rfl hρ124)) ?_
          refine st (v := .pointer (some ⟨g188, 0 + 2, none⟩)) (fa37_2 (.tmp rfl rfl)) ?_
          refine st (v := .slice A205 ((ub.takeP ((((picks.getD j 0) % ub.ps.length) : Nat) : Int)).Bytes.length) c206) (ld22 (.tmp rfl rfl) (hs243.cell 0 rfl (0 + 2) rfl)) ?_
          obtain ⟨b245, o246, hA247, hc248⟩ := hy210.toBs.get (i := 0) (by omega)
          refine st (v := .pointer (some ⟨b245, (o246 + 0 * 1), none⟩)) (ixo22 (.tmp rfl rfl) hA247 (i := 0) .const (by omega) (by omega) rfl) ?_
          refine st (v := .int .u8 ((((ub.takeP ((((picks.getD j 0) % ub.ps.length) : Nat) : Int)).Bytes).getD 0 0 : Nat) : Int)) (ld5 (.tmp rfl rfl) (hc248 hs243)) ?_
          obtain ⟨g249, c250, hv251⟩ := ok_seen.pos (by omega)
          refine st (v := .pointer (some ⟨g249, ((((ub.takeP ((((picks.getD j 0) % ub.ps.length) : Nat) : Int)).Bytes).getD 0 0) * 1), none⟩)) (ixo44 (.tmp rfl hv251) rfl (i := ((((ub.takeP ((((picks.getD j 0) % ub.ps.length) : Nat) : Int)).Bytes).getD 0 0 : Nat) : Int)) (.tmp rfl rfl) (by omega) (by omega) (by omega)) ?_
          have hs252 : St H204 _ (row 4 1 v_seen seen.length c_seen :: obj g188 37 [.int .i64 ((ub.takeP ((((picks.getD j 0) % ub.ps.length) : Nat) : Int)).From), .int .i64 ((ub.takeP ((((picks.getD j 0) % ub.ps.length) : Nat) : Int)).To), .slice A205 ((ub.takeP ((((picks.getD j 0) % ub.ps.length) : Nat) : Int)).Bytes.length) c206] :: obj g149 37 [.int .i64 ((ua.takeP 0).From), .int .i64 ((ua.takeP 0).To), .slice A197 ((ua.takeP 0).Bytes.length) c198] :: netG 64 37 3 5 g18 nt184 vb179 cb180 vt181 ct182 (netG 64 37 3 5 g8 nt145 vb140 cb141 vt142 ct143 (L))) := hs243.pick 2 rfl rfl
          have hl258 : (((ub.takeP ((((picks.getD j 0) % ub.ps.length) : Nat) : Int)).Bytes).getD 0 0) * 1 + 1 ≤ c_seen.length := by have h1 := ((Kn.rows_mono (Kn.rows_mono hk_seen hle199) hle207)).1; have h2 : kB.sz = 1 := rfl; rw [h2] at h1; omega
          have hr257 : kB.rep H204 true [.bool true] := rfl
          refine st_m0 (stor4 hs252 hv251 (i := ((((ub.takeP ((((picks.getD j 0) % ub.ps.length) : Nat) : Int)).Bytes).getD 0 0) * 1)) (xs' := splice c_seen ((((ub.takeP ((((picks.getD j 0) % ub.ps.length) : Nat) : Int)).Bytes).getD 0 0) * 1) [.bool true]) (.tmp rfl rfl) (u := .bool true) .const rfl (by omega) one1 rfl) ?_
          rintro w253 hs254
          have hk256 := Kn.rows_set (d := kB.toKn) (Kn.rows_mono (Kn.rows_mono hk_seen hle199) hle207) (i := (((ub.takeP ((((picks.getD j 0) % ub.ps.length) : Nat) : Int)).Bytes).getD 0 0)) (by omega) hr257
          have ok255 := ok_seen.splice (i := (((ub.takeP ((((picks.getD j 0) % ub.ps.length) : Nat) : Int)).Bytes).getD 0 0) * 1) (vs := [.bool true]) (by simpa using hl258)
          have hn259 : (seen.set (((ub.takeP ((((picks.getD j 0) % ub.ps.length) : Nat) : Int)).Bytes).getD 0 0) true).length = seen.length := List.length_set
          rw [← hn259] at hs254 ok255
          refine c_nil ?_
          refine n_block ?_
          refine n_then ?_
          refine c_region ?_
          refine st (v := .int .i64 ((j : Nat) : Int)) (x_move (.tmp rfl hρ125)) ?_
          refine st (v := .int .i64 (((j + 1) : Nat) : Int)) (x_add (k := .i64) (a := ((j : Nat) : Int)) (b := 1) (.tmp rfl rfl) .const ((w64 (by omega) (by omega)).trans (by omega))) ?_
          refine st (v := .int .i64 (((j + 1) : Nat) : Int)) (x_assign (.tmp rfl rfl)) ?_
          refine c_nil ?_
          refine n_then ⟨_, _, rfl, ?_, H204, (seen.set (((ub.takeP ((((picks.getD j 0) % ub.ps.length) : Nat) : Int)).Bytes).getD 0 0) true), v_seen, (splice c_seen ((((ub.takeP ((((picks.getD j 0) % ub.ps.length) : Nat) : Int)).Bytes).getD 0 0) * 1) [.bool true]), (j + 1), nt145, vb140, cb141, vt142, ct143, nt184, vb179, cb180, vt181, ct182, qa.eraseIdx 0, qb.eraseIdx ((picks.getD j 0) % ub.ps.length), J.eraseIdx ((picks.getD j 0) % ub.ps.length), hρ120, hρ121, hρ122, hρ123, hρ124, rfl, ((hg119.trans hle199).trans hle207), ok255, hk256, (NetOk.mono (NetOk.mono ok144 hle199) hle207), (NetOk.mono (NetOk.mono ok183 hle199) hle207), hC2, hD2, (by rw [hzq]; exact hP.next hz), (by omega), ((hs254.pick 1 rfl rfl).drop.pick 1 rfl rfl).drop, rfl⟩
          omega
        · have hp156 : ¬ ((((j : Nat) : Int) : Int) < ((n_picks : Nat) : Int)) := of_decide_eq_false hc156
          refine c_cond_f (t := false) (.tmp rfl (congrArg Value.bool hc156)) rfl ?_
          refine c_skip ?_
          refine n_then ?_
          refine c_seq ?_
          refine c_region ?_
          have hat : 0 < J.length := by omega
          obtain ⟨z, hz⟩ : ∃ z, J[0]? = some z := ⟨_, List.getElem?_eq_getElem hat⟩
          have hzl := hP.lt z (List.mem_of_getElem? hz)
          have hU := hD.take (i := 0) (m := 0) rfl (msgs_get hz)
          skip
          refine st (v := .pointer (some ⟨g18, 0, none⟩)) (x_move (.tmp rfl hρ123)) ?_
          refine st (v := .int .i64 0) (x_move (.tmp rfl rfl)) ?_
          skip
          have hs260 : St H118 _ (netG 64 37 3 5 g18 ub vbub cbub vtub ctub (obj g149 37 [.int .i64 ((ua.takeP 0).From), .int .i64 ((ua.takeP 0).To), v131] :: row 5 1 v131 ((ua.takeP 0).Bytes.length) (((ua.takeP 0).Bytes).map encB) :: row 4 1 v_seen seen.length c_seen :: netG 64 37 3 5 g8 nt145 vb140 cb141 vt142 ct143 (L))) := St.netUp [obj g149 37 [.int .i64 ((ua.takeP 0).From), .int .i64 ((ua.takeP 0).To), v131], row 5 1 v131 ((ua.takeP 0).Bytes.length) (((ua.takeP 0).Bytes).map encB), row 4 1 v_seen seen.length c_seen] hs155
          refine st_c cb22 .func (evs2 (.tmp rfl rfl) (.tmp rfl rfl)) (Take_spec hs260 okub 0 ⟨by omega, by omega⟩ (by have h8 := hD.lost; omega)) ?_
          rintro e w261 ⟨v263, nt277, vb272, cb273, vt274, ct275, rfl, ⟨b268, b269⟩, ⟨b270, b271⟩, sm264, ok265, lb266, ok276, hnt278, hs262⟩
          refine ⟨_, rfl, ?_⟩
          have hs279 := St.netUp [row 5 1 v263 ((ub.takeP 0).Bytes.length) (((ub.takeP 0).Bytes).map encB)] hs262
          have hs280 : St H118 _ (row 5 1 v263 ((ub.takeP 0).Bytes.length) (((ub.takeP 0).Bytes).map encB) :: obj g149 37 [.int .i64 ((ua.takeP 0).From), .int .i64 ((ua.takeP 0).To), v131] :: row 5 1 v131 ((ua.takeP 0).Bytes.length) (((ua.takeP 0).Bytes).map encB) :: row 4 1 v_seen seen.length c_seen :: netG 64 37 3 5 g18 nt277 vb272 cb273 vt274 ct275 (netG 64 37 3 5 g8 nt145 vb140 cb141 vt142 ct143 (L))) := St.netDown [row 5 1 v263 ((ub.takeP 0).Bytes.length) (((ub.takeP 0).Bytes).map encB), obj g149 37 [.int .i64 ((ua.takeP 0).From), .int .i64 ((ua.takeP 0).To), v131], row 5 1 v131 ((ua.takeP 0).Bytes.length) (((ua.takeP 0).Bytes).map encB), row 4 1 v_seen seen.length c_seen] hs279
          have hD2 : TwoAt nt277 (msgs l (J.eraseIdx 0)) (qb.eraseIdx 0) := by rw [hnt278, ← msgs_erase]; exact hU.2.2
          skip
          refine st (v := .tuple #[.agg #[.int .i64 ((ub.takeP 0).From), .int .i64 ((ub.takeP 0).To), v263], .int .i64 (ub.takeE 0)]) (x_move (.tmp rfl rfl)) ?_
          refine st (v := .agg #[.int .i64 ((ub.takeP 0).From), .int .i64 ((ub.takeP 0).To), v263]) (x_extract (.tmp rfl rfl) (i := 0) rfl) ?_
          refine st (v := .int .i64 (ub.takeE 0)) (x_extract (.tmp rfl rfl) (i := 1) rfl) ?_
          refine st_m (al37 (cs := [.int .i64 0, .int .i64 0, .slice none 0 0]) hs280 rfl) ?_
          rintro _ w282 ⟨g281, rfl, hs284⟩
          refine st_m0 (sto37 (cs' := [.int .i64 ((ub.takeP 0).From), .int .i64 ((ub.takeP 0).To), v263]) (i := 0) hs284 (v := .agg #[.int .i64 ((ub.takeP 0).From), .int .i64 ((ub.takeP 0).To), v263]) (.tmp rfl rfl) (.tmp rfl rfl) rfl (Nat.le_of_ble_eq_true rfl) (oneA (allC rfl (allC rfl (allC (RowOk.oneC ok265) rfl)))) rfl) ?_
          rintro w285 hs287
          have hs288 : St H118 _ (row 5 1 v131 ((ua.takeP 0).Bytes.length) (((ua.takeP 0).Bytes).map encB) :: obj g281 37 [.int .i64 ((ub.takeP 0).From), .int .i64 ((ub.takeP 0).To), v263] :: row 5 1 v263 ((ub.takeP 0).Bytes.length) (((ub.takeP 0).Bytes).map encB) :: obj g149 37 [.int .i64 ((ua.takeP 0).From), .int .i64 ((ua.takeP 0).To), v131] :: row 4 1 v_seen seen.length c_seen :: netG 64 37 3 5 g18 nt277 vb272 cb273 vt274 ct275 (netG 64 37 3 5 g8 nt145 vb140 cb141 vt142 ct143 (L))) := hs287.pick 3 rfl rfl
          obtain ⟨H289, A290, c291, hle292, hs293, rfl, hp294⟩ := hs288.freezeBs ok133 sm132 (by omega)
          have hy295 : By H289 A290 ((ua.takeP 0).Bytes.length) c291 ((ua.takeP 0).Bytes) := ⟨hp294, by omega⟩
          have hs296 : St H289 _ (row 5 1 v263 ((ub.takeP 0).Bytes.length) (((ub.takeP 0).Bytes).map encB) :: obj g281 37 [.int .i64 ((ub.takeP 0).From), .int .i64 ((ub.takeP 0).To), v263] :: obj g149 37 [.int .i64 ((ua.takeP 0).From), .int .i64 ((ua.takeP 0).To), .slice A290 ((ua.takeP 0).Bytes.length) c291] :: row 4 1 v_seen seen.length c_seen :: netG 64 37 3 5 g18 nt277 vb272 cb273 vt274 ct275 (netG 64 37 3 5 g8 nt145 vb140 cb141 vt142 ct143 (L))) := hs293.pick 1 rfl rfl
          obtain ⟨H297, A298, c299, hle300, hs301, rfl, hp302⟩ := hs296.freezeBs ok265 sm264 (by omega)
          have hy303 : By H297 A298 ((ub.takeP 0).Bytes.length) c299 ((ub.takeP 0).Bytes) := ⟨hp302, by omega⟩
          have hpl : (ua.takeP 0).Bytes.length = 1 + (l.getD j []).length := by rw [hT.2.1]; show (_ :: _ : List Nat).length = _; rw [List.length_cons]; omega
          have hp0 : (ua.takeP 0).Bytes.getD 0 0 = j := by rw [hT.2.1]; rfl
          have hql : ((ub.takeP 0).Bytes).length = 1 + (l.getD z []).length := by rw [hU.2.1]; show (_ :: _ : List Nat).length = _; rw [List.length_cons]; omega
          have hzq : ((ub.takeP 0).Bytes).getD 0 0 = z := by rw [hU.2.1]; rfl
          skip
          refine st (v := .int .i64 (ub.takeE 0)) (x_assign (.tmp rfl rfl)) ?_
          refine c_nil ?_
          refine n_then ?_
          refine c_seq ?_
          refine c_seq ?_
          refine q_region mixed hs301 (by kernel_rfl) ?_
          refine q_st (v := .int .i64 (ua.takeE 0)) (fun w hs => (x_move (.tmp rfl rfl))) ?_
          refine q_st (v := .bool (decide (((ua.takeE 0) : Int) ≠ 0))) (fun w hs => (x_neq (k := .i64) (a := (ua.takeE 0)) (b := 0) (.tmp rfl rfl) .const)) ?_
          refine q_st (v := .bool (decide (((ua.takeE 0) : Int) ≠ 0))) (fun w hs => (x_move (.tmp rfl rfl))) ?_
          have hc304 : (decide (((ua.takeE 0) : Int) ≠ 0)) = false := (decide_eq_false (fun h => h hT.1))
          refine q_yes (yl (dj := 107) (b := false) rfl rfl (congrArg Value.bool hc304)) ?_
          refine q_st (v := .int .i64 (ub.takeE 0)) (fun w hs => (x_move (.tmp rfl rfl))) ?_
          refine q_yes (yl (dj := 107) (b := false) rfl rfl (congrArg Value.bool hc304)) ?_
          refine q_st (v := .bool (decide (((ub.takeE 0) : Int) ≠ 0))) (fun w hs => (x_neq (k := .i64) (a := (ub.takeE 0)) (b := 0) (.tmp rfl rfl) .const)) ?_
          refine q_st (v := .bool (decide (((ub.takeE 0) : Int) ≠ 0))) (fun w hs => (x_pick_f (.tmp rfl (congrArg Value.bool hc304)) (.tmp rfl rfl))) ?_
          refine q_st (v := .bool (decide (((ub.takeE 0) : Int) ≠ 0))) (fun w hs => (x_move (.tmp rfl rfl))) ?_
          have hc305 : (decide (((ub.takeE 0) : Int) ≠ 0)) = false := (decide_eq_false (fun h => h hU.1))
          refine q_yes (yl (dj := 111) (b := false) rfl rfl (congrArg Value.bool hc305)) ?_
          refine q_st (v := .pointer (some ⟨g149, 0 + 2, none⟩)) (fun w hs => (fa37_2 (.tmp rfl rfl))) ?_
          refine q_yes (yl (dj := 111) (b := false) rfl rfl (congrArg Value.bool hc305)) ?_
          refine q_st (v := .slice A290 ((ua.takeP 0).Bytes.length) c291) (fun w hs => (ld22 (.tmp rfl rfl) (hs.cell 1 rfl (0 + 2) rfl))) ?_
          refine q_yes (yl (dj := 111) (b := false) rfl rfl (congrArg Value.bool hc305)) ?_
          obtain ⟨b306, o307, hA308, hc309⟩ := (hy295.toBs.mono hle300).get (i := 0) (by omega)
          refine q_st (v := .pointer (some ⟨b306, (o307 + 0 * 1), none⟩)) (fun w hs => (ixo22 (.tmp rfl rfl) hA308 (i := 0) .const (by omega) (by omega) rfl)) ?_
          refine q_yes (yl (dj := 111) (b := false) rfl rfl (congrArg Value.bool hc305)) ?_
          refine q_st (v := .int .u8 ((((ua.takeP 0).Bytes).getD 0 0 : Nat) : Int)) (fun w hs => (ld5 (.tmp rfl rfl) (hc309 hs))) ?_
          refine q_yes (yl (dj := 111) (b := false) rfl rfl (congrArg Value.bool hc305)) ?_
          have : (((ua.takeP 0).Bytes).getD 0 0) < 256 := ((hy295.toBs.mono hle300).lt.getD _)
          refine q_st (v := .int .i64 ((((ua.takeP 0).Bytes).getD 0 0 : Nat) : Int)) (fun w hs => (x_conv (k := .u8) (a := ((((ua.takeP 0).Bytes).getD 0 0 : Nat) : Int)) Tryd.underlying5 Tryd.underlying3 (.tmp rfl rfl) (w64 (by omega) (by omega)))) ?_
          refine q_yes (yl (dj := 111) (b := false) rfl rfl (congrArg Value.bool hc305)) ?_
          refine q_st (v := .int .i64 ((j : Nat) : Int)) (fun w hs => (x_move (.tmp rfl hρ125))) ?_
          refine q_yes (yl (dj := 111) (b := false) rfl rfl (congrArg Value.bool hc305)) ?_
          refine q_st (v := .bool (decide ((((((ua.takeP 0).Bytes).getD 0 0 : Nat) : Int) : Int) ≠ ((j : Nat) : Int)))) (fun w hs => (x_neq (k := .i64) (a := ((((ua.takeP 0).Bytes).getD 0 0 : Nat) : Int)) (b := ((j : Nat) : Int)) (.tmp rfl rfl) (.tmp rfl rfl))) ?_
          refine q_st (v := .bool (decide ((((((ua.takeP 0).Bytes).getD 0 0 : Nat) : Int) : Int) ≠ ((j : Nat) : Int)))) (fun w hs => (x_pick_f (.tmp rfl (congrArg Value.bool hc305)) (.tmp rfl rfl))) ?_
          refine q_st (v := .bool (decide ((((((ua.takeP 0).Bytes).getD 0 0 : Nat) : Int) : Int) ≠ ((j : Nat) : Int)))) (fun w hs => (x_move (.tmp rfl rfl))) ?_
          have hc310 : (decide ((((((ua.takeP 0).Bytes).getD 0 0 : Nat) : Int) : Int) ≠ ((j : Nat) : Int))) = false := (decide_eq_false (fun h => h (by rw [hp0])))
          refine q_yes (yl (dj := 120) (b := false) rfl rfl (congrArg Value.bool hc310)) ?_
          refine q_st (v := .pointer (some ⟨g149, 0 + 2, none⟩)) (fun w hs => (fa37_2 (.tmp rfl rfl))) ?_
          refine q_yes (yl (dj := 120) (b := false) rfl rfl (congrArg Value.bool hc310)) ?_
          refine q_st (v := .slice A290 ((ua.takeP 0).Bytes.length) c291) (fun w hs => (ld22 (.tmp rfl rfl) (hs.cell 1 rfl (0 + 2) rfl))) ?_
          refine q_yes (yl (dj := 120) (b := false) rfl rfl (congrArg Value.bool hc310)) ?_
          have := (hy295.toBs.mono hle300).le
          refine q_st (v := .slice (cutA A290 c291 1 1) (((ua.takeP 0).Bytes.length) - 1) (c291 - 1)) (fun w hs => (bs_l Tryd.underlying22 inf5 (a := 1) (.tmp rfl rfl) .const (by omega) (by omega) (by omega))) ?_
          refine q_yes (yl (dj := 120) (b := false) rfl rfl (congrArg Value.bool hc310)) ?_
          refine q_st (v := .string (bstr (((ua.takeP 0).Bytes).drop 1))) (fun w hs => (((hy295.toBs.mono hle300).drop (k := 1) (by omega)).str Tryd.underlying22 Tryd.underlying5 Tryd.underlying9 hs (.tmp rfl rfl))) ?_
          refine q_yes (yl (dj := 120) (b := false) rfl rfl (congrArg Value.bool hc310)) ?_
          refine q_st (v := .slice A_l n_l c_l) (fun w hs => (x_move (.tmp rfl hρ120))) ?_
          refine q_yes (yl (dj := 120) (b := false) rfl rfl (congrArg Value.bool hc310)) ?_
          refine q_st (v := .int .i64 ((j : Nat) : Int)) (fun w hs => (x_move (.tmp rfl hρ125))) ?_
          refine q_yes (yl (dj := 120) (b := false) rfl rfl (congrArg Value.bool hc310)) ?_
          obtain ⟨e311, b312, o313, cs314, hx315, hA316, hr317, hat318⟩ := ((((h_l.mono hg27).mono hg119).mono hle292).mono hle300).get (i := j) (by omega)
          obtain ⟨A319, n320, c321, rfl, hy322⟩ := hr317
          have := hy322.len; have := hy322.bnd; have := hy322.le
          have hat318x : ∀ {w : World} {L : List Res}, St H297 w L → At w ⟨b312, o313 + j * 1, none⟩ [.slice A319 n320 c321] := fun h => hat318 h
          refine q_st (v := .pointer (some ⟨b312, (o313 + j * 1), none⟩)) (fun w hs => (ixo43 (.tmp rfl rfl) hA316 (i := ((j : Nat) : Int)) (.tmp rfl rfl) (by omega) (by omega) (by omega))) ?_
          refine q_yes (yl (dj := 120) (b := false) rfl rfl (congrArg Value.bool hc310)) ?_
          refine q_st (v := .slice A319 n320 c321) (fun w hs => (ld22 (.tmp rfl rfl) ((hat318x hs).cell 0 rfl))) ?_
          refine q_yes (yl (dj := 120) (b := false) rfl rfl (congrArg Value.bool hc310)) ?_
          refine q_st (v := .string (bstr e311)) (fun w hs => (hy322.toBs.str Tryd.underlying22 Tryd.underlying5 Tryd.underlying9 hs (.tmp rfl rfl))) ?_
          refine q_yes (yl (dj := 120) (b := false) rfl rfl (congrArg Value.bool hc310)) ?_
          refine q_st (v := .bool (!decide ((bstr (((ua.takeP 0).Bytes).drop 1)) = (bstr e311)))) (fun w hs => (x_neqS (.tmp rfl rfl) (.tmp rfl rfl))) ?_
          refine q_st (v := .bool (!decide ((bstr (((ua.takeP 0).Bytes).drop 1)) = (bstr e311)))) (fun w hs => (x_pick_f (.tmp rfl (congrArg Value.bool hc310)) (.tmp rfl rfl))) ?_
          refine q_st (v := .bool (!decide ((bstr (((ua.takeP 0).Bytes).drop 1)) = (bstr e311)))) (fun w hs => (x_move (.tmp rfl rfl))) ?_
          have hc323 : (decide ((bstr (((ua.takeP 0).Bytes).drop 1)) = (bstr e311))) = true := (decide_eq_true (by rw [hT.2.1]; show bstr ((j :: l.getD j []).drop 1) = _; rw [List.getD_eq_getElem?_getD, hx315]; rfl))
          refine q_yes (yl (dj := 132) (b := false) rfl rfl (congrArg Value.bool (by rw [hc323]; rfl))) ?_
          refine q_st (v := v_seen) (fun w hs => (x_move (.tmp rfl hρ124))) ?_
          refine q_yes (yl (dj := 132) (b := false) rfl rfl (congrArg Value.bool (by rw [hc323]; rfl))) ?_
          refine q_st (v := .pointer (some ⟨g281, 0 + 2, none⟩)) (fun w hs => (fa37_2 (.tmp rfl rfl))) ?_
          refine q_yes (yl (dj := 132) (b := false) rfl rfl (congrArg Value.bool (by rw [hc323]; rfl))) ?_
          refine q_st (v := .slice A298 ((ub.takeP 0).Bytes.length) c299) (fun w hs => (ld22 (.tmp rfl rfl) (hs.cell 0 rfl (0 + 2) rfl))) ?_
          refine q_yes (yl (dj := 132) (b := false) rfl rfl (congrArg Value.bool (by rw [hc323]; rfl))) ?_
          obtain ⟨b324, o325, hA326, hc327⟩ := hy303.toBs.get (i := 0) (by omega)
          refine q_st (v := .pointer (some ⟨b324, (o325 + 0 * 1), none⟩)) (fun w hs => (ixo22 (.tmp rfl rfl) hA326 (i := 0) .const (by omega) (by omega) rfl)) ?_
          refine q_yes (yl (dj := 132) (b := false) rfl rfl (congrArg Value.bool (by rw [hc323]; rfl))) ?_
          refine q_st (v := .int .u8 ((((ub.takeP 0).Bytes).getD 0 0 : Nat) : Int)) (fun w hs => (ld5 (.tmp rfl rfl) (hc327 hs))) ?_
          refine q_yes (yl (dj := 132) (b := false) rfl rfl (congrArg Value.bool (by rw [hc323]; rfl))) ?_
          obtain ⟨g328, c329, hv330⟩ := ok_seen.pos (by omega)
          obtain ⟨e331, cs332, hx333, hr334, hsub335⟩ := Kn.rows_get (i := (((ub.takeP 0).Bytes).getD 0 0)) (Kn.rows_mono (Kn.rows_mono hk_seen hle292) hle300) (by omega)
          obtain ⟨rfl⟩ := hr334
          refine q_st (v := .pointer (some ⟨g328, ((((ub.takeP 0).Bytes).getD 0 0) * 1), none⟩)) (fun w hs => (ixo44 (.tmp rfl hv330) rfl (i := ((((ub.takeP 0).Bytes).getD 0 0 : Nat) : Int)) (.tmp rfl rfl) (by omega) (by omega) (by omega))) ?_
          refine q_yes (yl (dj := 132) (b := false) rfl rfl (congrArg Value.bool (by rw [hc323]; rfl))) ?_
          refine q_st (v := .bool e331) (fun w hs => (ld4 (.tmp rfl rfl) ((hs.rowAt 2 rfl hv330 ((((ub.takeP 0).Bytes).getD 0 0) * 1) hsub335).cell 0 rfl))) ?_
          refine q_st (v := .bool e331) (fun w hs => (x_pick_f (.tmp rfl (congrArg Value.bool (by rw [hc323]; rfl))) (.tmp rfl rfl))) ?_
          refine q_nil ?_
          intro w hs336
          refine n_then ?_
          have hc337 : e331 = false := (by have h9 := hP.new z (List.mem_of_getElem? hz); rw [List.getD_eq_getElem?_getD, ← hzq, hx333] at h9; exact h9)
          refine c_cond_f (t := false) (.tmp rfl (congrArg Value.bool hc337)) rfl ?_
          refine c_skip ?_
          refine n_then ?_
          refine c_region ?_
          refine st (v := v_seen) (x_move (.tmp rfl hρ124)) ?_
          refine st (v := .pointer (some ⟨g281, 0 + 2, none⟩)) (fa37_2 (.tmp rfl rfl)) ?_
          refine st (v := .slice A298 ((ub.takeP 0).Bytes.length) c299) (ld22 (.tmp rfl rfl) (hs336.cell 0 rfl (0 + 2) rfl)) ?_
          obtain ⟨b338, o339, hA340, hc341⟩ := hy303.toBs.get (i := 0) (by omega)
          refine st (v := .pointer (some ⟨b338, (o339 + 0 * 1), none⟩)) (ixo22 (.tmp rfl rfl) hA340 (i := 0) .const (by omega) (by omega) rfl) ?_
          refine st (v := .int .u8 ((((ub.takeP 0).Bytes).getD 0 0 : Nat) : Int)) (ld5 (.tmp rfl rfl) (hc341 hs336)) ?_
          obtain ⟨g342, c343, hv344⟩ := ok_seen.pos (by omega)
          refine st (v := .pointer (some ⟨g342, ((((ub.takeP 0).Bytes).getD 0 0) * 1), none⟩)) (ixo44 (.tmp rfl hv344) rfl (i := ((((ub.takeP 0).Bytes).getD 0 0 : Nat) : Int)) (.tmp rfl rfl) (by omega) (by omega) (by omega)) ?_
          have hs345 : St H297 _ (row 4 1 v_seen seen.length c_seen :: obj g281 37 [.int .i64 ((ub.takeP 0).From), .int .i64 ((ub.takeP 0).To), .slice A298 ((ub.takeP 0).Bytes.length) c299] :: obj g149 37 [.int .i64 ((ua.takeP 0).From), .int .i64 ((ua.takeP 0).To), .slice A290 ((ua.takeP 0).Bytes.length) c291] :: netG 64 37 3 5 g18 nt277 vb272 cb273 vt274 ct275 (netG 64 37 3 5 g8 nt145 vb140 cb141 vt142 ct143 (L))) := hs336.pick 2 rfl rfl
          have hl351 : (((ub.takeP 0).Bytes).getD 0 0) * 1 + 1 ≤ c_seen.length := by have h1 := ((Kn.rows_mono (Kn.rows_mono hk_seen hle292) hle300)).1; have h2 : kB.sz = 1 := rfl; rw [h2] at h1; omega
          have hr350 : kB.rep H297 true [.bool true] := rfl
          refine st_m0 (stor4 hs345 hv344 (i := ((((ub.takeP 0).Bytes).getD 0 0) * 1)) (xs' := splice c_seen ((((ub.takeP 0).Bytes).getD 0 0) * 1) [.bool true]) (.tmp rfl rfl) (u := .bool true) .const rfl (by omega) one1 rfl) ?_
          rintro w346 hs347
          have hk349 := Kn.rows_set (d := kB.toKn) (Kn.rows_mono (Kn.rows_mono hk_seen hle292) hle300) (i := (((ub.takeP 0).Bytes).getD 0 0)) (by omega) hr350
          have ok348 := ok_seen.splice (i := (((ub.takeP 0).Bytes).getD 0 0) * 1) (vs := [.bool true]) (by simpa using hl351)
          have hn352 : (seen.set (((ub.takeP 0).Bytes).getD 0 0) true).length = seen.length := List.length_set
          rw [← hn352] at hs347 ok348
          refine c_nil ?_
          refine n_block ?_
          refine n_then ?_
          refine c_region ?_
          refine st (v := .int .i64 ((j : Nat) : Int)) (x_move (.tmp rfl hρ125)) ?_
          refine st (v := .int .i64 (((j + 1) : Nat) : Int)) (x_add (k := .i64) (a := ((j : Nat) : Int)) (b := 1) (.tmp rfl rfl) .const ((w64 (by omega) (by omega)).trans (by omega))) ?_
          refine st (v := .int .i64 (((j + 1) : Nat) : Int)) (x_assign (.tmp rfl rfl)) ?_
          refine c_nil ?_
          refine n_then ⟨_, _, rfl, ?_, H297, (seen.set (((ub.takeP 0).Bytes).getD 0 0) true), v_seen, (splice c_seen ((((ub.takeP 0).Bytes).getD 0 0) * 1) [.bool true]), (j + 1), nt145, vb140, cb141, vt142, ct143, nt277, vb272, cb273, vt274, ct275, qa.eraseIdx 0, qb.eraseIdx 0, J.eraseIdx 0, hρ120, hρ121, hρ122, hρ123, hρ124, rfl, ((hg119.trans hle292).trans hle300), ok348, hk349, (NetOk.mono (NetOk.mono ok144 hle292) hle300), (NetOk.mono (NetOk.mono ok276 hle292) hle300), hC2, hD2, (by rw [hzq]; exact hP.next hz), (by omega), ((hs347.pick 1 rfl rfl).drop.pick 1 rfl rfl).drop, rfl⟩
          omega
      · have hp127 : ¬ ((((j : Nat) : Int) : Int) < ((n_l : Nat) : Int)) := of_decide_eq_false hc127
        refine c_cond_f (t := false) (.tmp rfl (congrArg Value.bool hc127)) rfl ?_
        refine c_exit ?_
        refine x_then ?_
        refine x_then ?_
        refine x_here ?_
        refine n_then ?_
        refine c_seq ?_
        refine c_region ?_
        refine st (v := .pointer (some ⟨g8, 0, none⟩)) (x_move (.tmp rfl hρ122)) ?_
        have hs353 : St H118 _ (netG 64 37 3 5 g8 ua vbua cbua vtua ctua (row 4 1 v_seen seen.length c_seen :: netG 64 37 3 5 g18 ub vbub cbub vtub ctub (L))) := St.netUp2 [row 4 1 v_seen seen.length c_seen] hs126
        refine st_c cb18 .func (evs1 (.tmp rfl rfl)) (len_spec hs353 okua ) ?_
        rintro e w354 ⟨rfl, hs355⟩
        refine ⟨_, rfl, ?_⟩
        have hs356 : St H118 _ (row 4 1 v_seen seen.length c_seen :: netG 64 37 3 5 g18 ub vbub cbub vtub ctub (netG 64 37 3 5 g8 ua vbua cbua vtua ctua (L))) := St.netDown2 [row 4 1 v_seen seen.length c_seen] hs355
        refine st (v := .bool (decide ((((ua.ps.length : Nat) : Int) : Int) = 0))) (x_eql (k := .i64) (a := ((ua.ps.length : Nat) : Int)) (b := 0) (.tmp rfl rfl) .const) ?_
        refine st (v := .bool (decide ((((ua.ps.length : Nat) : Int) : Int) = 0))) (x_move (.tmp rfl rfl)) ?_
        have hc357 : (decide ((((ua.ps.length : Nat) : Int) : Int) = 0)) = true := (decide_eq_true (by rw [hC.len, msgs_len, List.length_range']; omega))
        refine g_yes (yl (dj := 150) (b := true) rfl rfl (congrArg Value.bool hc357)) ?_
        refine st (v := .pointer (some ⟨g18, 0, none⟩)) (x_move (.tmp rfl hρ123)) ?_
        refine g_yes (yl (dj := 150) (b := true) rfl rfl (congrArg Value.bool hc357)) ?_
        have hs358 : St H118 _ (netG 64 37 3 5 g18 ub vbub cbub vtub ctub (row 4 1 v_seen seen.length c_seen :: netG 64 37 3 5 g8 ua vbua cbua vtua ctua (L))) := St.netUp [row 4 1 v_seen seen.length c_seen] hs356
        refine st_c cb18 .func (evs1 (.tmp rfl rfl)) (len_spec hs358 okub ) ?_
        rintro e w359 ⟨rfl, hs360⟩
        refine ⟨_, rfl, ?_⟩
        have hs361 : St H118 _ (row 4 1 v_seen seen.length c_seen :: netG 64 37 3 5 g18 ub vbub cbub vtub ctub (netG 64 37 3 5 g8 ua vbua cbua vtua ctua (L))) := St.netDown [row 4 1 v_seen seen.length c_seen] hs360
        refine g_yes (yl (dj := 150) (b := true) rfl rfl (congrArg Value.bool hc357)) ?_
        refine st (v := .bool (decide ((((ub.ps.length : Nat) : Int) : Int) = 0))) (x_eql (k := .i64) (a := ((ub.ps.length : Nat) : Int)) (b := 0) (.tmp rfl rfl) .const) ?_
        refine st (v := .bool (decide ((((ub.ps.length : Nat) : Int) : Int) = 0))) (x_pick_t (.tmp rfl (congrArg Value.bool hc357)) (.tmp rfl rfl)) ?_
        refine st (v := .bool (decide ((((ub.ps.length : Nat) : Int) : Int) = 0))) (x_move (.tmp rfl rfl)) ?_
        have hc362 : (decide ((((ub.ps.length : Nat) : Int) : Int) = 0)) = true := (decide_eq_true (by rw [hD.len, msgs_len, hP.len]; omega))
        refine g_yes (yl (dj := 155) (b := true) rfl rfl (congrArg Value.bool hc362)) ?_
        refine st (v := .pointer (some ⟨g8, 0, none⟩)) (x_move (.tmp rfl hρ122)) ?_
        refine g_yes (yl (dj := 155) (b := true) rfl rfl (congrArg Value.bool hc362)) ?_
        have hs363 : St H118 _ (netG 64 37 3 5 g8 ua vbua cbua vtua ctua (row 4 1 v_seen seen.length c_seen :: netG 64 37 3 5 g18 ub vbub cbub vtub ctub (L))) := St.netUp2 [row 4 1 v_seen seen.length c_seen] hs361
        refine st_c cb23 .func (evs1 (.tmp rfl rfl)) (lost_spec hs363 okua ) ?_
        rintro e w364 ⟨rfl, hs365⟩
        refine ⟨_, rfl, ?_⟩
        have hs366 : St H118 _ (row 4 1 v_seen seen.length c_seen :: netG 64 37 3 5 g18 ub vbub cbub vtub ctub (netG 64 37 3 5 g8 ua vbua cbua vtua ctua (L))) := St.netDown2 [row 4 1 v_seen seen.length c_seen] hs365
        refine g_yes (yl (dj := 155) (b := true) rfl rfl (congrArg Value.bool hc362)) ?_
        refine st (v := .bool (decide ((ua.lost : Int) = 0))) (x_eql (k := .i64) (a := ua.lost) (b := 0) (.tmp rfl rfl) .const) ?_
        refine st (v := .bool (decide ((ua.lost : Int) = 0))) (x_pick_t (.tmp rfl (congrArg Value.bool hc362)) (.tmp rfl rfl)) ?_
        refine st (v := .bool (decide ((ua.lost : Int) = 0))) (x_assign (.tmp rfl rfl)) ?_
        refine c_nil ?_
        refine n_then ?_
        refine c_ret ?_
        refine leave_ret (res_one (v := .bool (decide ((ua.lost : Int) = 0))) rfl (.mk rfl rfl)) ?_
        have hyes : (decide ((ua.lost : Int) = 0)) = true := (decide_eq_true hC.lost)
        rw [hyes]
        exact ⟨rfl, (hs366.drop.netDrop.netDrop.weaken (hg27.trans hg119))⟩

end Go.Proofs.YtojlmilkdijiaaaDoor
