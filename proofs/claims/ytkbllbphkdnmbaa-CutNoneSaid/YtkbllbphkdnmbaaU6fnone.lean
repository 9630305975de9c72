/- Steps of the proofs over the functions of this seat, printed by a program (gen.py) and checked by Lean. -/
import Derived.Test.YtkbllbphkdnmbaaTy
import Derived.Test.YtkbllbphkdnmbaaFmM6
import Derived.Test.YtkbllbphkdnmbaaU6e
set_option linter.unusedVariables false
set_option linter.unusedSimpArgs false
namespace Go.Proofs.Ytkbllbphkdnmbaa
open Go Go.FM Go.Proofs
attribute [local irreducible] wpList wpQuiet wpS Code.wp Calls
set_option maxHeartbeats 8000000 in
theorem cutNone_spec {H : Hp} {w : World} {L : List Res} (hs : St H w (L)) {A_l : Option Addr} {n_l c_l : Nat} (l : (List GState)) (h_l : Sl kState H A_l n_l c_l l) (v : GViewID) {k_v : List Value} (h_v : kViewID.rep H v k_v) (had : Int) (b_had : IB had) : Calls Try.prog 4 #[.slice A_l n_l c_l, .agg k_v.toArray, .int .i64 had] w (fun e w' => e = .returned (.bool true) ∧ St H w' (L)) := by
  have := h_l.len; have := h_l.le; have : n_l * 48 ≤ 140737488351232 := h_l.bnd
  obtain ⟨rfl, b1, ⟨b2, b3⟩⟩ := h_v
  obtain ⟨b_had1, b_had2⟩ := b_had
  refine enter (args := [.slice A_l n_l c_l, .agg #[.int .u64 ((v.N : Nat) : Int), .int .i64 v.P], .int .i64 had]) (N := 86) Try.func4 rfl rfl rfl ?_
  refine c_seq ?_
  refine c_region ?_
  refine st_m (m_box (cs := [.int .u64 ((v.N : Nat) : Int), .int .i64 v.P]) hs (v := .agg #[.int .u64 ((v.N : Nat) : Int), .int .i64 v.P]) (.tmp rfl rfl) rfl) ?_
  rintro _ w5 ⟨g4, rfl, hs7⟩
  refine st (v := .bool false) (x_assign .const) ?_
  refine c_nil ?_
  refine n_then ?_
  refine c_seq ?_
  refine c_seq ?_
  refine c_region ?_
  refine st_c cb10 .func (evs0 ) (awake_spec hs7  ) ?_
  rintro e w8 ⟨rfl, hs9⟩
  refine ⟨_, rfl, ?_⟩
  refine st (v := .bool false) (x_not (b := true) (.tmp rfl rfl)) ?_
  refine st (v := .bool false) (x_move (.tmp rfl rfl)) ?_
  refine g_yes (yl (dj := 16) (b := false) rfl rfl rfl) ?_
  refine st (v := .slice A_l n_l c_l) (x_move (.tmp rfl rfl)) ?_
  refine g_yes (yl (dj := 16) (b := false) rfl rfl rfl) ?_
  refine st_c cb11 .func (evs1 (.tmp rfl rfl)) (right_spec hs9 l h_l ) ?_
  rintro e w10 ⟨rfl, hs11⟩
  refine ⟨_, rfl, ?_⟩
  refine g_yes (yl (dj := 16) (b := false) rfl rfl rfl) ?_
  refine st (v := .bool (!(rightS l))) (x_not (.tmp rfl rfl)) ?_
  refine st (v := .bool (!(rightS l))) (x_pick_f (.tmp rfl rfl) (.tmp rfl rfl)) ?_
  refine c_nil ?_
  refine n_then ?_
  rcases Bool.eq_false_or_eq_true (rightS l) with hc12 | hc12
  · refine c_cond_f (t := false) (.tmp rfl (congrArg Value.bool (by rw [hc12]; rfl))) rfl ?_
    refine c_skip ?_
    refine n_then ?_
    refine c_seq ?_
    refine c_region ?_
    have hrt := rightS_spec hc12; have hjl : (joinS l).length ≤ 40 := Nat.le_trans (joinTo_length l l.length) hrt.2
    refine st (v := .slice A_l n_l c_l) (x_move (.tmp rfl rfl)) ?_
    refine st_c cb12 .func (evs1 (.tmp rfl rfl)) (rjoin_spec hs11 l h_l hrt.1) ?_
    rintro e w13 ⟨v15, cs18, rfl, ok16, hk19, hs14⟩
    have := h_l.len
    refine ⟨_, rfl, ?_⟩
    refine st (v := v15) (x_assign (.tmp rfl rfl)) ?_
    refine c_nil ?_
    refine n_then ?_
    refine c_seq ?_
    refine c_region ?_
    refine st (v := v15) (x_move (.tmp rfl rfl)) ?_
    refine st (v := .pointer (some ⟨g4, 0 + 1, none⟩)) (fa25_1 (.tmp rfl rfl)) ?_
    refine st (v := .int .i64 v.P) (ld3 (.tmp rfl rfl) (hs14.cell 1 rfl (0 + 1) rfl)) ?_
    refine st (v := .agg #[.int .u64 0, .int .i64 v.P]) (bl25 (ps := [(1, .int .i64 v.P)]) (.cons (.tmp rfl rfl) Evp.nil) rfl) ?_
    refine st (v := .int .i64 had) (x_move (.tmp rfl rfl)) ?_
    have : (joinS l).length * 48 ≤ 140737488351232 := by omega
    obtain ⟨H20, A21, c22, hle23, hs24, rfl, sp25⟩ := hs14.freezeSl (d := kState) ok16 hk19 this
    have := sp25.len; have := sp25.le
    have hr26 : kViewID.rep H20 (GViewID.mk 0 v.P) [.int .u64 0, .int .i64 v.P] := ⟨rfl, (show 0 < 18446744073709551616 from by omega), ⟨b2, b3⟩⟩
    refine st_c cb13 .func (evs3 (.tmp rfl rfl) (.tmp rfl rfl) (.tmp rfl rfl)) (rest_spec hs24 (joinS l) sp25 (GViewID.mk 0 v.P) hr26 had ⟨b_had1, b_had2⟩ (fun s hs => hrt.1 s (joinTo_mem l _ s hs).1)) ?_
    rintro e w27 ⟨H29, A31, n32, c33, hle30, rfl, sp34, hs28⟩
    have := sp34.len; have := sp34.le; have : n32 * 32 ≤ 140737488351232 := sp34.bnd
    refine ⟨_, rfl, ?_⟩
    refine st (v := .tuple #[.slice A31 n32 c33, .int .i64 (((restS (joinS l) (GViewID.mk 0 v.P) had).2 : Nat) : Int)]) (x_move (.tmp rfl rfl)) ?_
    refine st (v := .slice A31 n32 c33) (x_extract (.tmp rfl rfl) (i := 0) rfl) ?_
    refine st (v := .int .i64 (((restS (joinS l) (GViewID.mk 0 v.P) had).2 : Nat) : Int)) (x_extract (.tmp rfl rfl) (i := 1) rfl) ?_
    refine st (v := .slice A31 n32 c33) (x_assign (.tmp rfl rfl)) ?_
    refine st (v := .int .i64 (((restS (joinS l) (GViewID.mk 0 v.P) had).2 : Nat) : Int)) (x_assign (.tmp rfl rfl)) ?_
    refine c_nil ?_
    refine n_then ?_
    refine c_seq ?_
    refine c_region ?_
    have h0 : restS (joinS l) (GViewID.mk 0 v.P) had = ([], 0) := restS_zero rfl
    have hn0 : n32 = 0 := by rw [← sp34.len, h0]; rfl
    refine st (v := .bool false) (x_assign .const) ?_
    refine c_nil ?_
    refine n_then ?_
    refine c_seq ?_
    refine c_seq ?_
    refine c_region ?_
    refine st (v := .int .i64 0) (x_assign .const) ?_
    refine c_nil ?_
    refine n_then ?_
    refine c_block ?_
    refine c_loop (fun ρ w mm => ∃ (told : Bool) (i : Nat), ρ 0 = .slice A_l n_l c_l ∧ ρ 2 = .int .i64 had ∧ ρ 4 = .pointer (some ⟨g4, 0, none⟩) ∧ ρ 7 = .slice A21 ((joinS l).length) c22 ∧ ρ 8 = .slice A31 n32 c33 ∧ ρ 9 = .int .i64 (((restS (joinS l) (GViewID.mk 0 v.P) had).2 : Nat) : Int) ∧ ρ 10 = .bool told ∧ ρ 11 = .int .i64 ((i : Nat) : Int) ∧ (i ≤ n_l) ∧ (told = (l.take i).any (fun s => decide (s.V = v))) ∧ St H29 w (obj g4 25 [.int .u64 ((v.N : Nat) : Int), .int .i64 v.P] :: L) ∧ mm = n_l - i) _ ⟨false, 0, rfl, rfl, rfl, rfl, rfl, rfl, rfl, rfl, (by omega), rfl, hs28, rfl⟩ ?_
    rintro ρ w mm ⟨told, i, hρ36, hρ37, hρ38, hρ39, hρ40, hρ41, hρ42, hρ43, hi, ht, hs44, rfl⟩
    refine c_seq ?_
    refine c_seq ?_
    refine c_region ?_
    refine st (v := .int .i64 ((i : Nat) : Int)) (x_move (.tmp rfl hρ43)) ?_
    refine st (v := .slice A_l n_l c_l) (x_move (.tmp rfl hρ36)) ?_
    refine st (v := .int .i64 ((n_l : Nat) : Int)) (x_len (n := n_l) Try.underlying22 (.tmp rfl rfl)) ?_
    refine st (v := .bool (decide ((((i : Nat) : Int) : Int) < ((n_l : Nat) : Int)))) (x_lss (k := .i64) (a := ((i : Nat) : Int)) (b := ((n_l : Nat) : Int)) (.tmp rfl rfl) (.tmp rfl rfl)) ?_
    refine c_nil ?_
    refine n_then ?_
    rcases Bool.eq_false_or_eq_true (decide ((((i : Nat) : Int) : Int) < ((n_l : Nat) : Int))) with hc45 | hc45
    · have hp45 : (((i : Nat) : Int) : Int) < ((n_l : Nat) : Int) := of_decide_eq_true hc45
      refine c_cond_t (t := true) (.tmp rfl (congrArg Value.bool hc45)) rfl ?_
      refine c_skip ?_
      refine n_then ?_
      refine c_seq ?_
      refine c_block ?_
      refine q_region mixed hs44 (by kernel_rfl) ?_
      refine q_st (v := .bool told) (fun w hs => (x_move (.tmp rfl hρ42))) ?_
      refine q_st (v := .bool told) (fun w hs => (x_move (.tmp rfl rfl))) ?_
      rcases Bool.eq_false_or_eq_true told with hc46 | hc46
      · refine q_no (yl (dj := 40) (b := true) rfl rfl (congrArg Value.bool hc46)) rfl ?_
        refine q_no (yl (dj := 40) (b := true) rfl rfl (congrArg Value.bool hc46)) rfl ?_
        refine q_no (yl (dj := 40) (b := true) rfl rfl (congrArg Value.bool hc46)) rfl ?_
        refine q_no (yl (dj := 40) (b := true) rfl rfl (congrArg Value.bool hc46)) rfl ?_
        refine q_no (yl (dj := 40) (b := true) rfl rfl (congrArg Value.bool hc46)) rfl ?_
        refine q_no (yl (dj := 40) (b := true) rfl rfl (congrArg Value.bool hc46)) rfl ?_
        refine q_no (yl (dj := 40) (b := true) rfl rfl (congrArg Value.bool hc46)) rfl ?_
        refine q_st (v := .bool true) (fun w hs => (x_pick_t (.tmp rfl (congrArg Value.bool hc46)) .const)) ?_
        refine q_st (v := .bool true) (fun w hs => (x_assign (.tmp rfl rfl))) ?_
        refine q_nil ?_
        intro w hs47
        refine n_block ?_
        refine n_then ?_
        refine c_region ?_
        refine st (v := .int .i64 ((i : Nat) : Int)) (x_move (.tmp rfl hρ43)) ?_
        refine st (v := .int .i64 (((i + 1) : Nat) : Int)) (x_add (k := .i64) (a := ((i : Nat) : Int)) (b := 1) (.tmp rfl rfl) .const ((w64 (by omega) (by omega)).trans (by omega))) ?_
        refine st (v := .int .i64 (((i + 1) : Nat) : Int)) (x_assign (.tmp rfl rfl)) ?_
        refine c_nil ?_
        refine n_then ⟨_, _, rfl, ?_, true, (i + 1), hρ36, hρ37, hρ38, hρ39, hρ40, hρ41, rfl, rfl, (by omega), (by rw [take_succ' (List.getElem?_eq_getElem (by omega)), List.any_append, ← ht]; simp [hc46]), hs47, rfl⟩
        omega
      · refine q_yes (yl (dj := 40) (b := false) rfl rfl (congrArg Value.bool hc46)) ?_
        refine q_st (v := .slice A_l n_l c_l) (fun w hs => (x_move (.tmp rfl hρ36))) ?_
        refine q_yes (yl (dj := 40) (b := false) rfl rfl (congrArg Value.bool hc46)) ?_
        refine q_st (v := .int .i64 ((i : Nat) : Int)) (fun w hs => (x_move (.tmp rfl hρ43))) ?_
        refine q_yes (yl (dj := 40) (b := false) rfl rfl (congrArg Value.bool hc46)) ?_
        obtain ⟨e48, b49, o50, cs51, hx52, hA53, hr54, hat55⟩ := ((h_l.mono hle23).mono hle30).get (i := i) (by omega)
        obtain ⟨A61, n62, c63, rfl, b56, ⟨b57, b58⟩, ⟨b59, b60⟩, hl64⟩ := hr54
        have := hl64.len; have : n62 * 32 ≤ 140737488351232 := hl64.bnd; have := hl64.le
        have hat55x : ∀ {w : World} {L : List Res}, St H29 w L → At w ⟨b49, o50 + i * 4, none⟩ [.int .u64 ((e48.V.N : Nat) : Int), .int .i64 e48.V.P, .int .i64 e48.Floor, .slice A61 n62 c63] := fun h => hat55 h
        refine q_st (v := .pointer (some ⟨b49, (o50 + i * 4), none⟩)) (fun w hs => (ixo22 (.tmp rfl rfl) hA53 (i := ((i : Nat) : Int)) (.tmp rfl rfl) (by omega) (by omega) (by omega))) ?_
        refine q_yes (yl (dj := 40) (b := false) rfl rfl (congrArg Value.bool hc46)) ?_
        refine q_st (v := .pointer (some ⟨b49, (o50 + i * 4) + 0, none⟩)) (fun w hs => (fa38_0 (.tmp rfl rfl))) ?_
        refine q_yes (yl (dj := 40) (b := false) rfl rfl (congrArg Value.bool hc46)) ?_
        refine q_st (v := .agg #[.int .u64 ((e48.V.N : Nat) : Int), .int .i64 e48.V.P]) (fun w hs => (ld25 (cs := [.int .u64 ((e48.V.N : Nat) : Int), .int .i64 e48.V.P]) (.tmp rfl rfl) ((hat55x hs).sub 0 rfl) rfl)) ?_
        refine q_yes (yl (dj := 40) (b := false) rfl rfl (congrArg Value.bool hc46)) ?_
        refine q_st (v := .agg #[.int .u64 ((v.N : Nat) : Int), .int .i64 v.P]) (fun w hs => (ld25 (cs := [.int .u64 ((v.N : Nat) : Int), .int .i64 v.P]) (.tmp rfl hρ38) (hs.at_ 0 rfl (0) rfl) rfl)) ?_
        refine q_yes (yl (dj := 40) (b := false) rfl rfl (congrArg Value.bool hc46)) ?_
        refine q_st (v := .bool ((((e48.V.N : Nat) : Int) == ((v.N : Nat) : Int)) && ((e48.V.P == v.P) && true))) (fun w hs => (x_eqlA eqg25 (.tmp rfl rfl) (.tmp rfl rfl) (fun d => eqs25 (d + 98) _ ((e48.V.N : Nat) : Int) ((v.N : Nat) : Int) e48.V.P v.P))) ?_
        refine q_st (v := .bool (decide (e48.V = v))) (fun w hs => (x_pick_f (.tmp rfl (congrArg Value.bool hc46)) (.tmp rfl (congrArg Value.bool (GViewID.beq_dec e48.V v))))) ?_
        refine q_st (v := .bool (decide (e48.V = v))) (fun w hs => (x_assign (.tmp rfl rfl))) ?_
        refine q_nil ?_
        intro w hs65
        refine n_block ?_
        refine n_then ?_
        refine c_region ?_
        refine st (v := .int .i64 ((i : Nat) : Int)) (x_move (.tmp rfl hρ43)) ?_
        refine st (v := .int .i64 (((i + 1) : Nat) : Int)) (x_add (k := .i64) (a := ((i : Nat) : Int)) (b := 1) (.tmp rfl rfl) .const ((w64 (by omega) (by omega)).trans (by omega))) ?_
        refine st (v := .int .i64 (((i + 1) : Nat) : Int)) (x_assign (.tmp rfl rfl)) ?_
        refine c_nil ?_
        refine n_then ⟨_, _, rfl, ?_, (decide (e48.V = v)), (i + 1), hρ36, hρ37, hρ38, hρ39, hρ40, hρ41, rfl, rfl, (by omega), (by rw [take_succ' hx52, List.any_append, ← ht]; simp [hc46]), hs65, rfl⟩
        omega
    · have hp45 : ¬ ((((i : Nat) : Int) : Int) < ((n_l : Nat) : Int)) := of_decide_eq_false hc45
      refine c_cond_f (t := false) (.tmp rfl (congrArg Value.bool hc45)) rfl ?_
      refine c_exit ?_
      refine x_then ?_
      refine x_then ?_
      refine x_here ?_
      refine n_then ?_
      refine c_seq ?_
      refine c_region ?_
      refine st (v := .slice A21 ((joinS l).length) c22) (x_move (.tmp rfl hρ39)) ?_
      refine st (v := .agg #[.int .u64 ((v.N : Nat) : Int), .int .i64 v.P]) (ld25 (cs := [.int .u64 ((v.N : Nat) : Int), .int .i64 v.P]) (.tmp rfl hρ38) (hs44.at_ 0 rfl (0) rfl) rfl) ?_
      refine st (v := .int .i64 had) (x_move (.tmp rfl hρ37)) ?_
      have hr66 : kViewID.rep H29 v [.int .u64 ((v.N : Nat) : Int), .int .i64 v.P] := ⟨rfl, b1, ⟨b2, b3⟩⟩
      refine st_c cb13 .func (evs3 (.tmp rfl rfl) (.tmp rfl rfl) (.tmp rfl rfl)) (rest_spec hs44 (joinS l) (sp25.mono hle30) v hr66 had ⟨b_had1, b_had2⟩ (fun s hs => hrt.1 s (joinTo_mem l _ s hs).1)) ?_
      rintro e w67 ⟨H69, A71, n72, c73, hle70, rfl, sp74, hs68⟩
      have := sp74.len; have := sp74.le; have : n72 * 32 ≤ 140737488351232 := sp74.bnd
      refine ⟨_, rfl, ?_⟩
      refine st (v := .tuple #[.slice A71 n72 c73, .int .i64 (((restS (joinS l) v had).2 : Nat) : Int)]) (x_move (.tmp rfl rfl)) ?_
      refine st (v := .slice A71 n72 c73) (x_extract (.tmp rfl rfl) (i := 0) rfl) ?_
      refine st (v := .int .i64 (((restS (joinS l) v had).2 : Nat) : Int)) (x_extract (.tmp rfl rfl) (i := 1) rfl) ?_
      refine st (v := .slice A71 n72 c73) (x_assign (.tmp rfl rfl)) ?_
      refine st (v := .int .i64 (((restS (joinS l) v had).2 : Nat) : Int)) (x_assign (.tmp rfl rfl)) ?_
      refine c_nil ?_
      refine n_then ?_
      refine c_seq ?_
      refine c_region ?_
      have hnt : told = false → v.N ≠ 0 → restS (joinS l) v had = ([], 6) := fun h1 h2 => restS_untold h2 (by rw [← h1, ht, List.take_of_length_le (by omega)])
      have hnb : told = false → v.N ≠ 0 → n72 = 0 := fun h1 h2 => by rw [← sp74.len, hnt h1 h2]; rfl
      refine st (v := .int .i64 (((restS (joinS l) (GViewID.mk 0 v.P) had).2 : Nat) : Int)) (x_move (.tmp rfl hρ41)) ?_
      refine st (v := .bool (decide (((((restS (joinS l) (GViewID.mk 0 v.P) had).2 : Nat) : Int) : Int) = 0))) (x_eql (k := .i64) (a := (((restS (joinS l) (GViewID.mk 0 v.P) had).2 : Nat) : Int)) (b := 0) (.tmp rfl rfl) .const) ?_
      refine st (v := .bool (decide (((((restS (joinS l) (GViewID.mk 0 v.P) had).2 : Nat) : Int) : Int) = 0))) (x_move (.tmp rfl rfl)) ?_
      have hc75 : (decide (((((restS (joinS l) (GViewID.mk 0 v.P) had).2 : Nat) : Int) : Int) = 0)) = true := (decide_eq_true (by rw [h0]; rfl))
      refine g_yes (yl (dj := 58) (b := true) rfl rfl (congrArg Value.bool hc75)) ?_
      refine st (v := .slice A31 n32 c33) (x_move (.tmp rfl hρ40)) ?_
      refine g_yes (yl (dj := 58) (b := true) rfl rfl (congrArg Value.bool hc75)) ?_
      refine st (v := .int .i64 ((n32 : Nat) : Int)) (x_len (n := n32) Try.underlying29 (.tmp rfl rfl)) ?_
      refine g_yes (yl (dj := 58) (b := true) rfl rfl (congrArg Value.bool hc75)) ?_
      refine st (v := .bool (decide ((((n32 : Nat) : Int) : Int) = 0))) (x_eql (k := .i64) (a := ((n32 : Nat) : Int)) (b := 0) (.tmp rfl rfl) .const) ?_
      refine st (v := .bool (decide ((((n32 : Nat) : Int) : Int) = 0))) (x_pick_t (.tmp rfl (congrArg Value.bool hc75)) (.tmp rfl rfl)) ?_
      refine st (v := .bool (decide ((((n32 : Nat) : Int) : Int) = 0))) (x_move (.tmp rfl rfl)) ?_
      have hc76 : (decide ((((n32 : Nat) : Int) : Int) = 0)) = true := (decide_eq_true (by omega))
      refine g_yes (yl (dj := 63) (b := true) rfl rfl (congrArg Value.bool hc76)) ?_
      refine st (v := .bool told) (x_move (.tmp rfl hρ42)) ?_
      refine g_yes (yl (dj := 63) (b := true) rfl rfl (congrArg Value.bool hc76)) ?_
      refine st (v := .bool told) (x_move (.tmp rfl rfl)) ?_
      rcases Bool.eq_false_or_eq_true told with hc77 | hc77
      · refine g_no (yl (dj := 65) (b := true) rfl rfl (congrArg Value.bool hc77)) rfl ?_
        refine g_no (yl (dj := 65) (b := true) rfl rfl (congrArg Value.bool hc77)) rfl ?_
        refine g_no (yl (dj := 65) (b := true) rfl rfl (congrArg Value.bool hc77)) rfl ?_
        refine g_yes (yl (dj := 63) (b := true) rfl rfl (congrArg Value.bool hc76)) ?_
        refine st (v := .bool true) (x_pick_t (.tmp rfl (congrArg Value.bool hc77)) .const) ?_
        refine g_yes (yl (dj := 63) (b := true) rfl rfl (congrArg Value.bool hc76)) ?_
        refine st (v := .bool true) (x_move (.tmp rfl rfl)) ?_
        refine g_no (yl (dj := 70) (b := true) rfl rfl rfl) rfl ?_
        refine g_no (yl (dj := 70) (b := true) rfl rfl rfl) rfl ?_
        refine g_no (yl (dj := 70) (b := true) rfl rfl rfl) rfl ?_
        refine g_no0 (yn (dj := 73) rfl rfl) ?_
        refine g_no0 (yn (dj := 73) rfl rfl) ?_
        refine g_no0 (yn (dj := 73) rfl rfl) ?_
        refine g_no (yl (dj := 70) (b := true) rfl rfl rfl) rfl ?_
        refine g_yes (yl (dj := 63) (b := true) rfl rfl (congrArg Value.bool hc76)) ?_
        refine st (v := .bool true) (x_pick_t (.tmp rfl rfl) .const) ?_
        refine st (v := .bool true) (x_pick_t (.tmp rfl (congrArg Value.bool hc76)) (.tmp rfl rfl)) ?_
        refine st (v := .bool true) (x_move (.tmp rfl rfl)) ?_
        refine g_yes (yl (dj := 80) (b := true) rfl rfl rfl) ?_
        have hr84 : kItem.rep H69 (GItem.mk 0 []) [.int .i64 0, .slice none 0 0] := ⟨none, 0, 0, rfl, (show IB 0 from ⟨by omega, by omega⟩), (By.nil _ none)⟩
        refine st_m (m_makeK (d := kItem) (y0 := (GItem.mk 0 [])) (i := 2) Try.underlying29 inf47 hr84 hs68 .const .const (by omega) (by omega) (by decide)) ?_
        rintro v78 w79 ⟨cs80, ok81, hk82, hs83⟩
        have hn86 : (List.replicate 2 (GItem.mk 0 [])).length = 2 := by simp
        refine g_yes (yl (dj := 80) (b := true) rfl rfl rfl) ?_
        have : (List.replicate 2 (GItem.mk 0 [])).length * 32 ≤ 140737488351232 := by omega
        obtain ⟨H88, A89, c90, hle91, hs92, rfl, sp93⟩ := hs83.freezeSl (d := kItem) ok81 hk82 this
        have := sp93.len; have := sp93.le
        refine st (v := .agg #[.int .u64 0, .int .i64 0, .int .i64 3, .slice A89 ((List.replicate 2 (GItem.mk 0 [])).length) c90]) (bl38 (ps := [(1, .int .i64 3), (2, .slice A89 ((List.replicate 2 (GItem.mk 0 [])).length) c90)]) (.cons .const (.cons (.tmp rfl rfl) Evp.nil)) rfl) ?_
        refine g_yes (yl (dj := 80) (b := true) rfl rfl rfl) ?_
        have hr94 : kState.rep H88 (GState.mk (GViewID.mk 0 0) 3 (List.replicate 2 (GItem.mk 0 []))) [.int .u64 0, .int .i64 0, .int .i64 3, .slice A89 ((List.replicate 2 (GItem.mk 0 [])).length) c90] := ⟨A89, ((List.replicate 2 (GItem.mk 0 [])).length), c90, rfl, (show 0 < 18446744073709551616 from by omega), (show IB 0 from ⟨by omega, by omega⟩), (show IB 3 from ⟨by omega, by omega⟩), sp93⟩
        refine st_c cb16 .func (evs1 (.tmp rfl rfl)) (end_spec hs92 (GState.mk (GViewID.mk 0 0) 3 (List.replicate 2 (GItem.mk 0 []))) hr94 (show (0 : Int) ≤ 3 from by omega) (show 3 ≤ (1073741824 : Int) from by omega)) ?_
        rintro e w95 ⟨rfl, hs96⟩
        refine ⟨_, rfl, ?_⟩
        refine g_yes (yl (dj := 80) (b := true) rfl rfl rfl) ?_
        refine st (v := .bool (decide (((sEnd (GState.mk (GViewID.mk 0 0) 3 (List.replicate 2 (GItem.mk 0 [])))) : Int) = 5))) (x_eql (k := .i64) (a := (sEnd (GState.mk (GViewID.mk 0 0) 3 (List.replicate 2 (GItem.mk 0 []))))) (b := 5) (.tmp rfl rfl) .const) ?_
        refine st (v := .bool (decide (((sEnd (GState.mk (GViewID.mk 0 0) 3 (List.replicate 2 (GItem.mk 0 [])))) : Int) = 5))) (x_pick_t (.tmp rfl rfl) (.tmp rfl rfl)) ?_
        refine st (v := .bool (decide (((sEnd (GState.mk (GViewID.mk 0 0) 3 (List.replicate 2 (GItem.mk 0 [])))) : Int) = 5))) (x_assign (.tmp rfl rfl)) ?_
        refine c_nil ?_
        refine n_then ?_
        refine c_ret ?_
        refine leave_ret (res_one (v := .bool (decide (((sEnd (GState.mk (GViewID.mk 0 0) 3 (List.replicate 2 (GItem.mk 0 [])))) : Int) = 5))) rfl (.mk rfl rfl)) ?_
        have hyes : (decide (((sEnd (GState.mk (GViewID.mk 0 0) 3 (List.replicate 2 (GItem.mk 0 [])))) : Int) = 5)) = true := (decide_eq_true (by decide))
        rw [hyes]
        exact ⟨rfl, (hs96.drop.weaken (((hle23.trans hle30).trans hle70).trans hle91))⟩
      · refine g_yes (yl (dj := 65) (b := false) rfl rfl (congrArg Value.bool hc77)) ?_
        refine st (v := .pointer (some ⟨g4, 0 + 0, none⟩)) (fa25_0 (.tmp rfl hρ38)) ?_
        refine g_yes (yl (dj := 65) (b := false) rfl rfl (congrArg Value.bool hc77)) ?_
        refine st (v := .int .u64 ((v.N : Nat) : Int)) (ld23 (.tmp rfl rfl) (hs68.cell 0 rfl (0 + 0) rfl)) ?_
        refine g_yes (yl (dj := 65) (b := false) rfl rfl (congrArg Value.bool hc77)) ?_
        refine st (v := .bool (decide ((((v.N : Nat) : Int) : Int) = 0))) (x_eql (k := .u64) (a := ((v.N : Nat) : Int)) (b := 0) (.tmp rfl rfl) .const) ?_
        refine g_yes (yl (dj := 63) (b := true) rfl rfl (congrArg Value.bool hc76)) ?_
        refine st (v := .bool (decide ((((v.N : Nat) : Int) : Int) = 0))) (x_pick_f (.tmp rfl (congrArg Value.bool hc77)) (.tmp rfl rfl)) ?_
        refine g_yes (yl (dj := 63) (b := true) rfl rfl (congrArg Value.bool hc76)) ?_
        refine st (v := .bool (decide ((((v.N : Nat) : Int) : Int) = 0))) (x_move (.tmp rfl rfl)) ?_
        rcases Bool.eq_false_or_eq_true (decide ((((v.N : Nat) : Int) : Int) = 0)) with hc97 | hc97
        · have hp97 : (((v.N : Nat) : Int) : Int) = 0 := of_decide_eq_true hc97
          refine g_no (yl (dj := 70) (b := true) rfl rfl (congrArg Value.bool hc97)) rfl ?_
          refine g_no (yl (dj := 70) (b := true) rfl rfl (congrArg Value.bool hc97)) rfl ?_
          refine g_no (yl (dj := 70) (b := true) rfl rfl (congrArg Value.bool hc97)) rfl ?_
          refine g_no0 (yn (dj := 73) rfl rfl) ?_
          refine g_no0 (yn (dj := 73) rfl rfl) ?_
          refine g_no0 (yn (dj := 73) rfl rfl) ?_
          refine g_no (yl (dj := 70) (b := true) rfl rfl (congrArg Value.bool hc97)) rfl ?_
          refine g_yes (yl (dj := 63) (b := true) rfl rfl (congrArg Value.bool hc76)) ?_
          refine st (v := .bool true) (x_pick_t (.tmp rfl (congrArg Value.bool hc97)) .const) ?_
          refine st (v := .bool true) (x_pick_t (.tmp rfl (congrArg Value.bool hc76)) (.tmp rfl rfl)) ?_
          refine st (v := .bool true) (x_move (.tmp rfl rfl)) ?_
          refine g_yes (yl (dj := 80) (b := true) rfl rfl rfl) ?_
          have hr104 : kItem.rep H69 (GItem.mk 0 []) [.int .i64 0, .slice none 0 0] := ⟨none, 0, 0, rfl, (show IB 0 from ⟨by omega, by omega⟩), (By.nil _ none)⟩
          refine st_m (m_makeK (d := kItem) (y0 := (GItem.mk 0 [])) (i := 2) Try.underlying29 inf47 hr104 hs68 .const .const (by omega) (by omega) (by decide)) ?_
          rintro v98 w99 ⟨cs100, ok101, hk102, hs103⟩
          have hn106 : (List.replicate 2 (GItem.mk 0 [])).length = 2 := by simp
          refine g_yes (yl (dj := 80) (b := true) rfl rfl rfl) ?_
          have : (List.replicate 2 (GItem.mk 0 [])).length * 32 ≤ 140737488351232 := by omega
          obtain ⟨H108, A109, c110, hle111, hs112, rfl, sp113⟩ := hs103.freezeSl (d := kItem) ok101 hk102 this
          have := sp113.len; have := sp113.le
          refine st (v := .agg #[.int .u64 0, .int .i64 0, .int .i64 3, .slice A109 ((List.replicate 2 (GItem.mk 0 [])).length) c110]) (bl38 (ps := [(1, .int .i64 3), (2, .slice A109 ((List.replicate 2 (GItem.mk 0 [])).length) c110)]) (.cons .const (.cons (.tmp rfl rfl) Evp.nil)) rfl) ?_
          refine g_yes (yl (dj := 80) (b := true) rfl rfl rfl) ?_
          have hr114 : kState.rep H108 (GState.mk (GViewID.mk 0 0) 3 (List.replicate 2 (GItem.mk 0 []))) [.int .u64 0, .int .i64 0, .int .i64 3, .slice A109 ((List.replicate 2 (GItem.mk 0 [])).length) c110] := ⟨A109, ((List.replicate 2 (GItem.mk 0 [])).length), c110, rfl, (show 0 < 18446744073709551616 from by omega), (show IB 0 from ⟨by omega, by omega⟩), (show IB 3 from ⟨by omega, by omega⟩), sp113⟩
          refine st_c cb16 .func (evs1 (.tmp rfl rfl)) (end_spec hs112 (GState.mk (GViewID.mk 0 0) 3 (List.replicate 2 (GItem.mk 0 []))) hr114 (show (0 : Int) ≤ 3 from by omega) (show 3 ≤ (1073741824 : Int) from by omega)) ?_
          rintro e w115 ⟨rfl, hs116⟩
          refine ⟨_, rfl, ?_⟩
          refine g_yes (yl (dj := 80) (b := true) rfl rfl rfl) ?_
          refine st (v := .bool (decide (((sEnd (GState.mk (GViewID.mk 0 0) 3 (List.replicate 2 (GItem.mk 0 [])))) : Int) = 5))) (x_eql (k := .i64) (a := (sEnd (GState.mk (GViewID.mk 0 0) 3 (List.replicate 2 (GItem.mk 0 []))))) (b := 5) (.tmp rfl rfl) .const) ?_
          refine st (v := .bool (decide (((sEnd (GState.mk (GViewID.mk 0 0) 3 (List.replicate 2 (GItem.mk 0 [])))) : Int) = 5))) (x_pick_t (.tmp rfl rfl) (.tmp rfl rfl)) ?_
          refine st (v := .bool (decide (((sEnd (GState.mk (GViewID.mk 0 0) 3 (List.replicate 2 (GItem.mk 0 [])))) : Int) = 5))) (x_assign (.tmp rfl rfl)) ?_
          refine c_nil ?_
          refine n_then ?_
          refine c_ret ?_
          refine leave_ret (res_one (v := .bool (decide (((sEnd (GState.mk (GViewID.mk 0 0) 3 (List.replicate 2 (GItem.mk 0 [])))) : Int) = 5))) rfl (.mk rfl rfl)) ?_
          have hyes : (decide (((sEnd (GState.mk (GViewID.mk 0 0) 3 (List.replicate 2 (GItem.mk 0 [])))) : Int) = 5)) = true := (decide_eq_true (by decide))
          rw [hyes]
          exact ⟨rfl, (hs116.drop.weaken (((hle23.trans hle30).trans hle70).trans hle111))⟩
        · have hp97 : ¬ ((((v.N : Nat) : Int) : Int) = 0) := of_decide_eq_false hc97
          refine g_yes (yl (dj := 70) (b := false) rfl rfl (congrArg Value.bool hc97)) ?_
          refine st (v := .int .i64 (((restS (joinS l) v had).2 : Nat) : Int)) (x_move (.tmp rfl rfl)) ?_
          refine g_yes (yl (dj := 70) (b := false) rfl rfl (congrArg Value.bool hc97)) ?_
          refine st (v := .bool (decide (((((restS (joinS l) v had).2 : Nat) : Int) : Int) = 6))) (x_eql (k := .i64) (a := (((restS (joinS l) v had).2 : Nat) : Int)) (b := 6) (.tmp rfl rfl) .const) ?_
          refine g_yes (yl (dj := 70) (b := false) rfl rfl (congrArg Value.bool hc97)) ?_
          refine st (v := .bool (decide (((((restS (joinS l) v had).2 : Nat) : Int) : Int) = 6))) (x_move (.tmp rfl rfl)) ?_
          have hc117 : (decide (((((restS (joinS l) v had).2 : Nat) : Int) : Int) = 6)) = true := (decide_eq_true (by rw [hnt hc77 (by omega)]; rfl))
          refine g_yes (yl (dj := 73) (b := true) rfl rfl (congrArg Value.bool hc117)) ?_
          refine st (v := .slice A71 n72 c73) (x_move (.tmp rfl rfl)) ?_
          refine g_yes (yl (dj := 73) (b := true) rfl rfl (congrArg Value.bool hc117)) ?_
          refine st (v := .int .i64 ((n72 : Nat) : Int)) (x_len (n := n72) Try.underlying29 (.tmp rfl rfl)) ?_
          refine g_yes (yl (dj := 73) (b := true) rfl rfl (congrArg Value.bool hc117)) ?_
          refine st (v := .bool (decide ((((n72 : Nat) : Int) : Int) = 0))) (x_eql (k := .i64) (a := ((n72 : Nat) : Int)) (b := 0) (.tmp rfl rfl) .const) ?_
          refine g_yes (yl (dj := 70) (b := false) rfl rfl (congrArg Value.bool hc97)) ?_
          refine st (v := .bool (decide ((((n72 : Nat) : Int) : Int) = 0))) (x_pick_t (.tmp rfl (congrArg Value.bool hc117)) (.tmp rfl rfl)) ?_
          refine g_yes (yl (dj := 63) (b := true) rfl rfl (congrArg Value.bool hc76)) ?_
          refine st (v := .bool (decide ((((n72 : Nat) : Int) : Int) = 0))) (x_pick_f (.tmp rfl (congrArg Value.bool hc97)) (.tmp rfl rfl)) ?_
          refine st (v := .bool (decide ((((n72 : Nat) : Int) : Int) = 0))) (x_pick_t (.tmp rfl (congrArg Value.bool hc76)) (.tmp rfl rfl)) ?_
          refine st (v := .bool (decide ((((n72 : Nat) : Int) : Int) = 0))) (x_move (.tmp rfl rfl)) ?_
          have hc118 : (decide ((((n72 : Nat) : Int) : Int) = 0)) = true := (decide_eq_true (by have := hnb hc77 (by omega); omega))
          refine g_yes (yl (dj := 80) (b := true) rfl rfl (congrArg Value.bool hc118)) ?_
          have hr125 : kItem.rep H69 (GItem.mk 0 []) [.int .i64 0, .slice none 0 0] := ⟨none, 0, 0, rfl, (show IB 0 from ⟨by omega, by omega⟩), (By.nil _ none)⟩
          refine st_m (m_makeK (d := kItem) (y0 := (GItem.mk 0 [])) (i := 2) Try.underlying29 inf47 hr125 hs68 .const .const (by omega) (by omega) (by decide)) ?_
          rintro v119 w120 ⟨cs121, ok122, hk123, hs124⟩
          have hn127 : (List.replicate 2 (GItem.mk 0 [])).length = 2 := by simp
          refine g_yes (yl (dj := 80) (b := true) rfl rfl (congrArg Value.bool hc118)) ?_
          have : (List.replicate 2 (GItem.mk 0 [])).length * 32 ≤ 140737488351232 := by omega
          obtain ⟨H129, A130, c131, hle132, hs133, rfl, sp134⟩ := hs124.freezeSl (d := kItem) ok122 hk123 this
          have := sp134.len; have := sp134.le
          refine st (v := .agg #[.int .u64 0, .int .i64 0, .int .i64 3, .slice A130 ((List.replicate 2 (GItem.mk 0 [])).length) c131]) (bl38 (ps := [(1, .int .i64 3), (2, .slice A130 ((List.replicate 2 (GItem.mk 0 [])).length) c131)]) (.cons .const (.cons (.tmp rfl rfl) Evp.nil)) rfl) ?_
          refine g_yes (yl (dj := 80) (b := true) rfl rfl (congrArg Value.bool hc118)) ?_
          have hr135 : kState.rep H129 (GState.mk (GViewID.mk 0 0) 3 (List.replicate 2 (GItem.mk 0 []))) [.int .u64 0, .int .i64 0, .int .i64 3, .slice A130 ((List.replicate 2 (GItem.mk 0 [])).length) c131] := ⟨A130, ((List.replicate 2 (GItem.mk 0 [])).length), c131, rfl, (show 0 < 18446744073709551616 from by omega), (show IB 0 from ⟨by omega, by omega⟩), (show IB 3 from ⟨by omega, by omega⟩), sp134⟩
          refine st_c cb16 .func (evs1 (.tmp rfl rfl)) (end_spec hs133 (GState.mk (GViewID.mk 0 0) 3 (List.replicate 2 (GItem.mk 0 []))) hr135 (show (0 : Int) ≤ 3 from by omega) (show 3 ≤ (1073741824 : Int) from by omega)) ?_
          rintro e w136 ⟨rfl, hs137⟩
          refine ⟨_, rfl, ?_⟩
          refine g_yes (yl (dj := 80) (b := true) rfl rfl (congrArg Value.bool hc118)) ?_
          refine st (v := .bool (decide (((sEnd (GState.mk (GViewID.mk 0 0) 3 (List.replicate 2 (GItem.mk 0 [])))) : Int) = 5))) (x_eql (k := .i64) (a := (sEnd (GState.mk (GViewID.mk 0 0) 3 (List.replicate 2 (GItem.mk 0 []))))) (b := 5) (.tmp rfl rfl) .const) ?_
          refine st (v := .bool (decide (((sEnd (GState.mk (GViewID.mk 0 0) 3 (List.replicate 2 (GItem.mk 0 [])))) : Int) = 5))) (x_pick_t (.tmp rfl (congrArg Value.bool hc118)) (.tmp rfl rfl)) ?_
          refine st (v := .bool (decide (((sEnd (GState.mk (GViewID.mk 0 0) 3 (List.replicate 2 (GItem.mk 0 [])))) : Int) = 5))) (x_assign (.tmp rfl rfl)) ?_
          refine c_nil ?_
          refine n_then ?_
          refine c_ret ?_
          refine leave_ret (res_one (v := .bool (decide (((sEnd (GState.mk (GViewID.mk 0 0) 3 (List.replicate 2 (GItem.mk 0 [])))) : Int) = 5))) rfl (.mk rfl rfl)) ?_
          have hyes : (decide (((sEnd (GState.mk (GViewID.mk 0 0) 3 (List.replicate 2 (GItem.mk 0 [])))) : Int) = 5)) = true := (decide_eq_true (by decide))
          rw [hyes]
          exact ⟨rfl, (hs137.drop.weaken (((hle23.trans hle30).trans hle70).trans hle132))⟩
  · refine c_cond_t (t := true) (.tmp rfl (congrArg Value.bool (by rw [hc12]; rfl))) rfl ?_
    refine c_seq ?_
    refine c_region ?_
    refine st_c cb10 .func (evs0 ) (awake_spec hs11  ) ?_
    rintro e w138 ⟨rfl, hs139⟩
    refine ⟨_, rfl, ?_⟩
    refine st (v := .bool true) (x_assign (.tmp rfl rfl)) ?_
    refine c_nil ?_
    refine n_then ?_
    refine c_ret ?_
    refine r_then ?_
    refine leave_ret (res_one (v := .bool true) rfl (.mk rfl rfl)) ?_
    exact ⟨rfl, hs139.drop⟩

end Go.Proofs.Ytkbllbphkdnmbaa
