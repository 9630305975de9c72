/- Steps of the proofs over the functions of this seat, printed by a program (gen.py) and checked by Lean. -/
import Derived.Test.YtojlmilkdijiaaaDoorUty
import Derived.Test.YtojlmilkdijiaaaDoorFmM4b
import Derived.Test.YtojlmilkdijiaaaDoorFmP
import Derived.Test.YtojlmilkdijiaaaDoorU8d
set_option linter.unusedVariables false
set_option linter.unusedSimpArgs false
namespace Go.Proofs.YtojlmilkdijiaaaDoor
open Go Go.FM Go.Proofs
attribute [local irreducible] wpList wpQuiet wpS Code.wp Calls
set_option maxHeartbeats 8000000 in
theorem classes_spec {H : Hp} {w : World} {L : List Res} (hs : St H w (L)) (n : Nat) (b_n : n < 256) {A_cuts : Option Addr} {n_cuts c_cuts : Nat} (cuts : List Nat) (h_cuts : By H A_cuts n_cuts c_cuts cuts) (htab : Tab H) : Calls Tryd.prog 3 #[.int .u8 ((n : Nat) : Int), .slice A_cuts n_cuts c_cuts] w (fun e w' => e = .returned (.bool true) ∧ St H w' (L)) := by
  have := h_cuts.len; have := h_cuts.le; have := h_cuts.bnd
  refine enter (args := [.int .u8 ((n : Nat) : Int), .slice A_cuts n_cuts c_cuts]) (N := 89) Tryd.func3 rfl rfl rfl ?_
  refine c_seq ?_
  refine c_region ?_
  refine st (v := .bool false) (x_assign .const) ?_
  refine c_nil ?_
  refine n_then ?_
  refine c_seq ?_
  refine c_seq ?_
  refine c_region ?_
  refine st_c cb11 .func (evs0 ) (awake_spec hs  htab) ?_
  rintro e w1 ⟨rfl, hs2⟩
  refine ⟨_, rfl, ?_⟩
  refine st (v := .bool false) (x_not (b := true) (.tmp rfl rfl)) ?_
  refine c_nil ?_
  refine n_then ?_
  refine c_cond_f (t := false) (.tmp rfl rfl) rfl ?_
  refine c_skip ?_
  refine n_then ?_
  refine c_seq ?_
  refine c_region ?_
  refine st (v := .int .u8 ((n : Nat) : Int)) (x_move (.tmp rfl rfl)) ?_
  refine st (v := .int .i64 ((n : Nat) : Int)) (x_conv (k := .u8) (a := ((n : Nat) : Int)) Tryd.underlying5 Tryd.underlying3 (.tmp rfl rfl) (w64 (by omega) (by omega))) ?_
  refine st (v := .int .i64 (((n % 16) : Nat) : Int)) (x_remN (k := .i64) (m := n) (n := 16) (.tmp rfl rfl) .const (by omega)) ?_
  refine st (v := .int .i64 (((1 + (n % 16)) : Nat) : Int)) (x_add (k := .i64) (a := 1) (b := (((n % 16) : Nat) : Int)) .const (.tmp rfl rfl) ((w64 (by omega) (by omega)).trans (by omega))) ?_
  refine st (v := .int .i64 (((1 + (n % 16)) : Nat) : Int)) (x_assign (.tmp rfl rfl)) ?_
  refine c_nil ?_
  refine n_then ?_
  refine c_seq ?_
  refine c_region ?_
  refine st (v := .int .i64 (((1 + (n % 16)) : Nat) : Int)) (x_move (.tmp rfl rfl)) ?_
  refine st_c cb12 .func (evs1 (.tmp rfl rfl)) (new_spec hs2 (((1 + (n % 16)) : Nat) : Int) ⟨by omega, by omega⟩ (by omega) (by omega)) ?_
  rintro e w3 ⟨g5, vb6, cb7, vt8, ct9, rfl, ok10, hs4⟩
  refine ⟨_, rfl, ?_⟩
  refine st (v := .tuple #[.pointer (some ⟨g5, 0, none⟩), .int .i64 0]) (x_move (.tmp rfl rfl)) ?_
  refine st (v := .pointer (some ⟨g5, 0, none⟩)) (x_extract (.tmp rfl rfl) (i := 0) rfl) ?_
  refine st (v := .int .i64 0) (x_extract (.tmp rfl rfl) (i := 1) rfl) ?_
  refine st (v := .pointer (some ⟨g5, 0, none⟩)) (x_assign (.tmp rfl rfl)) ?_
  refine st (v := .int .i64 0) (x_assign (.tmp rfl rfl)) ?_
  refine c_nil ?_
  refine n_then ?_
  refine c_seq ?_
  refine c_seq ?_
  refine c_region ?_
  refine st (v := .int .i64 0) (x_assign .const) ?_
  refine c_nil ?_
  refine n_then ?_
  refine c_block ?_
  refine c_loop (fun ρ w mm => ∃ (i : Nat) (s : NetS) (vbs : Value) (cbs : List Value) (vts : Value) (cts : List Value), ρ 1 = .slice A_cuts n_cuts c_cuts ∧ ρ 5 = .int .i64 (((1 + (n % 16)) : Nat) : Int) ∧ ρ 6 = .pointer (some ⟨g5, 0, none⟩) ∧ ρ 8 = .int .i64 ((i : Nat) : Int) ∧ (NetOk H s vbs cbs vts cts) ∧ (s.n = ((1 + n % 16 : Nat) : Int)) ∧ (i ≤ 201) ∧ St H w (netG 64 37 3 5 g5 s vbs cbs vts cts (L)) ∧ mm = n_cuts - i) _ ⟨0, netNew (((1 + (n % 16)) : Nat) : Int), vb6, cb7, vt8, ct9, rfl, rfl, rfl, rfl, ok10, (by first | exact hsn | exact (setH_n _ _ _ _).trans hsn | rfl), (by omega), hs4, rfl⟩ ?_
  rintro ρ w mm ⟨i, s, vbs, cbs, vts, cts, hρ14, hρ15, hρ16, hρ17, oks, hsn, hi, hs18, rfl⟩
  refine c_seq ?_
  refine c_seq ?_
  refine c_region ?_
  refine st (v := .int .i64 ((i : Nat) : Int)) (x_move (.tmp rfl hρ17)) ?_
  refine st (v := .int .i64 (((i + 1) : Nat) : Int)) (x_add (k := .i64) (a := ((i : Nat) : Int)) (b := 1) (.tmp rfl rfl) .const ((w64 (by omega) (by omega)).trans (by omega))) ?_
  refine st (v := .slice A_cuts n_cuts c_cuts) (x_move (.tmp rfl hρ14)) ?_
  refine st (v := .int .i64 ((n_cuts : Nat) : Int)) (x_len (n := n_cuts) Tryd.underlying22 (.tmp rfl rfl)) ?_
  refine st (v := .bool (decide (((((i + 1) : Nat) : Int) : Int) < ((n_cuts : Nat) : Int)))) (x_lss (k := .i64) (a := (((i + 1) : Nat) : Int)) (b := ((n_cuts : Nat) : Int)) (.tmp rfl rfl) (.tmp rfl rfl)) ?_
  refine st (v := .bool (decide (((((i + 1) : Nat) : Int) : Int) < ((n_cuts : Nat) : Int)))) (x_move (.tmp rfl rfl)) ?_
  rcases Bool.eq_false_or_eq_true (decide (((((i + 1) : Nat) : Int) : Int) < ((n_cuts : Nat) : Int))) with hc19 | hc19
  · have hp19 : ((((i + 1) : Nat) : Int) : Int) < ((n_cuts : Nat) : Int) := of_decide_eq_true hc19
    refine g_yes (yl (dj := 28) (b := true) rfl rfl (congrArg Value.bool hc19)) ?_
    refine st (v := .int .i64 ((i : Nat) : Int)) (x_move (.tmp rfl hρ17)) ?_
    refine g_yes (yl (dj := 28) (b := true) rfl rfl (congrArg Value.bool hc19)) ?_
    refine st (v := .bool (decide ((((i : Nat) : Int) : Int) < 200))) (x_lss (k := .i64) (a := ((i : Nat) : Int)) (b := 200) (.tmp rfl rfl) .const) ?_
    refine st (v := .bool (decide ((((i : Nat) : Int) : Int) < 200))) (x_pick_t (.tmp rfl (congrArg Value.bool hc19)) (.tmp rfl rfl)) ?_
    refine c_nil ?_
    refine n_then ?_
    rcases Bool.eq_false_or_eq_true (decide ((((i : Nat) : Int) : Int) < 200)) with hc20 | hc20
    · have hp20 : (((i : Nat) : Int) : Int) < 200 := of_decide_eq_true hc20
      refine c_cond_t (t := true) (.tmp rfl (congrArg Value.bool hc20)) rfl ?_
      refine c_skip ?_
      refine n_then ?_
      refine c_seq ?_
      refine c_block ?_
      refine s_region (L := netG 64 37 3 5 g5 s vbs cbs vts cts (L)) (L' := L) none [(0, true), (1, true), (2, true), (3, true), (4, true), (5, true), (6, true), (7, true), (8, true), (9, true), (10, true), (11, true), (12, true), (13, true), (14, true), (15, true), (16, false)] mixed hs18 (fun u hu => hu.netDrop) (by kernel_rfl) ?_
      intro w21 hs22
      refine s_st (k := 0) (v := .pointer (some ⟨g5, 0, none⟩)) rfl (fun w hs => (x_move (.tmp rfl hρ16))) ?_
      refine s_st (k := 1) (v := .slice A_cuts n_cuts c_cuts) rfl (fun w hs => (x_move (.tmp rfl hρ14))) ?_
      refine s_st (k := 2) (v := .int .i64 ((i : Nat) : Int)) rfl (fun w hs => (x_move (.tmp rfl hρ17))) ?_
      obtain ⟨b23, o24, hA25, hc26⟩ := h_cuts.toBs.get (i := i) (by omega)
      refine s_st (k := 3) (v := .pointer (some ⟨b23, (o24 + i * 1), none⟩)) rfl (fun w hs => (ixo22 (.tmp rfl rfl) hA25 (i := ((i : Nat) : Int)) (.tmp rfl rfl) (by omega) (by omega) rfl)) ?_
      refine s_st (k := 4) (v := .int .u8 ((cuts.getD i 0 : Nat) : Int)) rfl (fun w hs => (ld5 (.tmp rfl rfl) (hc26 hs))) ?_
      have : (cuts.getD i 0) < 256 := (h_cuts.toBs.lt.getD _)
      refine s_st (k := 5) (v := .int .i64 ((cuts.getD i 0 : Nat) : Int)) rfl (fun w hs => (x_conv (k := .u8) (a := ((cuts.getD i 0 : Nat) : Int)) Tryd.underlying5 Tryd.underlying3 (.tmp rfl rfl) (w64 (by omega) (by omega)))) ?_
      refine s_st (k := 6) (v := .int .i64 (((1 + (n % 16)) : Nat) : Int)) rfl (fun w hs => (x_move (.tmp rfl hρ15))) ?_
      refine s_st (k := 7) (v := .int .i64 ((((cuts.getD i 0) % (1 + (n % 16))) : Nat) : Int)) rfl (fun w hs => (x_remN (k := .i64) (m := (cuts.getD i 0)) (n := (1 + (n % 16))) (.tmp rfl rfl) (.tmp rfl rfl) (by omega))) ?_
      refine s_st (k := 8) (v := .slice A_cuts n_cuts c_cuts) rfl (fun w hs => (x_move (.tmp rfl hρ14))) ?_
      refine s_st (k := 9) (v := .int .i64 ((i : Nat) : Int)) rfl (fun w hs => (x_move (.tmp rfl hρ17))) ?_
      refine s_st (k := 10) (v := .int .i64 (((i + 1) : Nat) : Int)) rfl (fun w hs => (x_add (k := .i64) (a := ((i : Nat) : Int)) (b := 1) (.tmp rfl rfl) .const ((w64 (by omega) (by omega)).trans (by omega)))) ?_
      obtain ⟨b27, o28, hA29, hc30⟩ := h_cuts.toBs.get (i := (i + 1)) (by omega)
      refine s_st (k := 11) (v := .pointer (some ⟨b27, (o28 + (i + 1) * 1), none⟩)) rfl (fun w hs => (ixo22 (.tmp rfl rfl) hA29 (i := (((i + 1) : Nat) : Int)) (.tmp rfl rfl) (by omega) (by omega) rfl)) ?_
      refine s_st (k := 12) (v := .int .u8 ((cuts.getD (i + 1) 0 : Nat) : Int)) rfl (fun w hs => (ld5 (.tmp rfl rfl) (hc30 hs))) ?_
      have : (cuts.getD (i + 1) 0) < 256 := (h_cuts.toBs.lt.getD _)
      refine s_st (k := 13) (v := .int .i64 ((cuts.getD (i + 1) 0 : Nat) : Int)) rfl (fun w hs => (x_conv (k := .u8) (a := ((cuts.getD (i + 1) 0 : Nat) : Int)) Tryd.underlying5 Tryd.underlying3 (.tmp rfl rfl) (w64 (by omega) (by omega)))) ?_
      refine s_st (k := 14) (v := .int .i64 (((1 + (n % 16)) : Nat) : Int)) rfl (fun w hs => (x_move (.tmp rfl hρ15))) ?_
      refine s_st (k := 15) (v := .int .i64 ((((cuts.getD (i + 1) 0) % (1 + (n % 16))) : Nat) : Int)) rfl (fun w hs => (x_remN (k := .i64) (m := (cuts.getD (i + 1) 0)) (n := (1 + (n % 16))) (.tmp rfl rfl) (.tmp rfl rfl) (by omega))) ?_
      have hm1 := Nat.mod_lt (cuts.getD i 0) (show 0 < 1 + n % 16 by omega)
      have hm2 := Nat.mod_lt (cuts.getD (i + 1) 0) (show 0 < 1 + n % 16 by omega)
      refine s_eff (k := 16) rfl ?_
      have hs31 : St H _ (netG 64 37 3 5 g5 s vbs cbs vts cts (L)) := St.netUp [] hs22
      refine st_c cb13 .func (evs3 (.tmp rfl rfl) (.tmp rfl rfl) (.tmp rfl rfl)) (cut_spec hs31 oks ((((cuts.getD i 0) % (1 + (n % 16))) : Nat) : Int) ⟨by omega, by omega⟩ ((((cuts.getD (i + 1) 0) % (1 + (n % 16))) : Nat) : Int) ⟨by omega, by omega⟩ ) ?_
      rintro e w32 ⟨vb34, cb35, vt36, ct37, rfl, ok38, hs33⟩
      refine ⟨_, rfl, ?_⟩
      have hs39 : St H _ (netG 64 37 3 5 g5 (NetS.setH wto s ((((cuts.getD i 0) % (1 + (n % 16))) : Nat) : Int) ((((cuts.getD (i + 1) 0) % (1 + (n % 16))) : Nat) : Int)) vb34 cb35 vt36 ct37 (L)) := St.netDown [] hs33
      refine s_on (S' := fun u => St H u (L)) (fun u hu => hu) hs39.netDrop ?_
      refine s_nil ?_
      refine n_block ?_
      refine n_then ?_
      refine c_region ?_
      refine st (v := .int .i64 ((i : Nat) : Int)) (x_move (.tmp rfl hρ17)) ?_
      refine st (v := .int .i64 (((i + 2) : Nat) : Int)) (x_add (k := .i64) (a := ((i : Nat) : Int)) (b := 2) (.tmp rfl rfl) .const ((w64 (by omega) (by omega)).trans (by omega))) ?_
      refine st (v := .int .i64 (((i + 2) : Nat) : Int)) (x_assign (.tmp rfl rfl)) ?_
      refine c_nil ?_
      refine n_then ⟨_, _, rfl, ?_, (i + 2), (NetS.setH wto s ((((cuts.getD i 0) % (1 + (n % 16))) : Nat) : Int) ((((cuts.getD (i + 1) 0) % (1 + (n % 16))) : Nat) : Int)), vb34, cb35, vt36, ct37, hρ14, hρ15, hρ16, rfl, ok38, (by first | exact hsn | exact (setH_n _ _ _ _).trans hsn | rfl), (by omega), hs39, rfl⟩
      omega
    · have hp20 : ¬ ((((i : Nat) : Int) : Int) < 200) := of_decide_eq_false hc20
      refine c_cond_f (t := false) (.tmp rfl (congrArg Value.bool hc20)) rfl ?_
      refine c_exit ?_
      refine x_then ?_
      refine x_then ?_
      refine x_here ?_
      refine n_then ?_
      refine c_seq ?_
      refine c_seq ?_
      refine c_region ?_
      refine st (v := .int .i64 0) (x_assign .const) ?_
      refine c_nil ?_
      refine n_then ?_
      refine c_block ?_
      refine c_loop (fun ρ w mm => ∃ (i : Nat), ρ 5 = .int .i64 (((1 + (n % 16)) : Nat) : Int) ∧ ρ 6 = .pointer (some ⟨g5, 0, none⟩) ∧ ρ 9 = .int .i64 ((i : Nat) : Int) ∧ (i ≤ 1 + n % 16) ∧ St H w (netG 64 37 3 5 g5 s vbs cbs vts cts (L)) ∧ mm = 1 + n % 16 - i) _ ⟨0, hρ15, hρ16, rfl, (by omega), hs18, rfl⟩ ?_
      rintro ρ w mm ⟨i, hρ41, hρ42, hρ43, hi, hs44, rfl⟩
      refine c_seq ?_
      refine c_seq ?_
      refine c_region ?_
      refine st (v := .int .i64 ((i : Nat) : Int)) (x_move (.tmp rfl hρ43)) ?_
      refine st (v := .int .i64 (((1 + (n % 16)) : Nat) : Int)) (x_move (.tmp rfl hρ41)) ?_
      refine st (v := .bool (decide ((((i : Nat) : Int) : Int) < (((1 + (n % 16)) : Nat) : Int)))) (x_lss (k := .i64) (a := ((i : Nat) : Int)) (b := (((1 + (n % 16)) : Nat) : Int)) (.tmp rfl rfl) (.tmp rfl rfl)) ?_
      refine c_nil ?_
      refine n_then ?_
      rcases Bool.eq_false_or_eq_true (decide ((((i : Nat) : Int) : Int) < (((1 + (n % 16)) : Nat) : Int))) with hc45 | hc45
      · have hp45 : (((i : Nat) : Int) : Int) < (((1 + (n % 16)) : Nat) : Int) := of_decide_eq_true hc45
        refine c_cond_t (t := true) (.tmp rfl (congrArg Value.bool hc45)) rfl ?_
        refine c_skip ?_
        refine n_then ?_
        refine c_seq ?_
        refine c_block ?_
        refine c_seq ?_
        refine c_region ?_
        refine st (v := .pointer (some ⟨g5, 0, none⟩)) (x_move (.tmp rfl hρ42)) ?_
        refine st (v := .int .i64 ((i : Nat) : Int)) (x_move (.tmp rfl hρ43)) ?_
        have hs46 : St H _ (netG 64 37 3 5 g5 s vbs cbs vts cts (L)) := St.netUp [] hs44
        refine st_c cb14 .func (evs2 (.tmp rfl rfl) (.tmp rfl rfl)) (class_spec hs46 oks ((i : Nat) : Int) ⟨by omega, by omega⟩ htab) ?_
        rintro e w47 ⟨rfl, hs48⟩
        refine ⟨_, rfl, ?_⟩
        have hs49 : St H _ (netG 64 37 3 5 g5 s vbs cbs vts cts (L)) := St.netDown [] hs48
        refine st (v := .int .u16 (((s.cls ((i : Nat) : Int)) : Nat) : Int)) (x_assign (.tmp rfl rfl)) ?_
        refine c_nil ?_
        refine n_then ?_
        refine c_seq ?_
        refine c_region ?_
        have hcb : s.cls ((i : Nat) : Int) < 65536 := cls_lt oks.hb _
        refine st (v := .int .i64 0) (x_assign .const) ?_
        refine c_nil ?_
        refine n_then ?_
        refine c_block ?_
        refine c_loop (fun ρ w mm => ∃ (j : Nat), ρ 5 = .int .i64 (((1 + (n % 16)) : Nat) : Int) ∧ ρ 6 = .pointer (some ⟨g5, 0, none⟩) ∧ ρ 9 = .int .i64 ((i : Nat) : Int) ∧ ρ 10 = .int .u16 (((s.cls ((i : Nat) : Int)) : Nat) : Int) ∧ ρ 11 = .int .i64 ((j : Nat) : Int) ∧ (j ≤ 1 + n % 16) ∧ St H w (netG 64 37 3 5 g5 s vbs cbs vts cts (L)) ∧ mm = 1 + n % 16 - j) _ ⟨0, hρ41, hρ42, hρ43, rfl, rfl, (by omega), hs49, rfl⟩ ?_
        rintro ρ w mm ⟨j, hρ51, hρ52, hρ53, hρ54, hρ55, hj, hs56, rfl⟩
        refine c_seq ?_
        refine c_seq ?_
        refine c_region ?_
        refine st (v := .int .i64 ((j : Nat) : Int)) (x_move (.tmp rfl hρ55)) ?_
        refine st (v := .int .i64 (((1 + (n % 16)) : Nat) : Int)) (x_move (.tmp rfl hρ51)) ?_
        refine st (v := .bool (decide ((((j : Nat) : Int) : Int) < (((1 + (n % 16)) : Nat) : Int)))) (x_lss (k := .i64) (a := ((j : Nat) : Int)) (b := (((1 + (n % 16)) : Nat) : Int)) (.tmp rfl rfl) (.tmp rfl rfl)) ?_
        refine st (v := .bool (decide ((((j : Nat) : Int) : Int) < (((1 + (n % 16)) : Nat) : Int)))) (x_move (.tmp rfl rfl)) ?_
        rcases Bool.eq_false_or_eq_true (decide ((((j : Nat) : Int) : Int) < (((1 + (n % 16)) : Nat) : Int))) with hc57 | hc57
        · have hp57 : (((j : Nat) : Int) : Int) < (((1 + (n % 16)) : Nat) : Int) := of_decide_eq_true hc57
          refine g_yes (yl (dj := 62) (b := true) rfl rfl (congrArg Value.bool hc57)) ?_
          refine st (v := .int .u16 (((s.cls ((i : Nat) : Int)) : Nat) : Int)) (x_move (.tmp rfl hρ54)) ?_
          refine g_yes (yl (dj := 62) (b := true) rfl rfl (congrArg Value.bool hc57)) ?_
          refine st (v := .bool (decide (((((s.cls ((i : Nat) : Int)) : Nat) : Int) : Int) ≠ 0))) (x_neq (k := .u16) (a := (((s.cls ((i : Nat) : Int)) : Nat) : Int)) (b := 0) (.tmp rfl rfl) .const) ?_
          refine st (v := .bool (decide (((((s.cls ((i : Nat) : Int)) : Nat) : Int) : Int) ≠ 0))) (x_pick_t (.tmp rfl (congrArg Value.bool hc57)) (.tmp rfl rfl)) ?_
          refine c_nil ?_
          refine n_then ?_
          rcases Bool.eq_false_or_eq_true (decide (((((s.cls ((i : Nat) : Int)) : Nat) : Int) : Int) ≠ 0)) with hc58 | hc58
          · have hp58 : ((((s.cls ((i : Nat) : Int)) : Nat) : Int) : Int) ≠ 0 := of_decide_eq_true hc58
            refine c_cond_t (t := true) (.tmp rfl (congrArg Value.bool hc58)) rfl ?_
            refine c_skip ?_
            refine n_then ?_
            refine c_seq ?_
            refine c_block ?_
            refine c_seq ?_
            refine c_region ?_
            refine st (v := .pointer (some ⟨g5, 0, none⟩)) (x_move (.tmp rfl hρ52)) ?_
            refine st (v := .int .i64 ((i : Nat) : Int)) (x_move (.tmp rfl hρ53)) ?_
            refine st (v := .int .i64 ((j : Nat) : Int)) (x_move (.tmp rfl hρ55)) ?_
            have hs59 : St H _ (netG 64 37 3 5 g5 s vbs cbs vts cts (L)) := St.netUp [] hs56
            refine st_c cb15 .func (evs3 (.tmp rfl rfl) (.tmp rfl rfl) (.tmp rfl rfl)) (hear_spec hs59 oks ((i : Nat) : Int) ⟨by omega, by omega⟩ ((j : Nat) : Int) ⟨by omega, by omega⟩ ) ?_
            rintro e w60 ⟨rfl, hs61⟩
            refine ⟨_, rfl, ?_⟩
            have hs62 : St H _ (netG 64 37 3 5 g5 s vbs cbs vts cts (L)) := St.netDown [] hs61
            refine st (v := .int .u16 (((s.cls ((i : Nat) : Int)) : Nat) : Int)) (x_move (.tmp rfl hρ54)) ?_
            refine st (v := .int .i64 ((j : Nat) : Int)) (x_move (.tmp rfl hρ55)) ?_
            refine st_c cb16 .func (evs2 (.tmp rfl rfl) (.tmp rfl rfl)) (rhas_spec hs62 (s.cls ((i : Nat) : Int)) ((j : Nat) : Int) (by omega) (by omega)) ?_
            rintro e w63 ⟨rfl, hs64⟩
            refine ⟨_, rfl, ?_⟩
            refine st (v := .bool ((s.hears ((i : Nat) : Int) ((j : Nat) : Int)) != (has (s.cls ((i : Nat) : Int)) ((j : Nat) : Int)))) (x_neqB Tryd.underlying4 (.tmp rfl rfl) (.tmp rfl rfl)) ?_
            refine st (v := .bool ((s.hears ((i : Nat) : Int) ((j : Nat) : Int)) != (has (s.cls ((i : Nat) : Int)) ((j : Nat) : Int)))) (x_move (.tmp rfl rfl)) ?_
            have hc65 : ((s.hears ((i : Nat) : Int) ((j : Nat) : Int)) != (has (s.cls ((i : Nat) : Int)) ((j : Nat) : Int))) = false := (by rw [cls_hears (by omega)]; simp)
            refine g_yes (yl (dj := 76) (b := false) rfl rfl (congrArg Value.bool hc65)) ?_
            refine st (v := .pointer (some ⟨g5, 0, none⟩)) (x_move (.tmp rfl hρ52)) ?_
            refine g_yes (yl (dj := 76) (b := false) rfl rfl (congrArg Value.bool hc65)) ?_
            refine st (v := .int .i64 ((i : Nat) : Int)) (x_move (.tmp rfl hρ53)) ?_
            refine g_yes (yl (dj := 76) (b := false) rfl rfl (congrArg Value.bool hc65)) ?_
            refine st (v := .int .i64 ((j : Nat) : Int)) (x_move (.tmp rfl hρ55)) ?_
            refine g_yes (yl (dj := 76) (b := false) rfl rfl (congrArg Value.bool hc65)) ?_
            have hs66 : St H _ (netG 64 37 3 5 g5 s vbs cbs vts cts (L)) := St.netUp [] hs64
            refine st_c cb15 .func (evs3 (.tmp rfl rfl) (.tmp rfl rfl) (.tmp rfl rfl)) (hear_spec hs66 oks ((i : Nat) : Int) ⟨by omega, by omega⟩ ((j : Nat) : Int) ⟨by omega, by omega⟩ ) ?_
            rintro e w67 ⟨rfl, hs68⟩
            refine ⟨_, rfl, ?_⟩
            have hs69 : St H _ (netG 64 37 3 5 g5 s vbs cbs vts cts (L)) := St.netDown [] hs68
            refine g_yes (yl (dj := 76) (b := false) rfl rfl (congrArg Value.bool hc65)) ?_
            refine st (v := .bool (s.hears ((i : Nat) : Int) ((j : Nat) : Int))) (x_move (.tmp rfl rfl)) ?_
            rcases Bool.eq_false_or_eq_true (s.hears ((i : Nat) : Int) ((j : Nat) : Int)) with hc70 | hc70
            · refine g_yes (yl (dj := 81) (b := true) rfl rfl (congrArg Value.bool hc70)) ?_
              refine st (v := .pointer (some ⟨g5, 0, none⟩)) (x_move (.tmp rfl hρ52)) ?_
              refine g_yes (yl (dj := 81) (b := true) rfl rfl (congrArg Value.bool hc70)) ?_
              refine st (v := .int .i64 ((j : Nat) : Int)) (x_move (.tmp rfl hρ55)) ?_
              refine g_yes (yl (dj := 81) (b := true) rfl rfl (congrArg Value.bool hc70)) ?_
              have hs71 : St H _ (netG 64 37 3 5 g5 s vbs cbs vts cts (L)) := St.netUp [] hs69
              refine st_c cb14 .func (evs2 (.tmp rfl rfl) (.tmp rfl rfl)) (class_spec hs71 oks ((j : Nat) : Int) ⟨by omega, by omega⟩ htab) ?_
              rintro e w72 ⟨rfl, hs73⟩
              refine ⟨_, rfl, ?_⟩
              have hs74 : St H _ (netG 64 37 3 5 g5 s vbs cbs vts cts (L)) := St.netDown [] hs73
              refine g_yes (yl (dj := 81) (b := true) rfl rfl (congrArg Value.bool hc70)) ?_
              refine st (v := .int .u16 (((s.cls ((i : Nat) : Int)) : Nat) : Int)) (x_move (.tmp rfl hρ54)) ?_
              refine g_yes (yl (dj := 81) (b := true) rfl rfl (congrArg Value.bool hc70)) ?_
              refine st (v := .bool (decide (((((s.cls ((j : Nat) : Int)) : Nat) : Int) : Int) ≠ (((s.cls ((i : Nat) : Int)) : Nat) : Int)))) (x_neq (k := .u16) (a := (((s.cls ((j : Nat) : Int)) : Nat) : Int)) (b := (((s.cls ((i : Nat) : Int)) : Nat) : Int)) (.tmp rfl rfl) (.tmp rfl rfl)) ?_
              refine g_yes (yl (dj := 76) (b := false) rfl rfl (congrArg Value.bool hc65)) ?_
              refine st (v := .bool (decide (((((s.cls ((j : Nat) : Int)) : Nat) : Int) : Int) ≠ (((s.cls ((i : Nat) : Int)) : Nat) : Int)))) (x_pick_t (.tmp rfl (congrArg Value.bool hc70)) (.tmp rfl rfl)) ?_
              refine st (v := .bool (decide (((((s.cls ((j : Nat) : Int)) : Nat) : Int) : Int) ≠ (((s.cls ((i : Nat) : Int)) : Nat) : Int)))) (x_pick_f (.tmp rfl (congrArg Value.bool hc65)) (.tmp rfl rfl)) ?_
              refine c_nil ?_
              refine n_then ?_
              have hc75 : (decide (((((s.cls ((j : Nat) : Int)) : Nat) : Int) : Int) ≠ (((s.cls ((i : Nat) : Int)) : Nat) : Int))) = false := (decide_eq_false (fun h => h (congrArg (fun z : Nat => (z : Int)) (cls_same (by omega) (decide_eq_true (by omega)) hc70))))
              refine c_cond_f (t := false) (.tmp rfl (congrArg Value.bool hc75)) rfl ?_
              refine c_skip ?_
              refine n_block ?_
              refine n_then ?_
              refine c_region ?_
              refine st (v := .int .i64 ((j : Nat) : Int)) (x_move (.tmp rfl hρ55)) ?_
              refine st (v := .int .i64 (((j + 1) : Nat) : Int)) (x_add (k := .i64) (a := ((j : Nat) : Int)) (b := 1) (.tmp rfl rfl) .const ((w64 (by omega) (by omega)).trans (by omega))) ?_
              refine st (v := .int .i64 (((j + 1) : Nat) : Int)) (x_assign (.tmp rfl rfl)) ?_
              refine c_nil ?_
              refine n_then ⟨_, _, rfl, ?_, (j + 1), hρ51, hρ52, hρ53, hρ54, rfl, (by omega), hs74, rfl⟩
              omega
            · refine g_no (yl (dj := 81) (b := false) rfl rfl (congrArg Value.bool hc70)) rfl ?_
              refine g_no (yl (dj := 81) (b := false) rfl rfl (congrArg Value.bool hc70)) rfl ?_
              refine g_no (yl (dj := 81) (b := false) rfl rfl (congrArg Value.bool hc70)) rfl ?_
              refine g_no (yl (dj := 81) (b := false) rfl rfl (congrArg Value.bool hc70)) rfl ?_
              refine g_no (yl (dj := 81) (b := false) rfl rfl (congrArg Value.bool hc70)) rfl ?_
              refine g_yes (yl (dj := 76) (b := false) rfl rfl (congrArg Value.bool hc65)) ?_
              refine st (v := .bool false) (x_pick_f (.tmp rfl (congrArg Value.bool hc70)) .const) ?_
              refine st (v := .bool false) (x_pick_f (.tmp rfl (congrArg Value.bool hc65)) (.tmp rfl rfl)) ?_
              refine c_nil ?_
              refine n_then ?_
              refine c_cond_f (t := false) (.tmp rfl rfl) rfl ?_
              refine c_skip ?_
              refine n_block ?_
              refine n_then ?_
              refine c_region ?_
              refine st (v := .int .i64 ((j : Nat) : Int)) (x_move (.tmp rfl hρ55)) ?_
              refine st (v := .int .i64 (((j + 1) : Nat) : Int)) (x_add (k := .i64) (a := ((j : Nat) : Int)) (b := 1) (.tmp rfl rfl) .const ((w64 (by omega) (by omega)).trans (by omega))) ?_
              refine st (v := .int .i64 (((j + 1) : Nat) : Int)) (x_assign (.tmp rfl rfl)) ?_
              refine c_nil ?_
              refine n_then ⟨_, _, rfl, ?_, (j + 1), hρ51, hρ52, hρ53, hρ54, rfl, (by omega), hs69, rfl⟩
              omega
          · have hp58 : ¬ (((((s.cls ((i : Nat) : Int)) : Nat) : Int) : Int) ≠ 0) := of_decide_eq_false hc58
            refine c_cond_f (t := false) (.tmp rfl (congrArg Value.bool hc58)) rfl ?_
            refine c_exit ?_
            refine x_then ?_
            refine x_then ?_
            refine x_here ?_
            refine n_block ?_
            refine n_then ?_
            refine c_region ?_
            refine st (v := .int .i64 ((i : Nat) : Int)) (x_move (.tmp rfl hρ53)) ?_
            refine st (v := .int .i64 (((i + 1) : Nat) : Int)) (x_add (k := .i64) (a := ((i : Nat) : Int)) (b := 1) (.tmp rfl rfl) .const ((w64 (by omega) (by omega)).trans (by omega))) ?_
            refine st (v := .int .i64 (((i + 1) : Nat) : Int)) (x_assign (.tmp rfl rfl)) ?_
            refine c_nil ?_
            refine n_then ⟨_, _, rfl, ?_, (i + 1), hρ51, hρ52, rfl, (by omega), hs56, rfl⟩
            omega
        · have hp57 : ¬ ((((j : Nat) : Int) : Int) < (((1 + (n % 16)) : Nat) : Int)) := of_decide_eq_false hc57
          refine g_no (yl (dj := 62) (b := false) rfl rfl (congrArg Value.bool hc57)) rfl ?_
          refine g_no (yl (dj := 62) (b := false) rfl rfl (congrArg Value.bool hc57)) rfl ?_
          refine st (v := .bool false) (x_pick_f (.tmp rfl (congrArg Value.bool hc57)) .const) ?_
          refine c_nil ?_
          refine n_then ?_
          refine c_cond_f (t := false) (.tmp rfl rfl) rfl ?_
          refine c_exit ?_
          refine x_then ?_
          refine x_then ?_
          refine x_here ?_
          refine n_block ?_
          refine n_then ?_
          refine c_region ?_
          refine st (v := .int .i64 ((i : Nat) : Int)) (x_move (.tmp rfl hρ53)) ?_
          refine st (v := .int .i64 (((i + 1) : Nat) : Int)) (x_add (k := .i64) (a := ((i : Nat) : Int)) (b := 1) (.tmp rfl rfl) .const ((w64 (by omega) (by omega)).trans (by omega))) ?_
          refine st (v := .int .i64 (((i + 1) : Nat) : Int)) (x_assign (.tmp rfl rfl)) ?_
          refine c_nil ?_
          refine n_then ⟨_, _, rfl, ?_, (i + 1), hρ51, hρ52, rfl, (by omega), hs56, rfl⟩
          omega
      · have hp45 : ¬ ((((i : Nat) : Int) : Int) < (((1 + (n % 16)) : Nat) : Int)) := of_decide_eq_false hc45
        refine c_cond_f (t := false) (.tmp rfl (congrArg Value.bool hc45)) rfl ?_
        refine c_exit ?_
        refine x_then ?_
        refine x_then ?_
        refine x_here ?_
        refine n_then ?_
        refine c_seq ?_
        refine c_region ?_
        refine st (v := .bool true) (x_assign .const) ?_
        refine c_nil ?_
        refine n_then ?_
        refine c_ret ?_
        refine leave_ret (res_one (v := .bool true) rfl (.mk rfl rfl)) ?_
        exact ⟨rfl, hs44.netDrop⟩
  · have hp19 : ¬ (((((i + 1) : Nat) : Int) : Int) < ((n_cuts : Nat) : Int)) := of_decide_eq_false hc19
    refine g_no (yl (dj := 28) (b := false) rfl rfl (congrArg Value.bool hc19)) rfl ?_
    refine g_no (yl (dj := 28) (b := false) rfl rfl (congrArg Value.bool hc19)) rfl ?_
    refine st (v := .bool false) (x_pick_f (.tmp rfl (congrArg Value.bool hc19)) .const) ?_
    refine c_nil ?_
    refine n_then ?_
    refine c_cond_f (t := false) (.tmp rfl rfl) rfl ?_
    refine c_exit ?_
    refine x_then ?_
    refine x_then ?_
    refine x_here ?_
    refine n_then ?_
    refine c_seq ?_
    refine c_seq ?_
    refine c_region ?_
    refine st (v := .int .i64 0) (x_assign .const) ?_
    refine c_nil ?_
    refine n_then ?_
    refine c_block ?_
    refine c_loop (fun ρ w mm => ∃ (i : Nat), ρ 5 = .int .i64 (((1 + (n % 16)) : Nat) : Int) ∧ ρ 6 = .pointer (some ⟨g5, 0, none⟩) ∧ ρ 9 = .int .i64 ((i : Nat) : Int) ∧ (i ≤ 1 + n % 16) ∧ St H w (netG 64 37 3 5 g5 s vbs cbs vts cts (L)) ∧ mm = 1 + n % 16 - i) _ ⟨0, hρ15, hρ16, rfl, (by omega), hs18, rfl⟩ ?_
    rintro ρ w mm ⟨i, hρ77, hρ78, hρ79, hi, hs80, rfl⟩
    refine c_seq ?_
    refine c_seq ?_
    refine c_region ?_
    refine st (v := .int .i64 ((i : Nat) : Int)) (x_move (.tmp rfl hρ79)) ?_
    refine st (v := .int .i64 (((1 + (n % 16)) : Nat) : Int)) (x_move (.tmp rfl hρ77)) ?_
    refine st (v := .bool (decide ((((i : Nat) : Int) : Int) < (((1 + (n % 16)) : Nat) : Int)))) (x_lss (k := .i64) (a := ((i : Nat) : Int)) (b := (((1 + (n % 16)) : Nat) : Int)) (.tmp rfl rfl) (.tmp rfl rfl)) ?_
    refine c_nil ?_
    refine n_then ?_
    rcases Bool.eq_false_or_eq_true (decide ((((i : Nat) : Int) : Int) < (((1 + (n % 16)) : Nat) : Int))) with hc81 | hc81
    · have hp81 : (((i : Nat) : Int) : Int) < (((1 + (n % 16)) : Nat) : Int) := of_decide_eq_true hc81
      refine c_cond_t (t := true) (.tmp rfl (congrArg Value.bool hc81)) rfl ?_
      refine c_skip ?_
      refine n_then ?_
      refine c_seq ?_
      refine c_block ?_
      refine c_seq ?_
      refine c_region ?_
      refine st (v := .pointer (some ⟨g5, 0, none⟩)) (x_move (.tmp rfl hρ78)) ?_
      refine st (v := .int .i64 ((i : Nat) : Int)) (x_move (.tmp rfl hρ79)) ?_
      have hs82 : St H _ (netG 64 37 3 5 g5 s vbs cbs vts cts (L)) := St.netUp [] hs80
      refine st_c cb14 .func (evs2 (.tmp rfl rfl) (.tmp rfl rfl)) (class_spec hs82 oks ((i : Nat) : Int) ⟨by omega, by omega⟩ htab) ?_
      rintro e w83 ⟨rfl, hs84⟩
      refine ⟨_, rfl, ?_⟩
      have hs85 : St H _ (netG 64 37 3 5 g5 s vbs cbs vts cts (L)) := St.netDown [] hs84
      refine st (v := .int .u16 (((s.cls ((i : Nat) : Int)) : Nat) : Int)) (x_assign (.tmp rfl rfl)) ?_
      refine c_nil ?_
      refine n_then ?_
      refine c_seq ?_
      refine c_region ?_
      have hcb : s.cls ((i : Nat) : Int) < 65536 := cls_lt oks.hb _
      refine st (v := .int .i64 0) (x_assign .const) ?_
      refine c_nil ?_
      refine n_then ?_
      refine c_block ?_
      refine c_loop (fun ρ w mm => ∃ (j : Nat), ρ 5 = .int .i64 (((1 + (n % 16)) : Nat) : Int) ∧ ρ 6 = .pointer (some ⟨g5, 0, none⟩) ∧ ρ 9 = .int .i64 ((i : Nat) : Int) ∧ ρ 10 = .int .u16 (((s.cls ((i : Nat) : Int)) : Nat) : Int) ∧ ρ 11 = .int .i64 ((j : Nat) : Int) ∧ (j ≤ 1 + n % 16) ∧ St H w (netG 64 37 3 5 g5 s vbs cbs vts cts (L)) ∧ mm = 1 + n % 16 - j) _ ⟨0, hρ77, hρ78, hρ79, rfl, rfl, (by omega), hs85, rfl⟩ ?_
      rintro ρ w mm ⟨j, hρ87, hρ88, hρ89, hρ90, hρ91, hj, hs92, rfl⟩
      refine c_seq ?_
      refine c_seq ?_
      refine c_region ?_
      refine st (v := .int .i64 ((j : Nat) : Int)) (x_move (.tmp rfl hρ91)) ?_
      refine st (v := .int .i64 (((1 + (n % 16)) : Nat) : Int)) (x_move (.tmp rfl hρ87)) ?_
      refine st (v := .bool (decide ((((j : Nat) : Int) : Int) < (((1 + (n % 16)) : Nat) : Int)))) (x_lss (k := .i64) (a := ((j : Nat) : Int)) (b := (((1 + (n % 16)) : Nat) : Int)) (.tmp rfl rfl) (.tmp rfl rfl)) ?_
      refine st (v := .bool (decide ((((j : Nat) : Int) : Int) < (((1 + (n % 16)) : Nat) : Int)))) (x_move (.tmp rfl rfl)) ?_
      rcases Bool.eq_false_or_eq_true (decide ((((j : Nat) : Int) : Int) < (((1 + (n % 16)) : Nat) : Int))) with hc93 | hc93
      · have hp93 : (((j : Nat) : Int) : Int) < (((1 + (n % 16)) : Nat) : Int) := of_decide_eq_true hc93
        refine g_yes (yl (dj := 62) (b := true) rfl rfl (congrArg Value.bool hc93)) ?_
        refine st (v := .int .u16 (((s.cls ((i : Nat) : Int)) : Nat) : Int)) (x_move (.tmp rfl hρ90)) ?_
        refine g_yes (yl (dj := 62) (b := true) rfl rfl (congrArg Value.bool hc93)) ?_
        refine st (v := .bool (decide (((((s.cls ((i : Nat) : Int)) : Nat) : Int) : Int) ≠ 0))) (x_neq (k := .u16) (a := (((s.cls ((i : Nat) : Int)) : Nat) : Int)) (b := 0) (.tmp rfl rfl) .const) ?_
        refine st (v := .bool (decide (((((s.cls ((i : Nat) : Int)) : Nat) : Int) : Int) ≠ 0))) (x_pick_t (.tmp rfl (congrArg Value.bool hc93)) (.tmp rfl rfl)) ?_
        refine c_nil ?_
        refine n_then ?_
        rcases Bool.eq_false_or_eq_true (decide (((((s.cls ((i : Nat) : Int)) : Nat) : Int) : Int) ≠ 0)) with hc94 | hc94
        · have hp94 : ((((s.cls ((i : Nat) : Int)) : Nat) : Int) : Int) ≠ 0 := of_decide_eq_true hc94
          refine c_cond_t (t := true) (.tmp rfl (congrArg Value.bool hc94)) rfl ?_
          refine c_skip ?_
          refine n_then ?_
          refine c_seq ?_
          refine c_block ?_
          refine c_seq ?_
          refine c_region ?_
          refine st (v := .pointer (some ⟨g5, 0, none⟩)) (x_move (.tmp rfl hρ88)) ?_
          refine st (v := .int .i64 ((i : Nat) : Int)) (x_move (.tmp rfl hρ89)) ?_
          refine st (v := .int .i64 ((j : Nat) : Int)) (x_move (.tmp rfl hρ91)) ?_
          have hs95 : St H _ (netG 64 37 3 5 g5 s vbs cbs vts cts (L)) := St.netUp [] hs92
          refine st_c cb15 .func (evs3 (.tmp rfl rfl) (.tmp rfl rfl) (.tmp rfl rfl)) (hear_spec hs95 oks ((i : Nat) : Int) ⟨by omega, by omega⟩ ((j : Nat) : Int) ⟨by omega, by omega⟩ ) ?_
          rintro e w96 ⟨rfl, hs97⟩
          refine ⟨_, rfl, ?_⟩
          have hs98 : St H _ (netG 64 37 3 5 g5 s vbs cbs vts cts (L)) := St.netDown [] hs97
          refine st (v := .int .u16 (((s.cls ((i : Nat) : Int)) : Nat) : Int)) (x_move (.tmp rfl hρ90)) ?_
          refine st (v := .int .i64 ((j : Nat) : Int)) (x_move (.tmp rfl hρ91)) ?_
          refine st_c cb16 .func (evs2 (.tmp rfl rfl) (.tmp rfl rfl)) (rhas_spec hs98 (s.cls ((i : Nat) : Int)) ((j : Nat) : Int) (by omega) (by omega)) ?_
          rintro e w99 ⟨rfl, hs100⟩
          refine ⟨_, rfl, ?_⟩
          refine st (v := .bool ((s.hears ((i : Nat) : Int) ((j : Nat) : Int)) != (has (s.cls ((i : Nat) : Int)) ((j : Nat) : Int)))) (x_neqB Tryd.underlying4 (.tmp rfl rfl) (.tmp rfl rfl)) ?_
          refine st (v := .bool ((s.hears ((i : Nat) : Int) ((j : Nat) : Int)) != (has (s.cls ((i : Nat) : Int)) ((j : Nat) : Int)))) (x_move (.tmp rfl rfl)) ?_
          have hc101 : ((s.hears ((i : Nat) : Int) ((j : Nat) : Int)) != (has (s.cls ((i : Nat) : Int)) ((j : Nat) : Int))) = false := (by rw [cls_hears (by omega)]; simp)
          refine g_yes (yl (dj := 76) (b := false) rfl rfl (congrArg Value.bool hc101)) ?_
          refine st (v := .pointer (some ⟨g5, 0, none⟩)) (x_move (.tmp rfl hρ88)) ?_
          refine g_yes (yl (dj := 76) (b := false) rfl rfl (congrArg Value.bool hc101)) ?_
          refine st (v := .int .i64 ((i : Nat) : Int)) (x_move (.tmp rfl hρ89)) ?_
          refine g_yes (yl (dj := 76) (b := false) rfl rfl (congrArg Value.bool hc101)) ?_
          refine st (v := .int .i64 ((j : Nat) : Int)) (x_move (.tmp rfl hρ91)) ?_
          refine g_yes (yl (dj := 76) (b := false) rfl rfl (congrArg Value.bool hc101)) ?_
          have hs102 : St H _ (netG 64 37 3 5 g5 s vbs cbs vts cts (L)) := St.netUp [] hs100
          refine st_c cb15 .func (evs3 (.tmp rfl rfl) (.tmp rfl rfl) (.tmp rfl rfl)) (hear_spec hs102 oks ((i : Nat) : Int) ⟨by omega, by omega⟩ ((j : Nat) : Int) ⟨by omega, by omega⟩ ) ?_
          rintro e w103 ⟨rfl, hs104⟩
          refine ⟨_, rfl, ?_⟩
          have hs105 : St H _ (netG 64 37 3 5 g5 s vbs cbs vts cts (L)) := St.netDown [] hs104
          refine g_yes (yl (dj := 76) (b := false) rfl rfl (congrArg Value.bool hc101)) ?_
          refine st (v := .bool (s.hears ((i : Nat) : Int) ((j : Nat) : Int))) (x_move (.tmp rfl rfl)) ?_
          rcases Bool.eq_false_or_eq_true (s.hears ((i : Nat) : Int) ((j : Nat) : Int)) with hc106 | hc106
          · refine g_yes (yl (dj := 81) (b := true) rfl rfl (congrArg Value.bool hc106)) ?_
            refine st (v := .pointer (some ⟨g5, 0, none⟩)) (x_move (.tmp rfl hρ88)) ?_
            refine g_yes (yl (dj := 81) (b := true) rfl rfl (congrArg Value.bool hc106)) ?_
            refine st (v := .int .i64 ((j : Nat) : Int)) (x_move (.tmp rfl hρ91)) ?_
            refine g_yes (yl (dj := 81) (b := true) rfl rfl (congrArg Value.bool hc106)) ?_
            have hs107 : St H _ (netG 64 37 3 5 g5 s vbs cbs vts cts (L)) := St.netUp [] hs105
            refine st_c cb14 .func (evs2 (.tmp rfl rfl) (.tmp rfl rfl)) (class_spec hs107 oks ((j : Nat) : Int) ⟨by omega, by omega⟩ htab) ?_
            rintro e w108 ⟨rfl, hs109⟩
            refine ⟨_, rfl, ?_⟩
            have hs110 : St H _ (netG 64 37 3 5 g5 s vbs cbs vts cts (L)) := St.netDown [] hs109
            refine g_yes (yl (dj := 81) (b := true) rfl rfl (congrArg Value.bool hc106)) ?_
            refine st (v := .int .u16 (((s.cls ((i : Nat) : Int)) : Nat) : Int)) (x_move (.tmp rfl hρ90)) ?_
            refine g_yes (yl (dj := 81) (b := true) rfl rfl (congrArg Value.bool hc106)) ?_
            refine st (v := .bool (decide (((((s.cls ((j : Nat) : Int)) : Nat) : Int) : Int) ≠ (((s.cls ((i : Nat) : Int)) : Nat) : Int)))) (x_neq (k := .u16) (a := (((s.cls ((j : Nat) : Int)) : Nat) : Int)) (b := (((s.cls ((i : Nat) : Int)) : Nat) : Int)) (.tmp rfl rfl) (.tmp rfl rfl)) ?_
            refine g_yes (yl (dj := 76) (b := false) rfl rfl (congrArg Value.bool hc101)) ?_
            refine st (v := .bool (decide (((((s.cls ((j : Nat) : Int)) : Nat) : Int) : Int) ≠ (((s.cls ((i : Nat) : Int)) : Nat) : Int)))) (x_pick_t (.tmp rfl (congrArg Value.bool hc106)) (.tmp rfl rfl)) ?_
            refine st (v := .bool (decide (((((s.cls ((j : Nat) : Int)) : Nat) : Int) : Int) ≠ (((s.cls ((i : Nat) : Int)) : Nat) : Int)))) (x_pick_f (.tmp rfl (congrArg Value.bool hc101)) (.tmp rfl rfl)) ?_
            refine c_nil ?_
            refine n_then ?_
            have hc111 : (decide (((((s.cls ((j : Nat) : Int)) : Nat) : Int) : Int) ≠ (((s.cls ((i : Nat) : Int)) : Nat) : Int))) = false := (decide_eq_false (fun h => h (congrArg (fun z : Nat => (z : Int)) (cls_same (by omega) (decide_eq_true (by omega)) hc106))))
            refine c_cond_f (t := false) (.tmp rfl (congrArg Value.bool hc111)) rfl ?_
            refine c_skip ?_
            refine n_block ?_
            refine n_then ?_
            refine c_region ?_
            refine st (v := .int .i64 ((j : Nat) : Int)) (x_move (.tmp rfl hρ91)) ?_
            refine st (v := .int .i64 (((j + 1) : Nat) : Int)) (x_add (k := .i64) (a := ((j : Nat) : Int)) (b := 1) (.tmp rfl rfl) .const ((w64 (by omega) (by omega)).trans (by omega))) ?_
            refine st (v := .int .i64 (((j + 1) : Nat) : Int)) (x_assign (.tmp rfl rfl)) ?_
            refine c_nil ?_
            refine n_then ⟨_, _, rfl, ?_, (j + 1), hρ87, hρ88, hρ89, hρ90, rfl, (by omega), hs110, rfl⟩
            omega
          · refine g_no (yl (dj := 81) (b := false) rfl rfl (congrArg Value.bool hc106)) rfl ?_
            refine g_no (yl (dj := 81) (b := false) rfl rfl (congrArg Value.bool hc106)) rfl ?_
            refine g_no (yl (dj := 81) (b := false) rfl rfl (congrArg Value.bool hc106)) rfl ?_
            refine g_no (yl (dj := 81) (b := false) rfl rfl (congrArg Value.bool hc106)) rfl ?_
            refine g_no (yl (dj := 81) (b := false) rfl rfl (congrArg Value.bool hc106)) rfl ?_
            refine g_yes (yl (dj := 76) (b := false) rfl rfl (congrArg Value.bool hc101)) ?_
            refine st (v := .bool false) (x_pick_f (.tmp rfl (congrArg Value.bool hc106)) .const) ?_
            refine st (v := .bool false) (x_pick_f (.tmp rfl (congrArg Value.bool hc101)) (.tmp rfl rfl)) ?_
            refine c_nil ?_
            refine n_then ?_
            refine c_cond_f (t := false) (.tmp rfl rfl) rfl ?_
            refine c_skip ?_
            refine n_block ?_
            refine n_then ?_
            refine c_region ?_
            refine st (v := .int .i64 ((j : Nat) : Int)) (x_move (.tmp rfl hρ91)) ?_
            refine st (v := .int .i64 (((j + 1) : Nat) : Int)) (x_add (k := .i64) (a := ((j : Nat) : Int)) (b := 1) (.tmp rfl rfl) .const ((w64 (by omega) (by omega)).trans (by omega))) ?_
            refine st (v := .int .i64 (((j + 1) : Nat) : Int)) (x_assign (.tmp rfl rfl)) ?_
            refine c_nil ?_
            refine n_then ⟨_, _, rfl, ?_, (j + 1), hρ87, hρ88, hρ89, hρ90, rfl, (by omega), hs105, rfl⟩
            omega
        · have hp94 : ¬ (((((s.cls ((i : Nat) : Int)) : Nat) : Int) : Int) ≠ 0) := of_decide_eq_false hc94
          refine c_cond_f (t := false) (.tmp rfl (congrArg Value.bool hc94)) rfl ?_
          refine c_exit ?_
          refine x_then ?_
          refine x_then ?_
          refine x_here ?_
          refine n_block ?_
          refine n_then ?_
          refine c_region ?_
          refine st (v := .int .i64 ((i : Nat) : Int)) (x_move (.tmp rfl hρ89)) ?_
          refine st (v := .int .i64 (((i + 1) : Nat) : Int)) (x_add (k := .i64) (a := ((i : Nat) : Int)) (b := 1) (.tmp rfl rfl) .const ((w64 (by omega) (by omega)).trans (by omega))) ?_
          refine st (v := .int .i64 (((i + 1) : Nat) : Int)) (x_assign (.tmp rfl rfl)) ?_
          refine c_nil ?_
          refine n_then ⟨_, _, rfl, ?_, (i + 1), hρ87, hρ88, rfl, (by omega), hs92, rfl⟩
          omega
      · have hp93 : ¬ ((((j : Nat) : Int) : Int) < (((1 + (n % 16)) : Nat) : Int)) := of_decide_eq_false hc93
        refine g_no (yl (dj := 62) (b := false) rfl rfl (congrArg Value.bool hc93)) rfl ?_
        refine g_no (yl (dj := 62) (b := false) rfl rfl (congrArg Value.bool hc93)) rfl ?_
        refine st (v := .bool false) (x_pick_f (.tmp rfl (congrArg Value.bool hc93)) .const) ?_
        refine c_nil ?_
        refine n_then ?_
        refine c_cond_f (t := false) (.tmp rfl rfl) rfl ?_
        refine c_exit ?_
        refine x_then ?_
        refine x_then ?_
        refine x_here ?_
        refine n_block ?_
        refine n_then ?_
        refine c_region ?_
        refine st (v := .int .i64 ((i : Nat) : Int)) (x_move (.tmp rfl hρ89)) ?_
        refine st (v := .int .i64 (((i + 1) : Nat) : Int)) (x_add (k := .i64) (a := ((i : Nat) : Int)) (b := 1) (.tmp rfl rfl) .const ((w64 (by omega) (by omega)).trans (by omega))) ?_
        refine st (v := .int .i64 (((i + 1) : Nat) : Int)) (x_assign (.tmp rfl rfl)) ?_
        refine c_nil ?_
        refine n_then ⟨_, _, rfl, ?_, (i + 1), hρ87, hρ88, rfl, (by omega), hs92, rfl⟩
        omega
    · have hp81 : ¬ ((((i : Nat) : Int) : Int) < (((1 + (n % 16)) : Nat) : Int)) := of_decide_eq_false hc81
      refine c_cond_f (t := false) (.tmp rfl (congrArg Value.bool hc81)) rfl ?_
      refine c_exit ?_
      refine x_then ?_
      refine x_then ?_
      refine x_here ?_
      refine n_then ?_
      refine c_seq ?_
      refine c_region ?_
      refine st (v := .bool true) (x_assign .const) ?_
      refine c_nil ?_
      refine n_then ?_
      refine c_ret ?_
      refine leave_ret (res_one (v := .bool true) rfl (.mk rfl rfl)) ?_
      exact ⟨rfl, hs80.netDrop⟩

end Go.Proofs.YtojlmilkdijiaaaDoor
