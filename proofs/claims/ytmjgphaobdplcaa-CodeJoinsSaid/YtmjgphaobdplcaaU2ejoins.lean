/- Steps of the proofs over the functions of this seat, printed by a program (gen.py) and checked by Lean. -/
import Derived.Test.YtmjgphaobdplcaaTy
import Derived.Test.YtmjgphaobdplcaaFmM2
import Derived.Test.YtmjgphaobdplcaaFmS2
import Derived.Test.YtmjgphaobdplcaaFmG
import Derived.Test.YtmjgphaobdplcaaFmP
import Derived.Test.YtmjgphaobdplcaaFmM2c
import Derived.Test.YtmjgphaobdplcaaU2e
import Derived.Test.YtmjgphaobdplcaaFmU
set_option linter.unusedVariables false
set_option linter.unusedSimpArgs false
namespace Go.Proofs.Ytmjgphaobdplcaa
open Go Go.FM Go.Proofs
attribute [local irreducible] wpList wpQuiet wpS Code.wp Calls
set_option maxHeartbeats 8000000 in
theorem codeJoins_spec {H : Hp} {w : World} {L : List Res} (hs : St H w L) {A : Option Addr} {n c : Nat} {ls : List Nat} (hp : Us H A n c ls) (cut : Nat) (b_cut : cut < 256) : Calls Try.prog 5 #[.slice A n c, .int .u8 ((cut : Nat) : Int)] w (fun e w' => e = .returned (.bool true) ∧ St H w' L) := by
  refine enter (args := [.slice A n c, .int .u8 ((cut : Nat) : Int)]) (N := 108) Try.func5 rfl rfl rfl ?_
  have hle := hp.le
  have hlen := hp.len
  have hmx : c ≤ 9223372036854775807 := hp.max
  refine c_seq ?_
  refine c_region ?_
  refine st (v := .bool false) (x_assign .const) ?_
  refine c_nil ?_
  refine n_then ?_
  refine c_seq ?_
  refine c_seq ?_
  refine c_region ?_
  refine st_c cb9 .func (evs0 ) (awake_spec hs) ?_
  rintro e w1 ⟨rfl, hs2⟩
  refine ⟨_, rfl, ?_⟩
  refine st (v := .bool false) (x_not (b := true) (.tmp rfl rfl)) ?_
  refine st (v := .bool false) (x_move (.tmp rfl rfl)) ?_
  refine g_yes (yl (dj := 15) (b := false) rfl rfl rfl) ?_
  refine st (v := .slice A n c) (x_move (.tmp rfl rfl)) ?_
  refine g_yes (yl (dj := 15) (b := false) rfl rfl rfl) ?_
  refine st (v := .int .i64 ((n : Nat) : Int)) (x_len (n := n) Try.underlying35 (.tmp rfl rfl)) ?_
  refine g_yes (yl (dj := 15) (b := false) rfl rfl rfl) ?_
  refine st (v := .bool (decide ((60 : Int) < ((n : Nat) : Int)))) (x_gtr (k := .i64) (a := ((n : Nat) : Int)) (b := 60) (.tmp rfl rfl) .const) ?_
  refine st (v := .bool (decide ((60 : Int) < ((n : Nat) : Int)))) (x_pick_f (.tmp rfl rfl) (.tmp rfl rfl)) ?_
  refine c_nil ?_
  refine n_then ?_
  rcases Bool.eq_false_or_eq_true (decide ((60 : Int) < ((n : Nat) : Int))) with hc3 | hc3
  · have hp3 : (60 : Int) < ((n : Nat) : Int) := of_decide_eq_true hc3
    refine c_cond_t (t := true) (.tmp rfl (congrArg Value.bool hc3)) rfl ?_
    refine c_seq ?_
    refine c_region ?_
    refine st_c cb9 .func (evs0 ) (awake_spec hs2) ?_
    rintro e w4 ⟨rfl, hs5⟩
    refine ⟨_, rfl, ?_⟩
    refine st (v := .bool true) (x_assign (.tmp rfl rfl)) ?_
    refine c_nil ?_
    refine n_then ?_
    refine c_ret ?_
    refine r_then ?_
    refine leave_ret (res_one (v := .bool true) rfl (.mk rfl rfl)) ?_
    exact ⟨rfl, hs5⟩
  · have hp3 : ¬ ((60 : Int) < ((n : Nat) : Int)) := of_decide_eq_false hc3
    refine c_cond_f (t := false) (.tmp rfl (congrArg Value.bool hc3)) rfl ?_
    refine c_skip ?_
    refine n_then ?_
    refine c_seq ?_
    refine c_region ?_
    refine st (v := .slice none 0 0) (x_assign .const) ?_
    refine c_nil ?_
    refine n_then ?_
    refine c_seq ?_
    refine c_seq ?_
    refine c_region ?_
    refine st (v := .int .i64 0) (x_assign .const) ?_
    refine c_nil ?_
    refine n_then ?_
    refine c_block ?_
    have hs0 := hs2.rowNil 5 1
    refine c_loop (fun ρ w mm => ∃ (i : Nat) (v : Value), ρ 0 = .slice A n c ∧ ρ 1 = .int .u8 ((cut : Nat) : Int) ∧ ρ 5 = v ∧ ρ 6 = .int .i64 ((i : Nat) : Int) ∧ (i ≤ n) ∧ (RowOk 1 v (encs (ls.take i)).length ((encs (ls.take i)).map encB)) ∧ St H w (row 5 1 v ((encs (ls.take i)).length) ((encs (ls.take i)).map encB) :: L) ∧ mm = n - i) _ ⟨0, (.slice none 0 0), rfl, rfl, rfl, rfl, (by omega), (RowOk.nil 1), hs0, rfl⟩ ?_
    rintro ρ w mm ⟨i, v, hρ7, hρ8, hρ9, hρ10, hi, ok, hs11, rfl⟩
    refine c_seq ?_
    refine c_seq ?_
    refine c_region ?_
    refine st (v := .int .i64 ((i : Nat) : Int)) (x_move (.tmp rfl hρ10)) ?_
    refine st (v := .slice A n c) (x_move (.tmp rfl hρ7)) ?_
    refine st (v := .int .i64 ((n : Nat) : Int)) (x_len (n := n) Try.underlying35 (.tmp rfl rfl)) ?_
    refine st (v := .bool (decide ((((i : Nat) : Int) : Int) < ((n : Nat) : Int)))) (x_lss (k := .i64) (a := ((i : Nat) : Int)) (b := ((n : Nat) : Int)) (.tmp rfl rfl) (.tmp rfl rfl)) ?_
    refine c_nil ?_
    refine n_then ?_
    rcases Bool.eq_false_or_eq_true (decide ((((i : Nat) : Int) : Int) < ((n : Nat) : Int))) with hc12 | hc12
    · have hp12 : (((i : Nat) : Int) : Int) < ((n : Nat) : Int) := of_decide_eq_true hc12
      refine c_cond_t (t := true) (.tmp rfl (congrArg Value.bool hc12)) rfl ?_
      refine c_skip ?_
      refine n_then ?_
      refine c_seq ?_
      refine c_block ?_
      refine c_region ?_
      refine st (v := v) (x_move (.tmp rfl hρ9)) ?_
      refine st (v := .slice A n c) (x_move (.tmp rfl hρ7)) ?_
      refine st (v := .int .i64 ((i : Nat) : Int)) (x_move (.tmp rfl hρ10)) ?_
      obtain ⟨b13, o14, hA15, hc16⟩ := hp.get (i := i) (by omega)
      refine st (v := .pointer (some ⟨b13, (o14 + i * 1), none⟩)) (ixo35 (.tmp rfl rfl) hA15 (i := ((i : Nat) : Int)) (.tmp rfl rfl) (by omega) (by omega) rfl) ?_
      refine st (v := .int .u64 ((ls.getD i 0 : Nat) : Int)) (ld37 (.tmp rfl rfl) (hc16 hs11)) ?_
      have hel := encs_len hp.lt i
      refine st_c cb16 .func (evs2 (.tmp rfl rfl) (.tmp rfl rfl)) (uint_spec hs11 ok (encs_small _) (ls.getD i 0) (by omega) (hp.lt.getD _)) ?_
      rintro e w18 ⟨v17, rfl, ok19, hs20⟩
      refine ⟨_, rfl, ?_⟩
      refine st (v := v17) (x_assign (.tmp rfl rfl)) ?_
      refine c_nil ?_
      refine n_block ?_
      refine n_then ?_
      refine c_region ?_
      refine st (v := .int .i64 ((i : Nat) : Int)) (x_move (.tmp rfl hρ10)) ?_
      refine st (v := .int .i64 (((i + 1) : Nat) : Int)) (x_add (k := .i64) (a := ((i : Nat) : Int)) (b := 1) (.tmp rfl rfl) .const ((w64 (by omega) (by omega)).trans (by omega))) ?_
      refine st (v := .int .i64 (((i + 1) : Nat) : Int)) (x_assign (.tmp rfl rfl)) ?_
      refine c_nil ?_
      have he := encs_take (l := ls) (i := i) (by omega)
      have he2 : (encs (ls.take (i + 1))).length = (encs (ls.take i)).length + (uenc (ls.getD i 0)).length := by rw [he, List.length_append]
      refine n_then ⟨_, _, rfl, ?_, (i + 1), v17, hρ7, hρ8, rfl, rfl, (by omega), (by rw [he2, he]; exact ok19), (by rw [he2, he]; exact hs20), rfl⟩
      omega
    · have hp12 : ¬ ((((i : Nat) : Int) : Int) < ((n : Nat) : Int)) := of_decide_eq_false hc12
      refine c_cond_f (t := false) (.tmp rfl (congrArg Value.bool hc12)) rfl ?_
      refine c_exit ?_
      refine x_then ?_
      refine x_then ?_
      refine x_here ?_
      refine n_then ?_
      refine c_seq ?_
      refine c_region ?_
      have hin : i = ls.length := by omega
      have hel := encs_len hp.lt i
      subst hin
      rw [List.take_length] at hel ok hs11
      obtain ⟨H21, A22, c23, hle24, hs25, rfl, hp26⟩ := hs11.freezeBs ok (encs_small _) (by omega)
      refine st (v := .slice A22 ((encs ls).length) c23) (x_move (.tmp rfl hρ9)) ?_
      refine st_c cb17 .func (evs1 (.tmp rfl rfl)) (newReader_spec hs25) ?_
      rintro e w28 ⟨g27, rfl, hs29⟩
      refine ⟨_, rfl, ?_⟩
      refine st (v := .pointer (some ⟨g27, 0, none⟩)) (x_assign (.tmp rfl rfl)) ?_
      refine c_nil ?_
      refine n_then ?_
      refine c_seq ?_
      refine c_seq ?_
      refine c_region ?_
      refine st (v := .int .i64 0) (x_assign .const) ?_
      refine c_nil ?_
      refine n_then ?_
      refine c_block ?_
      refine c_loop (fun ρ w mm => ∃ (j : Nat) (A2 : Option Addr) (n2 : Nat) (c2 : Nat), ρ 0 = .slice A n c ∧ ρ 1 = .int .u8 ((cut : Nat) : Int) ∧ ρ 5 = .slice A22 ((encs ls).length) c23 ∧ ρ 7 = .pointer (some ⟨g27, 0, none⟩) ∧ ρ 8 = .int .i64 ((j : Nat) : Int) ∧ (j ≤ ls.length) ∧ (Bs H21 A2 n2 c2 (encs (ls.drop j))) ∧ St H21 w (obj g27 58 [.slice A2 n2 c2, .bool false] :: L) ∧ mm = ls.length - j) _ ⟨0, A22, ((encs ls).length), c23, hρ7, hρ8, hρ9, rfl, rfl, (by omega), hp26, hs29, rfl⟩ ?_
      rintro ρ w mm ⟨j, A2, n2, c2, hρ31, hρ32, hρ33, hρ34, hρ35, hj1, hpr, hs36, rfl⟩
      refine c_seq ?_
      refine c_seq ?_
      refine c_region ?_
      refine st (v := .int .i64 ((j : Nat) : Int)) (x_move (.tmp rfl hρ35)) ?_
      refine st (v := .slice A n c) (x_move (.tmp rfl hρ31)) ?_
      refine st (v := .int .i64 ((n : Nat) : Int)) (x_len (n := n) Try.underlying35 (.tmp rfl rfl)) ?_
      refine st (v := .bool (decide ((((j : Nat) : Int) : Int) < ((n : Nat) : Int)))) (x_lss (k := .i64) (a := ((j : Nat) : Int)) (b := ((n : Nat) : Int)) (.tmp rfl rfl) (.tmp rfl rfl)) ?_
      refine c_nil ?_
      refine n_then ?_
      rcases Bool.eq_false_or_eq_true (decide ((((j : Nat) : Int) : Int) < ((n : Nat) : Int))) with hc37 | hc37
      · have hp37 : (((j : Nat) : Int) : Int) < ((n : Nat) : Int) := of_decide_eq_true hc37
        refine c_cond_t (t := true) (.tmp rfl (congrArg Value.bool hc37)) rfl ?_
        refine c_skip ?_
        refine n_then ?_
        refine c_seq ?_
        refine c_block ?_
        refine c_seq ?_
        refine s_region (L := obj g27 58 [.slice A2 n2 c2, .bool false] :: L) (L' := L) none [(0, true), (2, true), (3, true), (4, true), (5, true), (1, false), (6, true), (7, true), (8, true), (9, false), (10, true)] mixed hs36 (fun u hu => hu.drop) (by kernel_rfl) ?_
        intro w38 hs39
        refine s_st (k := 0) (v := .pointer (some ⟨g27, 0, none⟩)) rfl (fun w hs => (x_move (.tmp rfl hρ34))) ?_
        refine s_st (k := 2) (v := .slice A n c) rfl (fun w hs => (x_move (.tmp rfl hρ31))) ?_
        refine s_st (k := 3) (v := .int .i64 ((j : Nat) : Int)) rfl (fun w hs => (x_move (.tmp rfl hρ35))) ?_
        obtain ⟨b40, o41, hA42, hc43⟩ := (hp.mono hle24).get (i := j) (by omega)
        refine s_st (k := 4) (v := .pointer (some ⟨b40, (o41 + j * 1), none⟩)) rfl (fun w hs => (ixo35 (.tmp rfl rfl) hA42 (i := ((j : Nat) : Int)) (.tmp rfl rfl) (by omega) (by omega) rfl)) ?_
        refine s_st (k := 5) (v := .int .u64 ((ls.getD j 0 : Nat) : Int)) rfl (fun w hs => (ld37 (.tmp rfl rfl) (hc43 hs))) ?_
        refine s_eff (k := 1) rfl ?_
        refine st_c cb18 .func (evs1 (.tmp rfl rfl)) (uint_own hpr false hs39) ?_
        rintro e w47 ⟨A44, n45, c46, rfl, hp48, hs49⟩
        refine ⟨_, rfl, ?_⟩
        refine s_on (S' := fun u => St H21 u (L)) (fun u hu => hu) hs49.drop ?_
        refine s_st (k := 6) (v := .bool (decide (((((rdU (encs (ls.drop j)) false).1 : Nat) : Int) : Int) ≠ ((ls.getD j 0 : Nat) : Int)))) rfl (fun w hs => (x_neq (k := .u64) (a := (((rdU (encs (ls.drop j)) false).1 : Nat) : Int)) (b := ((ls.getD j 0 : Nat) : Int)) (.tmp rfl rfl) (.tmp rfl rfl))) ?_
        refine s_st (k := 7) (v := .bool (decide (((((rdU (encs (ls.drop j)) false).1 : Nat) : Int) : Int) ≠ ((ls.getD j 0 : Nat) : Int)))) rfl (fun w hs => (x_move (.tmp rfl rfl))) ?_
        have hc50 : (decide (((((rdU (encs (ls.drop j)) false).1 : Nat) : Int) : Int) ≠ ((ls.getD j 0 : Nat) : Int))) = false := (decide_eq_false (by rw [joins_step hp.lt (by omega)]; simp))
        refine s_yes (k := 8) (v := .pointer (some ⟨g27, 0, none⟩)) rfl (yl (dj := 48) (b := false) rfl rfl (congrArg Value.bool hc50)) (fun w hs => (x_move (.tmp rfl hρ34))) ?_
        refine s_eff (k := 9) rfl ?_
        refine g_yes (yl (dj := 48) (b := false) rfl rfl (congrArg Value.bool hc50)) ?_
        refine st_c cb19 .func (evs1 (.tmp rfl rfl)) (bad_own hs49) ?_
        rintro e w51 ⟨rfl, hs52⟩
        refine ⟨_, rfl, ?_⟩
        refine s_on (S' := fun u => St H21 u (L)) (fun u hu => hu) hs52.drop ?_
        refine s_st (k := 10) (v := .bool ((rdU (encs (ls.drop j)) false).2.2)) rfl (fun w hs => (x_pick_f (.tmp rfl (congrArg Value.bool hc50)) (.tmp rfl rfl))) ?_
        refine s_nil ?_
        refine n_then ?_
        have hc53 : ((rdU (encs (ls.drop j)) false).2.2) = false := (by rw [joins_step hp.lt (by omega)])
        refine c_cond_f (t := false) (.tmp rfl (congrArg Value.bool hc53)) rfl ?_
        refine c_skip ?_
        refine n_block ?_
        refine n_then ?_
        refine c_region ?_
        refine st (v := .int .i64 ((j : Nat) : Int)) (x_move (.tmp rfl hρ35)) ?_
        refine st (v := .int .i64 (((j + 1) : Nat) : Int)) (x_add (k := .i64) (a := ((j : Nat) : Int)) (b := 1) (.tmp rfl rfl) .const ((w64 (by omega) (by omega)).trans (by omega))) ?_
        refine st (v := .int .i64 (((j + 1) : Nat) : Int)) (x_assign (.tmp rfl rfl)) ?_
        refine c_nil ?_
        have hj := joins_step hp.lt (i := j) (by omega)
        refine n_then ⟨_, _, rfl, ?_, (j + 1), A44, n45, c46, hρ31, hρ32, hρ33, hρ34, rfl, (by omega), (by have h := hp48; rw [hj] at h; exact h), (by have h := hs52; rw [hj] at h; exact h), rfl⟩
        omega
      · have hp37 : ¬ ((((j : Nat) : Int) : Int) < ((n : Nat) : Int)) := of_decide_eq_false hc37
        refine c_cond_f (t := false) (.tmp rfl (congrArg Value.bool hc37)) rfl ?_
        refine c_exit ?_
        refine x_then ?_
        refine x_then ?_
        refine x_here ?_
        refine n_then ?_
        refine c_seq ?_
        refine c_seq ?_
        refine c_region ?_
        refine st (v := .pointer (some ⟨g27, 0, none⟩)) (x_move (.tmp rfl hρ34)) ?_
        refine st_c cb20 .func (evs1 (.tmp rfl rfl)) (left_own (b := false) hs36) ?_
        rintro e w54 ⟨rfl, hs55⟩
        refine ⟨_, rfl, ?_⟩
        refine st (v := .bool (decide (((if false = true then 0 else ((n2 : Nat) : Int)) : Int) ≠ 0))) (x_neq (k := .i64) (a := (if false = true then 0 else ((n2 : Nat) : Int))) (b := 0) (.tmp rfl rfl) .const) ?_
        refine st (v := .bool (decide (((if false = true then 0 else ((n2 : Nat) : Int)) : Int) ≠ 0))) (x_move (.tmp rfl rfl)) ?_
        have hc56 : (decide (((if false = true then 0 else ((n2 : Nat) : Int)) : Int) ≠ 0)) = false := (decide_eq_false (by have h := hpr.len; rw [encs_end (by omega)] at h; simp at h; simp [← h]))
        refine g_yes (yl (dj := 55) (b := false) rfl rfl (congrArg Value.bool hc56)) ?_
        refine st (v := .pointer (some ⟨g27, 0, none⟩)) (x_move (.tmp rfl hρ34)) ?_
        refine g_yes (yl (dj := 55) (b := false) rfl rfl (congrArg Value.bool hc56)) ?_
        refine st_c cb18 .func (evs1 (.tmp rfl rfl)) (uint_own hpr false hs55) ?_
        rintro e w60 ⟨A57, n58, c59, rfl, hp61, hs62⟩
        refine ⟨_, rfl, ?_⟩
        refine g_yes (yl (dj := 55) (b := false) rfl rfl (congrArg Value.bool hc56)) ?_
        refine st (v := .bool (decide (((((rdU (encs (ls.drop j)) false).1 : Nat) : Int) : Int) ≠ 0))) (x_neq (k := .u64) (a := (((rdU (encs (ls.drop j)) false).1 : Nat) : Int)) (b := 0) (.tmp rfl rfl) .const) ?_
        refine st (v := .bool (decide (((((rdU (encs (ls.drop j)) false).1 : Nat) : Int) : Int) ≠ 0))) (x_pick_f (.tmp rfl (congrArg Value.bool hc56)) (.tmp rfl rfl)) ?_
        refine st (v := .bool (decide (((((rdU (encs (ls.drop j)) false).1 : Nat) : Int) : Int) ≠ 0))) (x_move (.tmp rfl rfl)) ?_
        have hc63 : (decide (((((rdU (encs (ls.drop j)) false).1 : Nat) : Int) : Int) ≠ 0)) = false := (decide_eq_false (by rw [joins_end (by omega)]; simp))
        refine g_yes (yl (dj := 60) (b := false) rfl rfl (congrArg Value.bool hc63)) ?_
        refine st (v := .pointer (some ⟨g27, 0, none⟩)) (x_move (.tmp rfl hρ34)) ?_
        refine g_yes (yl (dj := 60) (b := false) rfl rfl (congrArg Value.bool hc63)) ?_
        refine st_c cb19 .func (evs1 (.tmp rfl rfl)) (bad_own hs62) ?_
        rintro e w65 ⟨rfl, hs66⟩
        refine ⟨_, rfl, ?_⟩
        refine g_yes (yl (dj := 60) (b := false) rfl rfl (congrArg Value.bool hc63)) ?_
        refine st (v := .bool (!((rdU (encs (ls.drop j)) false).2.2))) (x_not (.tmp rfl rfl)) ?_
        refine st (v := .bool (!((rdU (encs (ls.drop j)) false).2.2))) (x_pick_f (.tmp rfl (congrArg Value.bool hc63)) (.tmp rfl rfl)) ?_
        refine c_nil ?_
        refine n_then ?_
        have hc67 : ((rdU (encs (ls.drop j)) false).2.2) = true := (by rw [joins_end (by omega)])
        refine c_cond_f (t := false) (.tmp rfl (congrArg Value.bool (by rw [hc67]; rfl))) rfl ?_
        refine c_skip ?_
        refine n_then ?_
        refine c_seq ?_
        refine c_seq ?_
        refine c_region ?_
        refine st (v := .slice A22 ((encs ls).length) c23) (x_move (.tmp rfl hρ33)) ?_
        refine st (v := .int .i64 ((((encs ls).length) : Nat) : Int)) (x_len (n := ((encs ls).length)) Try.underlying22 (.tmp rfl rfl)) ?_
        refine st (v := .bool (decide ((((((encs ls).length) : Nat) : Int) : Int) = 0))) (x_eql (k := .i64) (a := ((((encs ls).length) : Nat) : Int)) (b := 0) (.tmp rfl rfl) .const) ?_
        refine c_nil ?_
        refine n_then ?_
        rcases Bool.eq_false_or_eq_true (decide ((((((encs ls).length) : Nat) : Int) : Int) = 0)) with hc68 | hc68
        · have hp68 : (((((encs ls).length) : Nat) : Int) : Int) = 0 := of_decide_eq_true hc68
          refine c_cond_t (t := true) (.tmp rfl (congrArg Value.bool hc68)) rfl ?_
          refine c_seq ?_
          refine c_region ?_
          refine st (v := .bool true) (x_assign .const) ?_
          refine c_nil ?_
          refine n_then ?_
          refine c_ret ?_
          refine r_then ?_
          refine leave_ret (res_one (v := .bool true) rfl (.mk rfl rfl)) ?_
          exact ⟨rfl, (hs66.drop.weaken hle24)⟩
        · have hp68 : ¬ ((((((encs ls).length) : Nat) : Int) : Int) = 0) := of_decide_eq_false hc68
          refine c_cond_f (t := false) (.tmp rfl (congrArg Value.bool hc68)) rfl ?_
          refine c_skip ?_
          refine n_then ?_
          refine c_seq ?_
          refine c_region ?_
          refine st (v := .slice A22 ((encs ls).length) c23) (x_move (.tmp rfl hρ33)) ?_
          refine st (v := .int .u8 ((cut : Nat) : Int)) (x_move (.tmp rfl hρ32)) ?_
          refine st (v := .int .i64 ((cut : Nat) : Int)) (x_conv (k := .u8) (a := ((cut : Nat) : Int)) Try.underlying5 Try.underlying3 (.tmp rfl rfl) (w64 (by omega) (by omega))) ?_
          refine st (v := .slice A22 ((encs ls).length) c23) (x_move (.tmp rfl hρ33)) ?_
          refine st (v := .int .i64 ((((encs ls).length) : Nat) : Int)) (x_len (n := ((encs ls).length)) Try.underlying22 (.tmp rfl rfl)) ?_
          have hmod := Nat.mod_lt cut (show 0 < (encs ls).length by omega)
          refine st (v := .int .i64 (((cut % ((encs ls).length)) : Nat) : Int)) (x_remN (k := .i64) (m := cut) (n := ((encs ls).length)) (.tmp rfl rfl) (.tmp rfl rfl) (by omega)) ?_
          have := hp26.le
          refine st (v := .slice A22 (cut % ((encs ls).length)) c23) (bs_h Try.underlying22 inf5 (a := (((cut % ((encs ls).length)) : Nat) : Int)) (.tmp rfl rfl) (.tmp rfl rfl) (by omega) (by omega)) ?_
          refine st_c cb17 .func (evs1 (.tmp rfl rfl)) (newReader_spec hs66) ?_
          rintro e w70 ⟨g69, rfl, hs71⟩
          refine ⟨_, rfl, ?_⟩
          refine st (v := .pointer (some ⟨g69, 0, none⟩)) (x_assign (.tmp rfl rfl)) ?_
          refine c_nil ?_
          refine n_then ?_
          refine c_seq ?_
          refine c_region ?_
          refine st (v := .int .i64 0) (x_assign .const) ?_
          refine c_nil ?_
          refine n_then ?_
          refine c_seq ?_
          refine c_seq ?_
          refine c_region ?_
          refine st (v := .int .i64 0) (x_assign .const) ?_
          refine c_nil ?_
          refine n_then ?_
          refine c_block ?_
          refine c_loop (fun ρ w mm => ∃ (q : Nat) (nn : Nat) (A3 : Option Addr) (n3 : Nat) (c3 : Nat) (b3 : List Nat) (bad : Bool), ρ 0 = .slice A n c ∧ ρ 9 = .pointer (some ⟨g69, 0, none⟩) ∧ ρ 10 = .int .i64 ((nn : Nat) : Int) ∧ ρ 11 = .int .i64 ((q : Nat) : Int) ∧ (q ≤ ls.length) ∧ (bad = false → nn = q ∧ Cut ls b3 q) ∧ (bad = true → nn < ls.length) ∧ (Bs H21 A3 n3 c3 b3) ∧ St H21 w (obj g69 58 [.slice A3 n3 c3, .bool bad] :: L) ∧ mm = ls.length - q) _ ⟨0, 0, A22, (cut % ((encs ls).length)), c23, ((encs ls).take (cut % ((encs ls).length))), false, hρ31, rfl, rfl, rfl, (by omega), (fun _ => ⟨rfl, cut_start hmod⟩), (fun h => by cases h), (hp26.take (k := (cut % ((encs ls).length))) (by omega)), (hs71.pick 1 rfl rfl).drop, rfl⟩ ?_
          rintro ρ w mm ⟨q, nn, A3, n3, c3, b3, bad, hρ73, hρ74, hρ75, hρ76, hq, hcut, hbad, hp3, hs77, rfl⟩
          refine c_seq ?_
          refine c_seq ?_
          refine c_region ?_
          refine st (v := .int .i64 ((q : Nat) : Int)) (x_move (.tmp rfl hρ76)) ?_
          refine st (v := .slice A n c) (x_move (.tmp rfl hρ73)) ?_
          refine st (v := .int .i64 ((n : Nat) : Int)) (x_len (n := n) Try.underlying35 (.tmp rfl rfl)) ?_
          refine st (v := .bool (decide ((((q : Nat) : Int) : Int) < ((n : Nat) : Int)))) (x_lss (k := .i64) (a := ((q : Nat) : Int)) (b := ((n : Nat) : Int)) (.tmp rfl rfl) (.tmp rfl rfl)) ?_
          refine st (v := .bool (decide ((((q : Nat) : Int) : Int) < ((n : Nat) : Int)))) (x_move (.tmp rfl rfl)) ?_
          rcases Bool.eq_false_or_eq_true (decide ((((q : Nat) : Int) : Int) < ((n : Nat) : Int))) with hc78 | hc78
          · have hp78 : (((q : Nat) : Int) : Int) < ((n : Nat) : Int) := of_decide_eq_true hc78
            refine g_yes (yl (dj := 80) (b := true) rfl rfl (congrArg Value.bool hc78)) ?_
            refine st (v := .pointer (some ⟨g69, 0, none⟩)) (x_move (.tmp rfl hρ74)) ?_
            refine g_yes (yl (dj := 80) (b := true) rfl rfl (congrArg Value.bool hc78)) ?_
            refine st_c cb19 .func (evs1 (.tmp rfl rfl)) (bad_own hs77) ?_
            rintro e w79 ⟨rfl, hs80⟩
            refine ⟨_, rfl, ?_⟩
            refine g_yes (yl (dj := 80) (b := true) rfl rfl (congrArg Value.bool hc78)) ?_
            refine st (v := .bool (!bad)) (x_not (.tmp rfl rfl)) ?_
            refine st (v := .bool (!bad)) (x_pick_t (.tmp rfl (congrArg Value.bool hc78)) (.tmp rfl rfl)) ?_
            refine c_nil ?_
            refine n_then ?_
            rcases Bool.eq_false_or_eq_true bad with hc81 | hc81
            · refine c_cond_f (t := false) (.tmp rfl (congrArg Value.bool (by rw [hc81]; rfl))) rfl ?_
              refine c_exit ?_
              refine x_then ?_
              refine x_then ?_
              refine x_here ?_
              refine n_then ?_
              refine c_seq ?_
              refine c_region ?_
              refine st (v := .pointer (some ⟨g69, 0, none⟩)) (x_move (.tmp rfl hρ74)) ?_
              refine st_c cb19 .func (evs1 (.tmp rfl rfl)) (bad_own hs80) ?_
              rintro e w82 ⟨rfl, hs83⟩
              refine ⟨_, rfl, ?_⟩
              refine st (v := .bool true) (x_move (.tmp rfl (congrArg Value.bool hc81))) ?_
              refine g_yes (yl (dj := 102) (b := true) rfl rfl rfl) ?_
              refine st (v := .int .i64 ((nn : Nat) : Int)) (x_move (.tmp rfl hρ75)) ?_
              refine g_yes (yl (dj := 102) (b := true) rfl rfl rfl) ?_
              refine st (v := .slice A n c) (x_move (.tmp rfl hρ73)) ?_
              refine g_yes (yl (dj := 102) (b := true) rfl rfl rfl) ?_
              refine st (v := .int .i64 ((n : Nat) : Int)) (x_len (n := n) Try.underlying35 (.tmp rfl rfl)) ?_
              refine g_yes (yl (dj := 102) (b := true) rfl rfl rfl) ?_
              refine st (v := .bool (decide ((((nn : Nat) : Int) : Int) < ((n : Nat) : Int)))) (x_lss (k := .i64) (a := ((nn : Nat) : Int)) (b := ((n : Nat) : Int)) (.tmp rfl rfl) (.tmp rfl rfl)) ?_
              refine st (v := .bool (decide ((((nn : Nat) : Int) : Int) < ((n : Nat) : Int)))) (x_pick_t (.tmp rfl rfl) (.tmp rfl rfl)) ?_
              refine st (v := .bool (decide ((((nn : Nat) : Int) : Int) < ((n : Nat) : Int)))) (x_assign (.tmp rfl rfl)) ?_
              refine c_nil ?_
              refine n_then ?_
              refine c_ret ?_
              refine leave_ret (res_one (v := .bool (decide ((((nn : Nat) : Int) : Int) < ((n : Nat) : Int)))) rfl (.mk rfl rfl)) ?_
              exact ⟨(congrArg (fun b => Ending.returned (Value.bool b)) (decide_eq_true (by have := hbad hc81; omega))), (hs83.drop.weaken hle24)⟩
            · refine c_cond_t (t := true) (.tmp rfl (congrArg Value.bool (by rw [hc81]; rfl))) rfl ?_
              refine c_skip ?_
              refine n_then ?_
              refine c_seq ?_
              refine c_block ?_
              refine c_seq ?_
              refine c_region ?_
              refine st (v := .pointer (some ⟨g69, 0, none⟩)) (x_move (.tmp rfl hρ74)) ?_
              refine st_c cb18 .func (evs1 (.tmp rfl rfl)) (uint_own hp3 bad hs80) ?_
              rintro e w87 ⟨A84, n85, c86, rfl, hp88, hs89⟩
              refine ⟨_, rfl, ?_⟩
              refine st (v := .int .u64 (((rdU b3 bad).1 : Nat) : Int)) (x_assign (.tmp rfl rfl)) ?_
              refine c_nil ?_
              refine n_then ?_
              refine c_seq ?_
              refine c_region ?_
              refine st (v := .pointer (some ⟨g69, 0, none⟩)) (x_move (.tmp rfl hρ74)) ?_
              refine st_c cb19 .func (evs1 (.tmp rfl rfl)) (bad_own hs89) ?_
              rintro e w90 ⟨rfl, hs91⟩
              refine ⟨_, rfl, ?_⟩
              refine st (v := .bool (!((rdU b3 bad).2.2))) (x_not (.tmp rfl rfl)) ?_
              refine c_nil ?_
              refine n_then ?_
              rcases Bool.eq_false_or_eq_true ((rdU b3 bad).2.2) with hc92 | hc92
              · refine c_cond_f (t := false) (.tmp rfl (congrArg Value.bool (by rw [hc92]; rfl))) rfl ?_
                refine c_skip ?_
                refine n_block ?_
                refine n_then ?_
                refine c_region ?_
                refine st (v := .int .i64 ((q : Nat) : Int)) (x_move (.tmp rfl hρ76)) ?_
                refine st (v := .int .i64 (((q + 1) : Nat) : Int)) (x_add (k := .i64) (a := ((q : Nat) : Int)) (b := 1) (.tmp rfl rfl) .const ((w64 (by omega) (by omega)).trans (by omega))) ?_
                refine st (v := .int .i64 (((q + 1) : Nat) : Int)) (x_assign (.tmp rfl rfl)) ?_
                refine c_nil ?_
                have hnn := (hcut hc81).1
                refine n_then ⟨_, _, rfl, ?_, (q + 1), nn, A84, n85, c86, ((rdU b3 bad).2.1), ((rdU b3 bad).2.2), hρ73, hρ74, hρ75, rfl, (by omega), (fun h => by rw [hc92] at h; cases h), (fun _ => by omega), hp88, hs91, rfl⟩
                omega
              · refine c_cond_t (t := true) (.tmp rfl (congrArg Value.bool (by rw [hc92]; rfl))) rfl ?_
                refine c_seq ?_
                refine c_seq ?_
                refine c_region ?_
                refine st (v := .int .u64 (((rdU b3 bad).1 : Nat) : Int)) (x_move (.tmp rfl rfl)) ?_
                refine st (v := .slice A n c) (x_move (.tmp rfl hρ73)) ?_
                refine st (v := .int .i64 ((q : Nat) : Int)) (x_move (.tmp rfl hρ76)) ?_
                obtain ⟨b93, o94, hA95, hc96⟩ := (hp.mono hle24).get (i := q) (by omega)
                refine st (v := .pointer (some ⟨b93, (o94 + q * 1), none⟩)) (ixo35 (.tmp rfl rfl) hA95 (i := ((q : Nat) : Int)) (.tmp rfl rfl) (by omega) (by omega) rfl) ?_
                refine st (v := .int .u64 ((ls.getD q 0 : Nat) : Int)) (ld37 (.tmp rfl rfl) (hc96 hs91)) ?_
                refine st (v := .bool (decide (((((rdU b3 bad).1 : Nat) : Int) : Int) ≠ ((ls.getD q 0 : Nat) : Int)))) (x_neq (k := .u64) (a := (((rdU b3 bad).1 : Nat) : Int)) (b := ((ls.getD q 0 : Nat) : Int)) (.tmp rfl rfl) (.tmp rfl rfl)) ?_
                refine c_nil ?_
                refine n_then ?_
                have hc97 : (decide (((((rdU b3 bad).1 : Nat) : Int) : Int) ≠ ((ls.getD q 0 : Nat) : Int))) = false := (decide_eq_false (fun hx => hx (by rw [(cut_eq hp.lt (i := q) (by omega) hc81 hcut hc92).1])))
                refine c_cond_f (t := false) (.tmp rfl (congrArg Value.bool hc97)) rfl ?_
                refine c_skip ?_
                refine n_then ?_
                refine c_region ?_
                refine st (v := .int .i64 ((nn : Nat) : Int)) (x_move (.tmp rfl hρ75)) ?_
                have hnq := (hcut hc81).1
                refine st (v := .int .i64 (((nn + 1) : Nat) : Int)) (x_add (k := .i64) (a := ((nn : Nat) : Int)) (b := 1) (.tmp rfl rfl) .const ((w64 (by omega) (by omega)).trans (by omega))) ?_
                refine st (v := .int .i64 (((nn + 1) : Nat) : Int)) (x_assign (.tmp rfl rfl)) ?_
                refine c_nil ?_
                refine n_block ?_
                refine n_then ?_
                refine c_region ?_
                refine st (v := .int .i64 ((q : Nat) : Int)) (x_move (.tmp rfl hρ76)) ?_
                refine st (v := .int .i64 (((q + 1) : Nat) : Int)) (x_add (k := .i64) (a := ((q : Nat) : Int)) (b := 1) (.tmp rfl rfl) .const ((w64 (by omega) (by omega)).trans (by omega))) ?_
                refine st (v := .int .i64 (((q + 1) : Nat) : Int)) (x_assign (.tmp rfl rfl)) ?_
                refine c_nil ?_
                have hcs := cut_eq hp.lt (i := q) (by omega) hc81 hcut hc92
                have hnn := (hcut hc81).1
                refine n_then ⟨_, _, rfl, ?_, (q + 1), (nn + 1), A84, n85, c86, ((rdU b3 bad).2.1), ((rdU b3 bad).2.2), hρ73, hρ74, rfl, rfl, (by omega), (fun _ => ⟨by omega, hcs.2.1⟩), (fun h => by rw [hc92] at h; cases h), hp88, hs91, rfl⟩
                omega
          · have hp78 : ¬ ((((q : Nat) : Int) : Int) < ((n : Nat) : Int)) := of_decide_eq_false hc78
            refine g_no (yl (dj := 80) (b := false) rfl rfl (congrArg Value.bool hc78)) rfl ?_
            refine g_no (yl (dj := 80) (b := false) rfl rfl (congrArg Value.bool hc78)) rfl ?_
            refine g_no (yl (dj := 80) (b := false) rfl rfl (congrArg Value.bool hc78)) rfl ?_
            refine st (v := .bool false) (x_pick_f (.tmp rfl (congrArg Value.bool hc78)) .const) ?_
            refine c_nil ?_
            refine n_then ?_
            refine c_cond_f (t := false) (.tmp rfl rfl) rfl ?_
            refine c_exit ?_
            refine x_then ?_
            refine x_then ?_
            refine x_here ?_
            refine n_then ?_
            refine c_seq ?_
            refine c_region ?_
            refine st (v := .pointer (some ⟨g69, 0, none⟩)) (x_move (.tmp rfl hρ74)) ?_
            refine st_c cb19 .func (evs1 (.tmp rfl rfl)) (bad_own hs77) ?_
            rintro e w98 ⟨rfl, hs99⟩
            refine ⟨_, rfl, ?_⟩
            refine st (v := .bool bad) (x_move (.tmp rfl rfl)) ?_
            have hc100 : bad = true := (by cases hbb : bad with | true => rfl | false => exact absurd (hcut hbb).2 (cut_end (by omega)))
            refine g_yes (yl (dj := 102) (b := true) rfl rfl (congrArg Value.bool hc100)) ?_
            refine st (v := .int .i64 ((nn : Nat) : Int)) (x_move (.tmp rfl hρ75)) ?_
            refine g_yes (yl (dj := 102) (b := true) rfl rfl (congrArg Value.bool hc100)) ?_
            refine st (v := .slice A n c) (x_move (.tmp rfl hρ73)) ?_
            refine g_yes (yl (dj := 102) (b := true) rfl rfl (congrArg Value.bool hc100)) ?_
            refine st (v := .int .i64 ((n : Nat) : Int)) (x_len (n := n) Try.underlying35 (.tmp rfl rfl)) ?_
            refine g_yes (yl (dj := 102) (b := true) rfl rfl (congrArg Value.bool hc100)) ?_
            refine st (v := .bool (decide ((((nn : Nat) : Int) : Int) < ((n : Nat) : Int)))) (x_lss (k := .i64) (a := ((nn : Nat) : Int)) (b := ((n : Nat) : Int)) (.tmp rfl rfl) (.tmp rfl rfl)) ?_
            refine st (v := .bool (decide ((((nn : Nat) : Int) : Int) < ((n : Nat) : Int)))) (x_pick_t (.tmp rfl (congrArg Value.bool hc100)) (.tmp rfl rfl)) ?_
            refine st (v := .bool (decide ((((nn : Nat) : Int) : Int) < ((n : Nat) : Int)))) (x_assign (.tmp rfl rfl)) ?_
            refine c_nil ?_
            refine n_then ?_
            refine c_ret ?_
            refine leave_ret (res_one (v := .bool (decide ((((nn : Nat) : Int) : Int) < ((n : Nat) : Int)))) rfl (.mk rfl rfl)) ?_
            exact ⟨(congrArg (fun b => Ending.returned (Value.bool b)) (decide_eq_true (by have := hbad hc100; omega))), (hs99.drop.weaken hle24)⟩

end Go.Proofs.Ytmjgphaobdplcaa
