/- Steps of the proofs over the functions of this seat, printed by a program (gen.py) and checked by Lean. -/
import Derived.Test.YtmjgphaobdplcaaTy
import Derived.Test.YtmjgphaobdplcaaFmM2
import Derived.Test.YtmjgphaobdplcaaFmS2
import Derived.Test.YtmjgphaobdplcaaFmG
import Derived.Test.YtmjgphaobdplcaaFmP
import Derived.Test.YtmjgphaobdplcaaFmM2c
import Derived.Test.YtmjgphaobdplcaaU2e
set_option linter.unusedVariables false
set_option linter.unusedSimpArgs false
namespace Go.Proofs.Ytmjgphaobdplcaa
open Go Go.FM Go.Proofs
attribute [local irreducible] wpList wpQuiet wpS Code.wp Calls
set_option maxHeartbeats 8000000 in
theorem codeShort_spec {H : Hp} {w : World} {L : List Res} (hs : St H w L) (m more : Nat) (b_m : m < 18446744073709551616) (b_more : more < 256) : Calls Try.prog 6 #[.int .u64 ((m : Nat) : Int), .int .u8 ((more : Nat) : Int)] w (fun e w' => e = .returned (.bool true) ∧ St H w' L) := by
  refine enter (args := [.int .u64 ((m : Nat) : Int), .int .u8 ((more : Nat) : Int)]) (N := 54) Try.func6 rfl rfl rfl ?_
  have hup := uenc_pos m
  have hu10 := uenc_len10 b_m
  have hul : (([] : List Nat) ++ uenc m).length = (uenc m).length := rfl
  refine c_seq ?_
  refine c_region ?_
  refine st (v := .bool false) (x_assign .const) ?_
  refine c_nil ?_
  refine n_then ?_
  refine c_seq ?_
  refine c_seq ?_
  refine c_region ?_
  refine st_c cb9 .func (evs0 ) (awake_spec hs) ?_
  rintro e w1 ⟨rfl, hs2⟩
  refine ⟨_, rfl, ?_⟩
  refine st (v := .bool false) (x_not (b := true) (.tmp rfl rfl)) ?_
  refine c_nil ?_
  refine n_then ?_
  refine c_cond_f (t := false) (.tmp rfl rfl) rfl ?_
  refine c_skip ?_
  refine n_then ?_
  refine c_seq ?_
  refine c_region ?_
  refine st (v := .int .u64 ((m : Nat) : Int)) (x_move (.tmp rfl rfl)) ?_
  have hs3 : St H _ (row 5 1 (.slice none 0 0) 0 ([].map encB) :: L) := hs2.rowNil 5 1
  have ok5 : RowOk 1 (.slice none 0 0) 0 (([] : List Nat).map encB) := RowOk.nil 1
  refine st_c cb16 .func (evs2 .const (.tmp rfl rfl)) (uint_spec hs3 ok5 Small.nil m (by omega) b_m) ?_
  rintro e w7 ⟨v6, rfl, ok8, hs9⟩
  refine ⟨_, rfl, ?_⟩
  refine st (v := v6) (x_assign (.tmp rfl rfl)) ?_
  refine c_nil ?_
  refine n_then ?_
  refine c_seq ?_
  refine c_region ?_
  refine st (v := .int .u8 ((more : Nat) : Int)) (x_move (.tmp rfl rfl)) ?_
  refine st (v := .int .i64 ((more : Nat) : Int)) (x_conv (k := .u8) (a := ((more : Nat) : Int)) Try.underlying5 Try.underlying3 (.tmp rfl rfl) (w64 (by omega) (by omega))) ?_
  refine st (v := .int .i64 (((more % 4) : Nat) : Int)) (x_remN (k := .i64) (m := more) (n := 4) (.tmp rfl rfl) .const (by omega)) ?_
  refine st (v := .int .i64 (((1 + (more % 4)) : Nat) : Int)) (x_add (k := .i64) (a := 1) (b := (((more % 4) : Nat) : Int)) .const (.tmp rfl rfl) ((w64 (by omega) (by omega)).trans (by omega))) ?_
  refine st (v := .int .i64 (((1 + (more % 4)) : Nat) : Int)) (x_assign (.tmp rfl rfl)) ?_
  refine c_nil ?_
  refine n_then ?_
  refine c_seq ?_
  refine c_region ?_
  refine st (v := v6) (x_move (.tmp rfl rfl)) ?_
  refine st (v := v6) (x_move (.tmp rfl rfl)) ?_
  obtain ⟨A10, c11, hv12, hc13⟩ := ok8.slice
  refine st (v := .int .i64 (((0 + (uenc m).length) : Nat) : Int)) (x_len (n := (0 + (uenc m).length)) Try.underlying22 (.tmp rfl hv12)) ?_
  refine st (v := .int .i64 ((((0 + (uenc m).length) - 1) : Nat) : Int)) (x_sub (k := .i64) (a := (((0 + (uenc m).length) : Nat) : Int)) (b := 1) (.tmp rfl rfl) .const ((w64 (by omega) (by omega)).trans (by omega))) ?_
  refine st (v := v6) (x_move (.tmp rfl rfl)) ?_
  refine st (v := v6) (x_move (.tmp rfl rfl)) ?_
  obtain ⟨A14, c15, hv16, hc17⟩ := ok8.slice
  refine st (v := .int .i64 (((0 + (uenc m).length) : Nat) : Int)) (x_len (n := (0 + (uenc m).length)) Try.underlying22 (.tmp rfl hv16)) ?_
  refine st (v := .int .i64 ((((0 + (uenc m).length) - 1) : Nat) : Int)) (x_sub (k := .i64) (a := (((0 + (uenc m).length) : Nat) : Int)) (b := 1) (.tmp rfl rfl) .const ((w64 (by omega) (by omega)).trans (by omega))) ?_
  obtain ⟨g18, c19, hv20⟩ := ok8.pos (by omega)
  refine st (v := .pointer (some ⟨g18, (((0 + (uenc m).length) - 1)), none⟩)) (ixo22 (.tmp rfl hv20) rfl (i := ((((0 + (uenc m).length) - 1) : Nat) : Int)) (.tmp rfl rfl) (by omega) (by omega) (by omega)) ?_
  obtain ⟨z21, hz22⟩ : ∃ x, ([] ++ uenc m)[((0 + (uenc m).length) - 1)]? = some x := ⟨_, List.getElem?_eq_getElem (by omega)⟩
  refine st (v := .int .u8 ((z21 : Nat) : Int)) (ld5 (.tmp rfl rfl) (hs9.rowEnc (enc := encB) 0 rfl hv20 ((0 + (uenc m).length) - 1) hz22)) ?_
  have hb23 : (z21 ||| 128) < 256 := Nat.or_lt_two_pow (n := 8) ((Small.nil.append (uenc_small _)) _ (List.mem_of_getElem? hz22)) (by decide)
  refine st (v := .int .u8 (((z21 ||| 128) : Nat) : Int)) (x_or (k := .u8) (m := z21) (n := 128) rfl (.tmp rfl rfl) .const (show _ < 2 ^ 8 from ((Small.nil.append (uenc_small _)) _ (List.mem_of_getElem? hz22))) (show _ < 2 ^ 8 from (by decide))) ?_
  obtain ⟨g24, c25, hv26⟩ := ok8.pos (by omega)
  refine st (v := .pointer (some ⟨g24, (((0 + (uenc m).length) - 1)), none⟩)) (ixo22 (.tmp rfl hv26) rfl (i := ((((0 + (uenc m).length) - 1) : Nat) : Int)) (.tmp rfl rfl) (by omega) (by omega) (by omega)) ?_
  refine st_m0 (stor5 hs9 hv26 (i := ((0 + (uenc m).length) - 1)) (.tmp rfl rfl) (.tmp rfl rfl) rfl (by simp; omega) one1 (splice_set (by omega))) ?_
  rintro w27 hs28
  have ok29 := ok8.setB (i := ((0 + (uenc m).length) - 1)) (a := (z21 ||| 128))
  refine c_nil ?_
  refine n_then ?_
  refine c_seq ?_
  refine c_seq ?_
  refine c_region ?_
  refine st (v := .int .i64 1) (x_assign .const) ?_
  refine c_nil ?_
  refine n_then ?_
  refine c_block ?_
  refine c_loop (fun ρ w mm => ∃ (i : Nat) (v : Value), ρ 5 = v ∧ ρ 6 = .int .i64 (((1 + (more % 4)) : Nat) : Int) ∧ ρ 7 = .int .i64 (((1 + i) : Nat) : Int) ∧ (i ≤ more % 4) ∧ (RowOk 1 v (0 + (uenc m).length + i) (((([] ++ uenc m).set ((0 + (uenc m).length) - 1) (z21 ||| 128)) ++ List.replicate i 128).map encB)) ∧ St H w (row 5 1 v (0 + (uenc m).length + i) (((([] ++ uenc m).set ((0 + (uenc m).length) - 1) (z21 ||| 128)) ++ List.replicate i 128).map encB) :: L) ∧ mm = 4 - i) _ ⟨0, v6, rfl, rfl, rfl, (by omega), (by simpa using ok29), (by simpa using hs28), rfl⟩ ?_
  rintro ρ w mm ⟨i, v, hρ31, hρ32, hρ33, hi, ok, hs34, rfl⟩
  refine c_seq ?_
  refine c_seq ?_
  refine c_region ?_
  refine st (v := .int .i64 (((1 + i) : Nat) : Int)) (x_move (.tmp rfl hρ33)) ?_
  refine st (v := .int .i64 (((1 + (more % 4)) : Nat) : Int)) (x_move (.tmp rfl hρ32)) ?_
  refine st (v := .bool (decide (((((1 + i) : Nat) : Int) : Int) < (((1 + (more % 4)) : Nat) : Int)))) (x_lss (k := .i64) (a := (((1 + i) : Nat) : Int)) (b := (((1 + (more % 4)) : Nat) : Int)) (.tmp rfl rfl) (.tmp rfl rfl)) ?_
  refine c_nil ?_
  refine n_then ?_
  rcases Bool.eq_false_or_eq_true (decide (((((1 + i) : Nat) : Int) : Int) < (((1 + (more % 4)) : Nat) : Int))) with hc35 | hc35
  · have hp35 : ((((1 + i) : Nat) : Int) : Int) < (((1 + (more % 4)) : Nat) : Int) := of_decide_eq_true hc35
    refine c_cond_t (t := true) (.tmp rfl (congrArg Value.bool hc35)) rfl ?_
    refine c_skip ?_
    refine n_then ?_
    refine c_seq ?_
    refine c_block ?_
    refine c_region ?_
    refine st (v := v) (x_move (.tmp rfl hρ31)) ?_
    refine st_m (m_lit (n := 1) (ps := [(0, .int .u8 128)]) (cs := [.int .u8 128]) Try.underlying22 inf5 (.cons .const Evp.nil) (by decide) (by decide) rfl rfl hs34) ?_
    rintro _ w37 ⟨g36, rfl, hs39⟩
    have hs40 : St H _ (row 5 1 v (0 + (uenc m).length + i) (((([] ++ uenc m).set ((0 + (uenc m).length) - 1) (z21 ||| 128)) ++ List.replicate i 128).map encB) :: obj g36 5 [.int .u8 128] :: L) := hs39.pick 1 rfl rfl
    refine st_m (m_appAt (bs := [128]) Try.underlying22 inf5 hs40 ok (.tmp rfl rfl) (.tmp rfl rfl) rfl (hs40.at_ 1 rfl 0 rfl) (by omega)) ?_
    rintro v41 w42 ⟨ok43, hs44⟩
    refine st (v := v41) (x_assign (.tmp rfl rfl)) ?_
    refine c_nil ?_
    refine n_block ?_
    refine n_then ?_
    refine c_region ?_
    refine st (v := .int .i64 (((1 + i) : Nat) : Int)) (x_move (.tmp rfl hρ33)) ?_
    refine st (v := .int .i64 ((((1 + i) + 1) : Nat) : Int)) (x_add (k := .i64) (a := (((1 + i) : Nat) : Int)) (b := 1) (.tmp rfl rfl) .const ((w64 (by omega) (by omega)).trans (by omega))) ?_
    refine st (v := .int .i64 ((((1 + i) + 1) : Nat) : Int)) (x_assign (.tmp rfl rfl)) ?_
    refine c_nil ?_
    have heq : ((([] ++ uenc m).set ((0 + (uenc m).length) - 1) (z21 ||| 128)) ++ List.replicate (i + 1) 128 : List Nat) = (((([] ++ uenc m).set ((0 + (uenc m).length) - 1) (z21 ||| 128)) ++ List.replicate i 128) ++ [128]) := by rw [List.replicate_succ', ← List.append_assoc]
    refine n_then ⟨_, _, rfl, ?_, (i + 1), v41, rfl, hρ32, rfl, (by omega), (by rw [heq]; exact ok43), (by rw [heq]; exact (hs44.pick 1 rfl rfl).drop), rfl⟩
    omega
  · have hp35 : ¬ (((((1 + i) : Nat) : Int) : Int) < (((1 + (more % 4)) : Nat) : Int)) := of_decide_eq_false hc35
    refine c_cond_f (t := false) (.tmp rfl (congrArg Value.bool hc35)) rfl ?_
    refine c_exit ?_
    refine x_then ?_
    refine x_then ?_
    refine x_here ?_
    refine n_then ?_
    refine c_seq ?_
    refine c_region ?_
    refine st (v := v) (x_move (.tmp rfl hρ31)) ?_
    refine st_m (m_lit (n := 1) (ps := [(0, .int .u8 0)]) (cs := [.int .u8 0]) Try.underlying22 inf5 (.cons .const Evp.nil) (by decide) (by decide) rfl rfl hs34) ?_
    rintro _ w46 ⟨g45, rfl, hs48⟩
    have hs49 : St H _ (row 5 1 v (0 + (uenc m).length + i) (((([] ++ uenc m).set ((0 + (uenc m).length) - 1) (z21 ||| 128)) ++ List.replicate i 128).map encB) :: obj g45 5 [.int .u8 0] :: L) := hs48.pick 1 rfl rfl
    refine st_m (m_appAt (bs := [0]) Try.underlying22 inf5 hs49 ok (.tmp rfl rfl) (.tmp rfl rfl) rfl (hs49.at_ 1 rfl 0 rfl) (by omega)) ?_
    rintro v50 w51 ⟨ok52, hs53⟩
    refine st (v := v50) (x_assign (.tmp rfl rfl)) ?_
    refine c_nil ?_
    refine n_then ?_
    refine c_seq ?_
    refine c_region ?_
    obtain ⟨H54, A55, c56, hle57, hs58, rfl, hp59⟩ := hs53.freezeBs ok52 ((Small.append ((Small.nil.append (uenc_small _)).set _ hb23) (fun b hb => by rw [List.eq_of_mem_replicate hb]; decide)).append (Small.cons (by decide) Small.nil)) (by omega)
    refine st (v := .slice A55 ((0 + (uenc m).length + i) + 1) c56) (x_move (.tmp rfl rfl)) ?_
    refine st_c cb17 .func (evs1 (.tmp rfl rfl)) (newReader_spec hs58) ?_
    rintro e w61 ⟨g60, rfl, hs62⟩
    refine ⟨_, rfl, ?_⟩
    refine st (v := .pointer (some ⟨g60, 0, none⟩)) (x_assign (.tmp rfl rfl)) ?_
    refine c_nil ?_
    refine n_then ?_
    refine c_seq ?_
    refine c_region ?_
    refine st (v := .pointer (some ⟨g60, 0, none⟩)) (x_move (.tmp rfl rfl)) ?_
    refine st_c cb18 .func (evs1 (.tmp rfl rfl)) (uint_own hp59 false hs62) ?_
    rintro e w66 ⟨A63, n64, c65, rfl, hp67, hs68⟩
    refine ⟨_, rfl, ?_⟩
    refine st (v := .bool (decide (((((rdU (((([] ++ uenc m).set ((0 + (uenc m).length) - 1) (z21 ||| 128)) ++ List.replicate i 128) ++ [0]) false).1 : Nat) : Int) : Int) = 0))) (x_eql (k := .u64) (a := (((rdU (((([] ++ uenc m).set ((0 + (uenc m).length) - 1) (z21 ||| 128)) ++ List.replicate i 128) ++ [0]) false).1 : Nat) : Int)) (b := 0) (.tmp rfl rfl) .const) ?_
    refine st (v := .bool (decide (((((rdU (((([] ++ uenc m).set ((0 + (uenc m).length) - 1) (z21 ||| 128)) ++ List.replicate i 128) ++ [0]) false).1 : Nat) : Int) : Int) = 0))) (x_move (.tmp rfl rfl)) ?_
    have hc69 : (decide (((((rdU (((([] ++ uenc m).set ((0 + (uenc m).length) - 1) (z21 ||| 128)) ++ List.replicate i 128) ++ [0]) false).1 : Nat) : Int) : Int) = 0)) = true := (decide_eq_true (by rw [short_bad hz22]; rfl))
    refine g_yes (yl (dj := 45) (b := true) rfl rfl (congrArg Value.bool hc69)) ?_
    refine st (v := .pointer (some ⟨g60, 0, none⟩)) (x_move (.tmp rfl rfl)) ?_
    refine g_yes (yl (dj := 45) (b := true) rfl rfl (congrArg Value.bool hc69)) ?_
    refine st_c cb19 .func (evs1 (.tmp rfl rfl)) (bad_own hs68) ?_
    rintro e w70 ⟨rfl, hs71⟩
    refine ⟨_, rfl, ?_⟩
    refine st (v := .bool ((rdU (((([] ++ uenc m).set ((0 + (uenc m).length) - 1) (z21 ||| 128)) ++ List.replicate i 128) ++ [0]) false).2.2)) (x_pick_t (.tmp rfl (congrArg Value.bool hc69)) (.tmp rfl rfl)) ?_
    refine st (v := .bool ((rdU (((([] ++ uenc m).set ((0 + (uenc m).length) - 1) (z21 ||| 128)) ++ List.replicate i 128) ++ [0]) false).2.2)) (x_move (.tmp rfl rfl)) ?_
    have hc72 : ((rdU (((([] ++ uenc m).set ((0 + (uenc m).length) - 1) (z21 ||| 128)) ++ List.replicate i 128) ++ [0]) false).2.2) = true := (by rw [short_bad hz22])
    refine g_yes (yl (dj := 49) (b := true) rfl rfl (congrArg Value.bool hc72)) ?_
    refine st (v := .pointer (some ⟨g60, 0, none⟩)) (x_move (.tmp rfl rfl)) ?_
    refine g_yes (yl (dj := 49) (b := true) rfl rfl (congrArg Value.bool hc72)) ?_
    refine st_c cb20 .func (evs1 (.tmp rfl rfl)) (left_own (b := ((rdU (((([] ++ uenc m).set ((0 + (uenc m).length) - 1) (z21 ||| 128)) ++ List.replicate i 128) ++ [0]) false).2.2)) hs71) ?_
    rintro e w73 ⟨rfl, hs74⟩
    refine ⟨_, rfl, ?_⟩
    refine g_yes (yl (dj := 49) (b := true) rfl rfl (congrArg Value.bool hc72)) ?_
    refine st (v := .bool (decide (((if ((rdU (((([] ++ uenc m).set ((0 + (uenc m).length) - 1) (z21 ||| 128)) ++ List.replicate i 128) ++ [0]) false).2.2) = true then 0 else ((n64 : Nat) : Int)) : Int) = 0))) (x_eql (k := .i64) (a := (if ((rdU (((([] ++ uenc m).set ((0 + (uenc m).length) - 1) (z21 ||| 128)) ++ List.replicate i 128) ++ [0]) false).2.2) = true then 0 else ((n64 : Nat) : Int))) (b := 0) (.tmp rfl rfl) .const) ?_
    refine st (v := .bool (decide (((if ((rdU (((([] ++ uenc m).set ((0 + (uenc m).length) - 1) (z21 ||| 128)) ++ List.replicate i 128) ++ [0]) false).2.2) = true then 0 else ((n64 : Nat) : Int)) : Int) = 0))) (x_pick_t (.tmp rfl (congrArg Value.bool hc72)) (.tmp rfl rfl)) ?_
    refine st (v := .bool (decide (((if ((rdU (((([] ++ uenc m).set ((0 + (uenc m).length) - 1) (z21 ||| 128)) ++ List.replicate i 128) ++ [0]) false).2.2) = true then 0 else ((n64 : Nat) : Int)) : Int) = 0))) (x_assign (.tmp rfl rfl)) ?_
    refine c_nil ?_
    refine n_then ?_
    refine c_ret ?_
    refine leave_ret (res_one (v := .bool (decide (((if ((rdU (((([] ++ uenc m).set ((0 + (uenc m).length) - 1) (z21 ||| 128)) ++ List.replicate i 128) ++ [0]) false).2.2) = true then 0 else ((n64 : Nat) : Int)) : Int) = 0))) rfl (.mk rfl rfl)) ?_
    exact ⟨(congrArg (fun b => Ending.returned (Value.bool b)) (decide_eq_true (by rw [short_bad hz22]; rfl))), (hs74.drop.drop.weaken hle57)⟩

end Go.Proofs.Ytmjgphaobdplcaa
