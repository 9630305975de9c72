/- Steps of the proofs over the functions of this seat, printed by a program (gen.py) and checked by Lean. -/
import Derived.Test.YtmjgphaobdplcaaTy
import Derived.Test.YtmjgphaobdplcaaFmM2
import Derived.Test.YtmjgphaobdplcaaFmS2
import Derived.Test.YtmjgphaobdplcaaFmG
import Derived.Test.YtmjgphaobdplcaaU2dawake
set_option linter.unusedVariables false
set_option linter.unusedSimpArgs false
namespace Go.Proofs.Ytmjgphaobdplcaa
open Go Go.FM Go.Proofs
attribute [local irreducible] wpList wpQuiet wpS Code.wp Calls
set_option maxHeartbeats 8000000 in
theorem codeBursts_spec {H : Hp} {w : World} {L : List Res} (hs : St H w L) {A : Option Addr} {n c : Nat} {bs : List Nat} (hp : Bs H A n c bs) (hn : n ≤ 140737488351232) (at_ pat : Nat) (b_at : at_ < 65536) (b_pat : pat < 4294967296) : Calls Try.prog 4 #[.slice A n c, .int .u16 ((at_ : Nat) : Int), .int .u32 ((pat : Nat) : Int)] w (fun e w' => e = .returned (.bool true) ∧ St H w' L) := by
  refine enter (args := [.slice A n c, .int .u16 ((at_ : Nat) : Int), .int .u32 ((pat : Nat) : Int)]) (N := 84) Try.func4 rfl rfl rfl ?_
  refine c_seq ?_
  refine c_region ?_
  refine st (v := .bool false) (x_assign .const) ?_
  refine c_nil ?_
  refine n_then ?_
  refine c_seq ?_
  refine c_seq ?_
  refine c_region ?_
  refine st_c cb9 .func (evs0 ) (awake_spec hs) ?_
  rintro e w1 ⟨rfl, hs2⟩
  refine ⟨_, rfl, ?_⟩
  refine st (v := .bool false) (x_not (b := true) (.tmp rfl rfl)) ?_
  refine st (v := .bool false) (x_move (.tmp rfl rfl)) ?_
  refine g_yes (yl (dj := 14) (b := false) rfl rfl rfl) ?_
  refine st (v := .int .u32 ((pat : Nat) : Int)) (x_move (.tmp rfl rfl)) ?_
  refine g_yes (yl (dj := 14) (b := false) rfl rfl rfl) ?_
  refine st (v := .bool (decide ((((pat : Nat) : Int) : Int) = 0))) (x_eql (k := .u32) (a := ((pat : Nat) : Int)) (b := 0) (.tmp rfl rfl) .const) ?_
  refine st (v := .bool (decide ((((pat : Nat) : Int) : Int) = 0))) (x_pick_f (.tmp rfl rfl) (.tmp rfl rfl)) ?_
  refine st (v := .bool (decide ((((pat : Nat) : Int) : Int) = 0))) (x_move (.tmp rfl rfl)) ?_
  rcases Bool.eq_false_or_eq_true (decide ((((pat : Nat) : Int) : Int) = 0)) with hc3 | hc3
  · have hp3 : (((pat : Nat) : Int) : Int) = 0 := of_decide_eq_true hc3
    refine g_no (yl (dj := 18) (b := true) rfl rfl (congrArg Value.bool hc3)) rfl ?_
    refine g_no (yl (dj := 18) (b := true) rfl rfl (congrArg Value.bool hc3)) rfl ?_
    refine g_no (yl (dj := 18) (b := true) rfl rfl (congrArg Value.bool hc3)) rfl ?_
    refine st (v := .bool true) (x_pick_t (.tmp rfl (congrArg Value.bool hc3)) .const) ?_
    refine c_nil ?_
    refine n_then ?_
    refine c_cond_t (t := true) (.tmp rfl rfl) rfl ?_
    refine c_seq ?_
    refine c_region ?_
    refine st_c cb9 .func (evs0 ) (awake_spec hs2) ?_
    rintro e w4 ⟨rfl, hs5⟩
    refine ⟨_, rfl, ?_⟩
    refine st (v := .bool true) (x_assign (.tmp rfl rfl)) ?_
    refine c_nil ?_
    refine n_then ?_
    refine c_ret ?_
    refine r_then ?_
    refine leave_ret (res_one (v := .bool true) rfl (.mk rfl rfl)) ?_
    exact ⟨rfl, hs5⟩
  · have hp3 : ¬ ((((pat : Nat) : Int) : Int) = 0) := of_decide_eq_false hc3
    refine g_yes (yl (dj := 18) (b := false) rfl rfl (congrArg Value.bool hc3)) ?_
    refine st (v := .slice A n c) (x_move (.tmp rfl rfl)) ?_
    refine g_yes (yl (dj := 18) (b := false) rfl rfl (congrArg Value.bool hc3)) ?_
    refine st (v := .int .i64 ((n : Nat) : Int)) (x_len (n := n) Try.underlying22 (.tmp rfl rfl)) ?_
    refine g_yes (yl (dj := 18) (b := false) rfl rfl (congrArg Value.bool hc3)) ?_
    refine st (v := .bool (decide ((8000 : Int) < ((n : Nat) : Int)))) (x_gtr (k := .i64) (a := ((n : Nat) : Int)) (b := 8000) (.tmp rfl rfl) .const) ?_
    refine st (v := .bool (decide ((8000 : Int) < ((n : Nat) : Int)))) (x_pick_f (.tmp rfl (congrArg Value.bool hc3)) (.tmp rfl rfl)) ?_
    refine c_nil ?_
    refine n_then ?_
    rcases Bool.eq_false_or_eq_true (decide ((8000 : Int) < ((n : Nat) : Int))) with hc6 | hc6
    · have hp6 : (8000 : Int) < ((n : Nat) : Int) := of_decide_eq_true hc6
      refine c_cond_t (t := true) (.tmp rfl (congrArg Value.bool hc6)) rfl ?_
      refine c_seq ?_
      refine c_region ?_
      refine st_c cb9 .func (evs0 ) (awake_spec hs2) ?_
      rintro e w7 ⟨rfl, hs8⟩
      refine ⟨_, rfl, ?_⟩
      refine st (v := .bool true) (x_assign (.tmp rfl rfl)) ?_
      refine c_nil ?_
      refine n_then ?_
      refine c_ret ?_
      refine r_then ?_
      refine leave_ret (res_one (v := .bool true) rfl (.mk rfl rfl)) ?_
      exact ⟨rfl, hs8⟩
    · have hp6 : ¬ ((8000 : Int) < ((n : Nat) : Int)) := of_decide_eq_false hc6
      refine c_cond_f (t := false) (.tmp rfl (congrArg Value.bool hc6)) rfl ?_
      refine c_skip ?_
      refine n_then ?_
      refine c_seq ?_
      refine c_region ?_
      refine st (v := .slice A n c) (x_move (.tmp rfl rfl)) ?_
      refine st_c cb12 .func (evs1 (.tmp rfl rfl)) (seal_spec hs2 hp (by omega)) ?_
      rintro e w10 ⟨v9, rfl, ok11, hs12⟩
      refine ⟨_, rfl, ?_⟩
      refine st (v := v9) (x_assign (.tmp rfl rfl)) ?_
      refine c_nil ?_
      refine n_then ?_
      refine c_seq ?_
      refine c_region ?_
      refine st (v := .int .u16 ((at_ : Nat) : Int)) (x_move (.tmp rfl rfl)) ?_
      refine st (v := .int .i64 ((at_ : Nat) : Int)) (x_conv (k := .u16) (a := ((at_ : Nat) : Int)) Try.underlying33 Try.underlying3 (.tmp rfl rfl) (w64 (by omega) (by omega))) ?_
      refine st (v := v9) (x_move (.tmp rfl rfl)) ?_
      obtain ⟨A14, c15, hv16, hc17⟩ := ok11.slice
      refine st (v := .int .i64 (((n + 4) : Nat) : Int)) (x_len (n := (n + 4)) Try.underlying22 (.tmp rfl hv16)) ?_
      refine st (v := .int .i64 (((8 * (n + 4)) : Nat) : Int)) (x_mul (k := .i64) (a := 8) (b := (((n + 4) : Nat) : Int)) .const (.tmp rfl rfl) ((w64 (by omega) (by omega)).trans (by omega))) ?_
      refine st (v := .int .i64 (((at_ % (8 * (n + 4))) : Nat) : Int)) (x_remN (k := .i64) (m := at_) (n := (8 * (n + 4))) (.tmp rfl rfl) (.tmp rfl rfl) (by omega)) ?_
      obtain ⟨k, hk, hklt⟩ : ∃ k, (at_ % (8 * (n + 4))) = k ∧ k < 8 * (n + 4) := ⟨_, rfl, Nat.mod_lt _ (by omega)⟩
      refine st (v := .int .i64 ((k : Nat) : Int)) (x_assign (.tmp rfl (congrArg (fun x : Nat => Value.int .i64 (x : Int)) hk))) ?_
      refine c_nil ?_
      refine n_then ?_
      refine c_seq ?_
      refine c_seq ?_
      refine c_region ?_
      refine st (v := .int .i64 0) (x_assign .const) ?_
      refine c_nil ?_
      refine n_then ?_
      refine c_block ?_
      refine c_loop (fun ρ w mm => ∃ (i : Nat), ρ 0 = .slice A n c ∧ ρ 2 = .int .u32 ((pat : Nat) : Int) ∧ ρ 7 = v9 ∧ ρ 8 = .int .i64 ((k : Nat) : Int) ∧ ρ 9 = .int .i64 ((i : Nat) : Int) ∧ (i ≤ 32) ∧ (k + i ≤ 8 * (n + 4)) ∧ (RowOk 1 v9 (n + 4) ((turn (seal_ bs) k pat i).map encB)) ∧ St H w (row 5 1 v9 (n + 4) ((turn (seal_ bs) k pat i).map encB) :: L) ∧ mm = 32 - i) _ ⟨0, rfl, rfl, rfl, rfl, rfl, (by omega), (by omega), ok11, hs12, rfl⟩ ?_
      rintro ρ w mm ⟨i, hρ19, hρ20, hρ21, hρ22, hρ23, hi, hki, okl, hs24, rfl⟩
      refine c_seq ?_
      refine c_seq ?_
      refine c_region ?_
      refine st (v := .int .i64 ((i : Nat) : Int)) (x_move (.tmp rfl hρ23)) ?_
      refine st (v := .bool (decide ((((i : Nat) : Int) : Int) < 32))) (x_lss (k := .i64) (a := ((i : Nat) : Int)) (b := 32) (.tmp rfl rfl) .const) ?_
      refine st (v := .bool (decide ((((i : Nat) : Int) : Int) < 32))) (x_move (.tmp rfl rfl)) ?_
      rcases Bool.eq_false_or_eq_true (decide ((((i : Nat) : Int) : Int) < 32)) with hc25 | hc25
      · have hp25 : (((i : Nat) : Int) : Int) < 32 := of_decide_eq_true hc25
        refine g_yes (yl (dj := 34) (b := true) rfl rfl (congrArg Value.bool hc25)) ?_
        refine st (v := .int .i64 ((k : Nat) : Int)) (x_move (.tmp rfl hρ22)) ?_
        refine g_yes (yl (dj := 34) (b := true) rfl rfl (congrArg Value.bool hc25)) ?_
        refine st (v := .int .i64 ((i : Nat) : Int)) (x_move (.tmp rfl hρ23)) ?_
        refine g_yes (yl (dj := 34) (b := true) rfl rfl (congrArg Value.bool hc25)) ?_
        refine st (v := .int .i64 (((k + i) : Nat) : Int)) (x_add (k := .i64) (a := ((k : Nat) : Int)) (b := ((i : Nat) : Int)) (.tmp rfl rfl) (.tmp rfl rfl) ((w64 (by omega) (by omega)).trans (by omega))) ?_
        refine g_yes (yl (dj := 34) (b := true) rfl rfl (congrArg Value.bool hc25)) ?_
        refine st (v := v9) (x_move (.tmp rfl hρ21)) ?_
        refine g_yes (yl (dj := 34) (b := true) rfl rfl (congrArg Value.bool hc25)) ?_
        obtain ⟨A26, c27, hv28, hc29⟩ := okl.slice
        refine st (v := .int .i64 (((n + 4) : Nat) : Int)) (x_len (n := (n + 4)) Try.underlying22 (.tmp rfl hv28)) ?_
        refine g_yes (yl (dj := 34) (b := true) rfl rfl (congrArg Value.bool hc25)) ?_
        refine st (v := .int .i64 (((8 * (n + 4)) : Nat) : Int)) (x_mul (k := .i64) (a := 8) (b := (((n + 4) : Nat) : Int)) .const (.tmp rfl rfl) ((w64 (by omega) (by omega)).trans (by omega))) ?_
        refine g_yes (yl (dj := 34) (b := true) rfl rfl (congrArg Value.bool hc25)) ?_
        refine st (v := .bool (decide (((((k + i) : Nat) : Int) : Int) < (((8 * (n + 4)) : Nat) : Int)))) (x_lss (k := .i64) (a := (((k + i) : Nat) : Int)) (b := (((8 * (n + 4)) : Nat) : Int)) (.tmp rfl rfl) (.tmp rfl rfl)) ?_
        refine st (v := .bool (decide (((((k + i) : Nat) : Int) : Int) < (((8 * (n + 4)) : Nat) : Int)))) (x_pick_t (.tmp rfl (congrArg Value.bool hc25)) (.tmp rfl rfl)) ?_
        refine c_nil ?_
        refine n_then ?_
        rcases Bool.eq_false_or_eq_true (decide (((((k + i) : Nat) : Int) : Int) < (((8 * (n + 4)) : Nat) : Int))) with hc30 | hc30
        · have hp30 : ((((k + i) : Nat) : Int) : Int) < (((8 * (n + 4)) : Nat) : Int) := of_decide_eq_true hc30
          refine c_cond_t (t := true) (.tmp rfl (congrArg Value.bool hc30)) rfl ?_
          refine c_skip ?_
          refine n_then ?_
          refine c_seq ?_
          refine c_block ?_
          refine c_seq ?_
          refine c_region ?_
          refine st (v := .int .u32 ((pat : Nat) : Int)) (x_move (.tmp rfl hρ20)) ?_
          refine st (v := .int .i64 ((i : Nat) : Int)) (x_move (.tmp rfl hρ23)) ?_
          have hb31 : (pat / 2 ^ i) < 4294967296 := Nat.lt_of_le_of_lt (Nat.div_le_self _ _) b_pat
          refine st (v := .int .u32 (((pat / 2 ^ i) : Nat) : Int)) (x_shr (k := .u32) (m := pat) (b := ((i : Nat) : Int)) rfl (.tmp rfl rfl) (.tmp rfl rfl) (by omega) (show _ < 2 ^ 32 from b_pat)) ?_
          have hb32 : ((pat / 2 ^ i) &&& 1) < 4294967296 := Nat.lt_of_le_of_lt Nat.and_le_left hb31
          refine st (v := .int .u32 ((((pat / 2 ^ i) &&& 1) : Nat) : Int)) (x_and (k := .u32) (m := (pat / 2 ^ i)) (n := 1) rfl (.tmp rfl rfl) .const (show _ < 2 ^ 32 from hb31) (show _ < 2 ^ 32 from (by decide))) ?_
          refine st (v := .bool (decide ((((((pat / 2 ^ i) &&& 1) : Nat) : Int) : Int) = 1))) (x_eql (k := .u32) (a := ((((pat / 2 ^ i) &&& 1) : Nat) : Int)) (b := 1) (.tmp rfl rfl) .const) ?_
          refine c_nil ?_
          refine n_then ?_
          rcases Bool.eq_false_or_eq_true (decide ((((((pat / 2 ^ i) &&& 1) : Nat) : Int) : Int) = 1)) with hc33 | hc33
          · have hp33 : (((((pat / 2 ^ i) &&& 1) : Nat) : Int) : Int) = 1 := of_decide_eq_true hc33
            refine c_cond_t (t := true) (.tmp rfl (congrArg Value.bool hc33)) rfl ?_
            refine s_region (L := row 5 1 v9 (n + 4) ((turn (seal_ bs) k pat i).map encB) :: L) (L' := row 5 1 v9 (n + 4) ((turn (seal_ bs) k pat i).map encB) :: L) (some 19) [(0, true), (1, true), (2, true), (3, true), (4, true), (5, true), (6, true), (7, true), (8, true), (9, true), (10, true), (11, true), (12, true), (13, true), (14, true), (15, true), (16, true), (17, true), (18, true), (19, false)] mixed hs24 (fun u hu => hu) (by kernel_rfl) ?_
            intro w34 hs35
            refine s_st (k := 0) (v := v9) rfl (fun w hs => (x_move (.tmp rfl hρ21))) ?_
            refine s_st (k := 1) (v := .int .i64 ((k : Nat) : Int)) rfl (fun w hs => (x_move (.tmp rfl hρ22))) ?_
            refine s_st (k := 2) (v := .int .i64 ((i : Nat) : Int)) rfl (fun w hs => (x_move (.tmp rfl hρ23))) ?_
            refine s_st (k := 3) (v := .int .i64 (((k + i) : Nat) : Int)) rfl (fun w hs => (x_add (k := .i64) (a := ((k : Nat) : Int)) (b := ((i : Nat) : Int)) (.tmp rfl rfl) (.tmp rfl rfl) ((w64 (by omega) (by omega)).trans (by omega)))) ?_
            refine s_st (k := 4) (v := .int .i64 ((((k + i) / 8) : Nat) : Int)) rfl (fun w hs => (x_quoN (k := .i64) (m := (k + i)) (n := 8) (.tmp rfl rfl) .const (by omega) (.inl ⟨by omega, rfl, by omega⟩))) ?_
            refine s_st (k := 5) (v := v9) rfl (fun w hs => (x_move (.tmp rfl hρ21))) ?_
            refine s_st (k := 6) (v := .int .i64 ((k : Nat) : Int)) rfl (fun w hs => (x_move (.tmp rfl hρ22))) ?_
            refine s_st (k := 7) (v := .int .i64 ((i : Nat) : Int)) rfl (fun w hs => (x_move (.tmp rfl hρ23))) ?_
            refine s_st (k := 8) (v := .int .i64 (((k + i) : Nat) : Int)) rfl (fun w hs => (x_add (k := .i64) (a := ((k : Nat) : Int)) (b := ((i : Nat) : Int)) (.tmp rfl rfl) (.tmp rfl rfl) ((w64 (by omega) (by omega)).trans (by omega)))) ?_
            refine s_st (k := 9) (v := .int .i64 ((((k + i) / 8) : Nat) : Int)) rfl (fun w hs => (x_quoN (k := .i64) (m := (k + i)) (n := 8) (.tmp rfl rfl) .const (by omega) (.inl ⟨by omega, rfl, by omega⟩))) ?_
            have hlt := turn_length (seal_ bs) k pat i
            have hls := seal_length bs
            have hlb := hp.len
            obtain ⟨g36, c37, hv38⟩ := okl.pos (by omega)
            refine s_st (k := 10) (v := .pointer (some ⟨g36, (((k + i) / 8)), none⟩)) rfl (fun w hs => (ixo22 (.tmp rfl hv38) rfl (i := ((((k + i) / 8) : Nat) : Int)) (.tmp rfl rfl) (by omega) (by omega) (by omega))) ?_
            obtain ⟨z39, hz40⟩ : ∃ x, (turn (seal_ bs) k pat i)[((k + i) / 8)]? = some x := ⟨_, List.getElem?_eq_getElem (by omega)⟩
            refine s_st (k := 11) (v := .int .u8 ((z39 : Nat) : Int)) rfl (fun w hs => (ld5 (.tmp rfl rfl) (hs.rowEnc (enc := encB) 0 rfl hv38 ((k + i) / 8) hz40))) ?_
            refine s_st (k := 12) (v := .int .i64 ((k : Nat) : Int)) rfl (fun w hs => (x_move (.tmp rfl hρ22))) ?_
            refine s_st (k := 13) (v := .int .i64 ((i : Nat) : Int)) rfl (fun w hs => (x_move (.tmp rfl hρ23))) ?_
            refine s_st (k := 14) (v := .int .i64 (((k + i) : Nat) : Int)) rfl (fun w hs => (x_add (k := .i64) (a := ((k : Nat) : Int)) (b := ((i : Nat) : Int)) (.tmp rfl rfl) (.tmp rfl rfl) ((w64 (by omega) (by omega)).trans (by omega)))) ?_
            refine s_st (k := 15) (v := .int .i64 ((((k + i) % 8) : Nat) : Int)) rfl (fun w hs => (x_remN (k := .i64) (m := (k + i)) (n := 8) (.tmp rfl rfl) .const (by omega))) ?_
            have hb41 : (1 * 2 ^ ((k + i) % 8) % 256) < 256 := Nat.mod_lt _ (by decide)
            refine s_st (k := 16) (v := .int .u8 (((1 * 2 ^ ((k + i) % 8) % 256) : Nat) : Int)) rfl (fun w hs => (x_shl (k := .u8) (m := 1) (b := ((((k + i) % 8) : Nat) : Int)) rfl .const (.tmp rfl rfl) (by omega))) ?_
            have hb42 : (z39 ^^^ (1 * 2 ^ ((k + i) % 8) % 256)) < 256 := Nat.xor_lt_two_pow (n := 8) ((turn_small (seal_small hp.lt) k pat i) _ (List.mem_of_getElem? hz40)) hb41
            refine s_st (k := 17) (v := .int .u8 (((z39 ^^^ (1 * 2 ^ ((k + i) % 8) % 256)) : Nat) : Int)) rfl (fun w hs => (x_xor (k := .u8) (m := z39) (n := (1 * 2 ^ ((k + i) % 8) % 256)) rfl (.tmp rfl rfl) (.tmp rfl rfl) (show _ < 2 ^ 8 from ((turn_small (seal_small hp.lt) k pat i) _ (List.mem_of_getElem? hz40))) (show _ < 2 ^ 8 from hb41))) ?_
            obtain ⟨g43, c44, hv45⟩ := okl.pos (by omega)
            refine s_st (k := 18) (v := .pointer (some ⟨g43, (((k + i) / 8)), none⟩)) rfl (fun w hs => (ixo22 (.tmp rfl hv45) rfl (i := ((((k + i) / 8) : Nat) : Int)) (.tmp rfl rfl) (by omega) (by omega) (by omega))) ?_
            refine s_eff (k := 19) rfl ?_
            refine st_m0 (stor5 hs35 hv45 (i := ((k + i) / 8)) (.tmp rfl rfl) (.tmp rfl rfl) rfl (by simp; omega) one1 (splice_set (by omega))) ?_
            rintro w46 hs47
            have ok48 := okl.setB (i := ((k + i) / 8)) (a := (z39 ^^^ (1 * 2 ^ ((k + i) % 8) % 256)))
            refine s_end ?_
            refine n_block ?_
            refine n_then ?_
            refine c_region ?_
            refine st (v := .int .i64 ((i : Nat) : Int)) (x_move (.tmp rfl hρ23)) ?_
            refine st (v := .int .i64 (((i + 1) : Nat) : Int)) (x_add (k := .i64) (a := ((i : Nat) : Int)) (b := 1) (.tmp rfl rfl) .const ((w64 (by omega) (by omega)).trans (by omega))) ?_
            refine st (v := .int .i64 (((i + 1) : Nat) : Int)) (x_assign (.tmp rfl rfl)) ?_
            refine c_nil ?_
            refine n_then ⟨_, _, rfl, ?_, (i + 1), hρ19, hρ20, hρ21, hρ22, rfl, (by omega), (by omega), (by rw [← turn_yes hp33 hz40]; exact ok48), (by rw [← turn_yes hp33 hz40]; exact hs47), rfl⟩
            omega
          · have hp33 : ¬ ((((((pat / 2 ^ i) &&& 1) : Nat) : Int) : Int) = 1) := of_decide_eq_false hc33
            refine c_cond_f (t := false) (.tmp rfl (congrArg Value.bool hc33)) rfl ?_
            refine c_skip ?_
            refine n_block ?_
            refine n_then ?_
            refine c_region ?_
            refine st (v := .int .i64 ((i : Nat) : Int)) (x_move (.tmp rfl hρ23)) ?_
            refine st (v := .int .i64 (((i + 1) : Nat) : Int)) (x_add (k := .i64) (a := ((i : Nat) : Int)) (b := 1) (.tmp rfl rfl) .const ((w64 (by omega) (by omega)).trans (by omega))) ?_
            refine st (v := .int .i64 (((i + 1) : Nat) : Int)) (x_assign (.tmp rfl rfl)) ?_
            refine c_nil ?_
            refine n_then ⟨_, _, rfl, ?_, (i + 1), hρ19, hρ20, hρ21, hρ22, rfl, (by omega), (by omega), (by rw [← turn_no hp33]; exact okl), (by rw [← turn_no hp33]; exact hs24), rfl⟩
            omega
        · have hp30 : ¬ (((((k + i) : Nat) : Int) : Int) < (((8 * (n + 4)) : Nat) : Int)) := of_decide_eq_false hc30
          refine c_cond_f (t := false) (.tmp rfl (congrArg Value.bool hc30)) rfl ?_
          refine c_exit ?_
          refine x_then ?_
          refine x_then ?_
          refine x_here ?_
          refine n_then ?_
          refine c_seq ?_
          refine c_region ?_
          obtain ⟨H49, A50, c51, hle52, hs53, rfl, hp54⟩ := hs24.freezeBs okl (turn_small (seal_small hp.lt) k pat i) (by omega)
          refine st (v := .slice A50 (n + 4) c51) (x_move (.tmp rfl hρ21)) ?_
          refine st_c cb13 .func (evs1 (.tmp rfl rfl)) (open_spec hs53 hp54 (by omega)) ?_
          rintro e w56 ⟨v55, rfl, ok57, hs58⟩
          refine ⟨_, rfl, ?_⟩
          refine st (v := .tuple #[v55, .int .i64 ((openL (turn (seal_ bs) k pat i)).2)]) (x_move (.tmp rfl rfl)) ?_
          refine st (v := v55) (x_extract (.tmp rfl rfl) (i := 0) rfl) ?_
          refine st (v := .int .i64 ((openL (turn (seal_ bs) k pat i)).2)) (x_extract (.tmp rfl rfl) (i := 1) rfl) ?_
          refine st (v := v55) (x_assign (.tmp rfl rfl)) ?_
          refine st (v := .int .i64 ((openL (turn (seal_ bs) k pat i)).2)) (x_assign (.tmp rfl rfl)) ?_
          refine c_nil ?_
          refine n_then ?_
          refine c_seq ?_
          refine s_region (L := row 5 1 v55 ((openL (turn (seal_ bs) k pat i)).1.length) (((openL (turn (seal_ bs) k pat i)).1).map encB) :: L) (L' := row 5 1 v55 ((openL (turn (seal_ bs) k pat i)).1.length) (((openL (turn (seal_ bs) k pat i)).1).map encB) :: L) none [(0, true), (1, true), (2, true), (3, true), (4, true), (5, true), (6, false), (7, true), (8, true), (9, true), (10, true)] mixed hs58 (fun u hu => hu) (by kernel_rfl) ?_
          intro w60 hs61
          have hlt := turn_length (seal_ bs) k pat i
          have hls := seal_length bs
          have hlb := hp.len
          refine s_st (k := 0) (v := .int .i64 ((openL (turn (seal_ bs) k pat i)).2)) rfl (fun w hs => (x_move (.tmp rfl rfl))) ?_
          refine s_st (k := 1) (v := .bool (decide ((((openL (turn (seal_ bs) k pat i)).2) : Int) = 5))) rfl (fun w hs => (x_eql (k := .i64) (a := ((openL (turn (seal_ bs) k pat i)).2)) (b := 5) (.tmp rfl rfl) .const)) ?_
          refine s_st (k := 2) (v := .bool (decide ((((openL (turn (seal_ bs) k pat i)).2) : Int) = 5))) rfl (fun w hs => (x_move (.tmp rfl rfl))) ?_
          rcases Bool.eq_false_or_eq_true (decide ((((openL (turn (seal_ bs) k pat i)).2) : Int) = 5)) with hc62 | hc62
          · have hp62 : (((openL (turn (seal_ bs) k pat i)).2) : Int) = 5 := of_decide_eq_true hc62
            refine s_no (k := 3) rfl (yl (dj := 76) (b := true) rfl rfl (congrArg Value.bool hc62)) rfl ?_
            refine s_no (k := 4) rfl (yl (dj := 76) (b := true) rfl rfl (congrArg Value.bool hc62)) rfl ?_
            refine s_no (k := 5) rfl (yl (dj := 76) (b := true) rfl rfl (congrArg Value.bool hc62)) rfl ?_
            refine s_eff (k := 6) rfl ?_
            refine g_no (yl (dj := 76) (b := true) rfl rfl (congrArg Value.bool hc62)) rfl ?_
            refine s_on (S' := fun u => St H49 u (row 5 1 v55 ((openL (turn (seal_ bs) k pat i)).1.length) (((openL (turn (seal_ bs) k pat i)).1).map encB) :: L)) (fun u hu => hu) hs61 ?_
            refine s_no (k := 7) rfl (yl (dj := 76) (b := true) rfl rfl (congrArg Value.bool hc62)) rfl ?_
            refine s_no (k := 8) rfl (yl (dj := 76) (b := true) rfl rfl (congrArg Value.bool hc62)) rfl ?_
            refine s_st (k := 9) (v := .bool true) rfl (fun w hs => (x_pick_t (.tmp rfl (congrArg Value.bool hc62)) .const)) ?_
            refine s_st (k := 10) (v := .bool true) rfl (fun w hs => (x_assign (.tmp rfl rfl))) ?_
            refine s_nil ?_
            refine n_then ?_
            refine c_ret ?_
            refine leave_ret (res_one (v := .bool true) rfl (.mk rfl rfl)) ?_
            exact ⟨rfl, (hs61.drop.weaken hle52)⟩
          · have hp62 : ¬ ((((openL (turn (seal_ bs) k pat i)).2) : Int) = 5) := of_decide_eq_false hc62
            refine s_yes (k := 3) (v := .slice A50 (n + 4) c51) rfl (yl (dj := 76) (b := false) rfl rfl (congrArg Value.bool hc62)) (fun w hs => (x_move (.tmp rfl hρ21))) ?_
            refine s_yes (k := 4) (v := .string (bstr (turn (seal_ bs) k pat i))) rfl (yl (dj := 76) (b := false) rfl rfl (congrArg Value.bool hc62)) (fun w hs => (hp54.str Try.underlying22 Try.underlying5 Try.underlying9 hs (.tmp rfl rfl))) ?_
            refine s_yes (k := 5) (v := .slice A n c) rfl (yl (dj := 76) (b := false) rfl rfl (congrArg Value.bool hc62)) (fun w hs => (x_move (.tmp rfl hρ19))) ?_
            refine s_eff (k := 6) rfl ?_
            refine g_yes (yl (dj := 76) (b := false) rfl rfl (congrArg Value.bool hc62)) ?_
            refine st_c cb12 .func (evs1 (.tmp rfl rfl)) (seal_spec hs61 (hp.mono hle52) (by omega)) ?_
            rintro e w64 ⟨v63, rfl, ok65, hs66⟩
            refine ⟨_, rfl, ?_⟩
            refine s_on (S' := fun u => St H49 u (row 5 1 v63 (n + 4) ((seal_ bs).map encB) :: row 5 1 v55 ((openL (turn (seal_ bs) k pat i)).1.length) (((openL (turn (seal_ bs) k pat i)).1).map encB) :: L)) (fun u hu => hu.drop) hs66 ?_
            refine s_yes (k := 7) (v := .string (bstr (seal_ bs))) rfl (yl (dj := 76) (b := false) rfl rfl (congrArg Value.bool hc62)) (fun w hs => (hs.rowStr Try.underlying22 Try.underlying5 Try.underlying9 0 rfl ok65 (.tmp rfl rfl))) ?_
            refine s_yes (k := 8) (v := .bool (decide ((bstr (turn (seal_ bs) k pat i)) = (bstr (seal_ bs))))) rfl (yl (dj := 76) (b := false) rfl rfl (congrArg Value.bool hc62)) (fun w hs => (x_eqlS (.tmp rfl rfl) (.tmp rfl rfl))) ?_
            refine s_st (k := 9) (v := .bool (decide ((bstr (turn (seal_ bs) k pat i)) = (bstr (seal_ bs))))) rfl (fun w hs => (x_pick_f (.tmp rfl (congrArg Value.bool hc62)) (.tmp rfl rfl))) ?_
            refine s_st (k := 10) (v := .bool (decide ((bstr (turn (seal_ bs) k pat i)) = (bstr (seal_ bs))))) rfl (fun w hs => (x_assign (.tmp rfl rfl))) ?_
            refine s_nil ?_
            refine n_then ?_
            refine c_ret ?_
            refine leave_ret (res_one (v := .bool (decide ((bstr (turn (seal_ bs) k pat i)) = (bstr (seal_ bs))))) rfl (.mk rfl rfl)) ?_
            exact ⟨(congrArg (fun b => Ending.returned (Value.bool b)) (decide_eq_true (burst_good hp.lt hi (by omega) (of_decide_eq_false hc62)))), (hs66.drop.drop.weaken hle52)⟩
      · have hp25 : ¬ ((((i : Nat) : Int) : Int) < 32) := of_decide_eq_false hc25
        refine g_no (yl (dj := 34) (b := false) rfl rfl (congrArg Value.bool hc25)) rfl ?_
        refine g_no (yl (dj := 34) (b := false) rfl rfl (congrArg Value.bool hc25)) rfl ?_
        refine g_no (yl (dj := 34) (b := false) rfl rfl (congrArg Value.bool hc25)) rfl ?_
        refine g_no (yl (dj := 34) (b := false) rfl rfl (congrArg Value.bool hc25)) rfl ?_
        refine g_no (yl (dj := 34) (b := false) rfl rfl (congrArg Value.bool hc25)) rfl ?_
        refine g_no (yl (dj := 34) (b := false) rfl rfl (congrArg Value.bool hc25)) rfl ?_
        refine g_no (yl (dj := 34) (b := false) rfl rfl (congrArg Value.bool hc25)) rfl ?_
        refine st (v := .bool false) (x_pick_f (.tmp rfl (congrArg Value.bool hc25)) .const) ?_
        refine c_nil ?_
        refine n_then ?_
        refine c_cond_f (t := false) (.tmp rfl rfl) rfl ?_
        refine c_exit ?_
        refine x_then ?_
        refine x_then ?_
        refine x_here ?_
        refine n_then ?_
        refine c_seq ?_
        refine c_region ?_
        obtain ⟨H68, A69, c70, hle71, hs72, rfl, hp73⟩ := hs24.freezeBs okl (turn_small (seal_small hp.lt) k pat i) (by omega)
        refine st (v := .slice A69 (n + 4) c70) (x_move (.tmp rfl hρ21)) ?_
        refine st_c cb13 .func (evs1 (.tmp rfl rfl)) (open_spec hs72 hp73 (by omega)) ?_
        rintro e w75 ⟨v74, rfl, ok76, hs77⟩
        refine ⟨_, rfl, ?_⟩
        refine st (v := .tuple #[v74, .int .i64 ((openL (turn (seal_ bs) k pat i)).2)]) (x_move (.tmp rfl rfl)) ?_
        refine st (v := v74) (x_extract (.tmp rfl rfl) (i := 0) rfl) ?_
        refine st (v := .int .i64 ((openL (turn (seal_ bs) k pat i)).2)) (x_extract (.tmp rfl rfl) (i := 1) rfl) ?_
        refine st (v := v74) (x_assign (.tmp rfl rfl)) ?_
        refine st (v := .int .i64 ((openL (turn (seal_ bs) k pat i)).2)) (x_assign (.tmp rfl rfl)) ?_
        refine c_nil ?_
        refine n_then ?_
        refine c_seq ?_
        refine s_region (L := row 5 1 v74 ((openL (turn (seal_ bs) k pat i)).1.length) (((openL (turn (seal_ bs) k pat i)).1).map encB) :: L) (L' := row 5 1 v74 ((openL (turn (seal_ bs) k pat i)).1.length) (((openL (turn (seal_ bs) k pat i)).1).map encB) :: L) none [(0, true), (1, true), (2, true), (3, true), (4, true), (5, true), (6, false), (7, true), (8, true), (9, true), (10, true)] mixed hs77 (fun u hu => hu) (by kernel_rfl) ?_
        intro w79 hs80
        have hlt := turn_length (seal_ bs) k pat i
        have hls := seal_length bs
        have hlb := hp.len
        refine s_st (k := 0) (v := .int .i64 ((openL (turn (seal_ bs) k pat i)).2)) rfl (fun w hs => (x_move (.tmp rfl rfl))) ?_
        refine s_st (k := 1) (v := .bool (decide ((((openL (turn (seal_ bs) k pat i)).2) : Int) = 5))) rfl (fun w hs => (x_eql (k := .i64) (a := ((openL (turn (seal_ bs) k pat i)).2)) (b := 5) (.tmp rfl rfl) .const)) ?_
        refine s_st (k := 2) (v := .bool (decide ((((openL (turn (seal_ bs) k pat i)).2) : Int) = 5))) rfl (fun w hs => (x_move (.tmp rfl rfl))) ?_
        rcases Bool.eq_false_or_eq_true (decide ((((openL (turn (seal_ bs) k pat i)).2) : Int) = 5)) with hc81 | hc81
        · have hp81 : (((openL (turn (seal_ bs) k pat i)).2) : Int) = 5 := of_decide_eq_true hc81
          refine s_no (k := 3) rfl (yl (dj := 76) (b := true) rfl rfl (congrArg Value.bool hc81)) rfl ?_
          refine s_no (k := 4) rfl (yl (dj := 76) (b := true) rfl rfl (congrArg Value.bool hc81)) rfl ?_
          refine s_no (k := 5) rfl (yl (dj := 76) (b := true) rfl rfl (congrArg Value.bool hc81)) rfl ?_
          refine s_eff (k := 6) rfl ?_
          refine g_no (yl (dj := 76) (b := true) rfl rfl (congrArg Value.bool hc81)) rfl ?_
          refine s_on (S' := fun u => St H68 u (row 5 1 v74 ((openL (turn (seal_ bs) k pat i)).1.length) (((openL (turn (seal_ bs) k pat i)).1).map encB) :: L)) (fun u hu => hu) hs80 ?_
          refine s_no (k := 7) rfl (yl (dj := 76) (b := true) rfl rfl (congrArg Value.bool hc81)) rfl ?_
          refine s_no (k := 8) rfl (yl (dj := 76) (b := true) rfl rfl (congrArg Value.bool hc81)) rfl ?_
          refine s_st (k := 9) (v := .bool true) rfl (fun w hs => (x_pick_t (.tmp rfl (congrArg Value.bool hc81)) .const)) ?_
          refine s_st (k := 10) (v := .bool true) rfl (fun w hs => (x_assign (.tmp rfl rfl))) ?_
          refine s_nil ?_
          refine n_then ?_
          refine c_ret ?_
          refine leave_ret (res_one (v := .bool true) rfl (.mk rfl rfl)) ?_
          exact ⟨rfl, (hs80.drop.weaken hle71)⟩
        · have hp81 : ¬ ((((openL (turn (seal_ bs) k pat i)).2) : Int) = 5) := of_decide_eq_false hc81
          refine s_yes (k := 3) (v := .slice A69 (n + 4) c70) rfl (yl (dj := 76) (b := false) rfl rfl (congrArg Value.bool hc81)) (fun w hs => (x_move (.tmp rfl hρ21))) ?_
          refine s_yes (k := 4) (v := .string (bstr (turn (seal_ bs) k pat i))) rfl (yl (dj := 76) (b := false) rfl rfl (congrArg Value.bool hc81)) (fun w hs => (hp73.str Try.underlying22 Try.underlying5 Try.underlying9 hs (.tmp rfl rfl))) ?_
          refine s_yes (k := 5) (v := .slice A n c) rfl (yl (dj := 76) (b := false) rfl rfl (congrArg Value.bool hc81)) (fun w hs => (x_move (.tmp rfl hρ19))) ?_
          refine s_eff (k := 6) rfl ?_
          refine g_yes (yl (dj := 76) (b := false) rfl rfl (congrArg Value.bool hc81)) ?_
          refine st_c cb12 .func (evs1 (.tmp rfl rfl)) (seal_spec hs80 (hp.mono hle71) (by omega)) ?_
          rintro e w83 ⟨v82, rfl, ok84, hs85⟩
          refine ⟨_, rfl, ?_⟩
          refine s_on (S' := fun u => St H68 u (row 5 1 v82 (n + 4) ((seal_ bs).map encB) :: row 5 1 v74 ((openL (turn (seal_ bs) k pat i)).1.length) (((openL (turn (seal_ bs) k pat i)).1).map encB) :: L)) (fun u hu => hu.drop) hs85 ?_
          refine s_yes (k := 7) (v := .string (bstr (seal_ bs))) rfl (yl (dj := 76) (b := false) rfl rfl (congrArg Value.bool hc81)) (fun w hs => (hs.rowStr Try.underlying22 Try.underlying5 Try.underlying9 0 rfl ok84 (.tmp rfl rfl))) ?_
          refine s_yes (k := 8) (v := .bool (decide ((bstr (turn (seal_ bs) k pat i)) = (bstr (seal_ bs))))) rfl (yl (dj := 76) (b := false) rfl rfl (congrArg Value.bool hc81)) (fun w hs => (x_eqlS (.tmp rfl rfl) (.tmp rfl rfl))) ?_
          refine s_st (k := 9) (v := .bool (decide ((bstr (turn (seal_ bs) k pat i)) = (bstr (seal_ bs))))) rfl (fun w hs => (x_pick_f (.tmp rfl (congrArg Value.bool hc81)) (.tmp rfl rfl))) ?_
          refine s_st (k := 10) (v := .bool (decide ((bstr (turn (seal_ bs) k pat i)) = (bstr (seal_ bs))))) rfl (fun w hs => (x_assign (.tmp rfl rfl))) ?_
          refine s_nil ?_
          refine n_then ?_
          refine c_ret ?_
          refine leave_ret (res_one (v := .bool (decide ((bstr (turn (seal_ bs) k pat i)) = (bstr (seal_ bs))))) rfl (.mk rfl rfl)) ?_
          exact ⟨(congrArg (fun b => Ending.returned (Value.bool b)) (decide_eq_true (burst_good hp.lt hi (by omega) (of_decide_eq_false hc81)))), (hs85.drop.drop.weaken hle71)⟩

end Go.Proofs.Ytmjgphaobdplcaa
