/- Steps of the proofs over the functions of this seat, printed by a program (gen.py) and checked by Lean. -/
import Derived.Test.YtmjgphaobdplcaaUty
import Derived.Test.YtmjgphaobdplcaaFmM2
import Derived.Test.YtmjgphaobdplcaaFmS2
import Derived.Test.YtmjgphaobdplcaaFmG
import Derived.Test.YtmjgphaobdplcaaFmP
import Derived.Test.YtmjgphaobdplcaaFmM2c
import Derived.Test.YtmjgphaobdplcaaU2a
set_option linter.unusedVariables false
set_option linter.unusedSimpArgs false
namespace Go.Proofs.Ytmjgphaobdplcaa
open Go Go.FM Go.Proofs
attribute [local irreducible] wpList wpQuiet wpS Code.wp Calls
set_option maxHeartbeats 8000000 in
theorem four_spec {H : Hp} {w : World} {L : List Res} (hs : St H w L) (s : Nat) (b_s : s < 4294967296) : Calls Try.prog 27 #[.int .u32 ((s : Nat) : Int)] w (fun e w' => e = .returned (.agg #[.int .u8 ((s % 256 : Nat) : Int), .int .u8 ((s / 2 ^ 8 % 256 : Nat) : Int), .int .u8 ((s / 2 ^ 16 % 256 : Nat) : Int), .int .u8 ((s / 2 ^ 24 % 256 : Nat) : Int)]) ∧ St H w' L) := by
  refine enter (args := [.int .u32 ((s : Nat) : Int)]) (N := 15) Try.func27 rfl rfl rfl ?_
  refine c_seq ?_
  refine c_region ?_
  refine st_m (al55 (cs := [.int .u8 0, .int .u8 0, .int .u8 0, .int .u8 0]) hs rfl) ?_
  rintro _ w2 ⟨g1, rfl, hs4⟩
  refine c_nil ?_
  refine n_then ?_
  refine c_seq ?_
  refine c_region ?_
  refine st (v := .int .u32 ((s : Nat) : Int)) (x_move (.tmp rfl rfl)) ?_
  refine st (v := .int .u8 (((s % 256) : Nat) : Int)) (x_conv (k := .u32) (a := ((s : Nat) : Int)) Try.underlying24 Try.underlying5 (.tmp rfl rfl) (wrapN _ rfl _)) ?_
  refine st (v := .int .u32 ((s : Nat) : Int)) (x_move (.tmp rfl rfl)) ?_
  have hb5 : (s / 2 ^ 8) < 4294967296 := Nat.lt_of_le_of_lt (Nat.div_le_self _ _) b_s
  refine st (v := .int .u32 (((s / 2 ^ 8) : Nat) : Int)) (x_shr (k := .u32) (m := s) (b := 8) rfl (.tmp rfl rfl) .const (by omega) (show _ < 2 ^ 32 from b_s)) ?_
  refine st (v := .int .u8 ((((s / 2 ^ 8) % 256) : Nat) : Int)) (x_conv (k := .u32) (a := (((s / 2 ^ 8) : Nat) : Int)) Try.underlying24 Try.underlying5 (.tmp rfl rfl) (wrapN _ rfl _)) ?_
  refine st (v := .int .u32 ((s : Nat) : Int)) (x_move (.tmp rfl rfl)) ?_
  have hb6 : (s / 2 ^ 16) < 4294967296 := Nat.lt_of_le_of_lt (Nat.div_le_self _ _) b_s
  refine st (v := .int .u32 (((s / 2 ^ 16) : Nat) : Int)) (x_shr (k := .u32) (m := s) (b := 16) rfl (.tmp rfl rfl) .const (by omega) (show _ < 2 ^ 32 from b_s)) ?_
  refine st (v := .int .u8 ((((s / 2 ^ 16) % 256) : Nat) : Int)) (x_conv (k := .u32) (a := (((s / 2 ^ 16) : Nat) : Int)) Try.underlying24 Try.underlying5 (.tmp rfl rfl) (wrapN _ rfl _)) ?_
  refine st (v := .int .u32 ((s : Nat) : Int)) (x_move (.tmp rfl rfl)) ?_
  have hb7 : (s / 2 ^ 24) < 4294967296 := Nat.lt_of_le_of_lt (Nat.div_le_self _ _) b_s
  refine st (v := .int .u32 (((s / 2 ^ 24) : Nat) : Int)) (x_shr (k := .u32) (m := s) (b := 24) rfl (.tmp rfl rfl) .const (by omega) (show _ < 2 ^ 32 from b_s)) ?_
  refine st (v := .int .u8 ((((s / 2 ^ 24) % 256) : Nat) : Int)) (x_conv (k := .u32) (a := (((s / 2 ^ 24) : Nat) : Int)) Try.underlying24 Try.underlying5 (.tmp rfl rfl) (wrapN _ rfl _)) ?_
  refine st (v := .agg #[.int .u8 (((s % 256) : Nat) : Int), .int .u8 ((((s / 2 ^ 8) % 256) : Nat) : Int), .int .u8 ((((s / 2 ^ 16) % 256) : Nat) : Int), .int .u8 ((((s / 2 ^ 24) % 256) : Nat) : Int)]) (x_bldArr (ps := [(0, .int .u8 (((s % 256) : Nat) : Int)), (1, .int .u8 ((((s / 2 ^ 8) % 256) : Nat) : Int)), (2, .int .u8 ((((s / 2 ^ 16) % 256) : Nat) : Int)), (3, .int .u8 ((((s / 2 ^ 24) % 256) : Nat) : Int))]) Try.underlying55 inf55 inf5 (.cons (.tmp rfl rfl) (.cons (.tmp rfl rfl) (.cons (.tmp rfl rfl) (.cons (.tmp rfl rfl) Evp.nil)))) rfl) ?_
  refine st_m0 (sto55 (cs' := [.int .u8 (((s % 256) : Nat) : Int), .int .u8 ((((s / 2 ^ 8) % 256) : Nat) : Int), .int .u8 ((((s / 2 ^ 16) % 256) : Nat) : Int), .int .u8 ((((s / 2 ^ 24) % 256) : Nat) : Int)]) (i := 0) hs4 (v := .agg #[.int .u8 (((s % 256) : Nat) : Int), .int .u8 ((((s / 2 ^ 8) % 256) : Nat) : Int), .int .u8 ((((s / 2 ^ 16) % 256) : Nat) : Int), .int .u8 ((((s / 2 ^ 24) % 256) : Nat) : Int)]) (.tmp rfl rfl) (.tmp rfl rfl) rfl (Nat.le_of_ble_eq_true rfl) (oneA rfl) rfl) ?_
  rintro w8 hs10
  refine c_nil ?_
  refine n_then ?_
  refine c_ret ?_
  refine leave_ret (res_one (v := .agg #[.int .u8 (((s % 256) : Nat) : Int), .int .u8 ((((s / 2 ^ 8) % 256) : Nat) : Int), .int .u8 ((((s / 2 ^ 16) % 256) : Nat) : Int), .int .u8 ((((s / 2 ^ 24) % 256) : Nat) : Int)]) rfl (.mkCell rfl rfl (lv55 (cs := [.int .u8 (((s % 256) : Nat) : Int), .int .u8 ((((s / 2 ^ 8) % 256) : Nat) : Int), .int .u8 ((((s / 2 ^ 16) % 256) : Nat) : Int), .int .u8 ((((s / 2 ^ 24) % 256) : Nat) : Int)]) (hs10.at_ 0 rfl 0 rfl) rfl))) ?_
  exact ⟨rfl, hs10.drop⟩

set_option maxHeartbeats 8000000 in
theorem seal_spec {H : Hp} {w : World} {L : List Res} (hs : St H w L) {A : Option Addr} {n c : Nat} {bs : List Nat} (hp : Bs H A n c bs) (hn : n ≤ 140737488355320) : Calls Try.prog 12 #[.slice A n c] w (fun e w' => ∃ v, e = .returned v ∧ RowOk 1 v (n + 4) ((seal_ bs).map encB) ∧ St H w' (row 5 1 v (n + 4) ((seal_ bs).map encB) :: L)) := by
  refine enter (args := [.slice A n c]) (N := 11) Try.func12 rfl rfl rfl ?_
  have hle := hp.le
  have hlen := hp.len
  refine c_seq ?_
  refine c_region ?_
  refine st (v := .slice none 0 0) (x_assign .const) ?_
  refine c_nil ?_
  refine n_then ?_
  refine c_seq ?_
  refine c_region ?_
  refine st (v := .slice A n c) (x_move (.tmp rfl rfl)) ?_
  refine st_c cb10 .func (evs1 (.tmp rfl rfl)) (sum_spec hs hp (by omega)) ?_
  rintro e w1 ⟨rfl, hs2⟩
  refine ⟨_, rfl, ?_⟩
  refine st_c cb27 .func (evs1 (.tmp rfl rfl)) (four_spec hs2 (crc bs) (crc_lt _)) ?_
  rintro e w3 ⟨rfl, hs4⟩
  refine ⟨_, rfl, ?_⟩
  refine st_m (al55 (cs := [.int .u8 0, .int .u8 0, .int .u8 0, .int .u8 0]) hs4 rfl) ?_
  rintro _ w6 ⟨g5, rfl, hs8⟩
  refine st_m0 (sto55 (cs' := [.int .u8 (((crc bs) % 256 : Nat) : Int), .int .u8 (((crc bs) / 2 ^ 8 % 256 : Nat) : Int), .int .u8 (((crc bs) / 2 ^ 16 % 256 : Nat) : Int), .int .u8 (((crc bs) / 2 ^ 24 % 256 : Nat) : Int)]) (i := 0) hs8 (v := .agg #[.int .u8 (((crc bs) % 256 : Nat) : Int), .int .u8 (((crc bs) / 2 ^ 8 % 256 : Nat) : Int), .int .u8 (((crc bs) / 2 ^ 16 % 256 : Nat) : Int), .int .u8 (((crc bs) / 2 ^ 24 % 256 : Nat) : Int)]) (.tmp rfl rfl) (.tmp rfl rfl) rfl (Nat.le_of_ble_eq_true rfl) (oneA rfl) rfl) ?_
  rintro w9 hs11
  refine c_nil ?_
  refine n_then ?_
  refine c_seq ?_
  refine s_region (L := obj g5 55 [.int .u8 (((crc bs) % 256 : Nat) : Int), .int .u8 (((crc bs) / 2 ^ 8 % 256 : Nat) : Int), .int .u8 (((crc bs) / 2 ^ 16 % 256 : Nat) : Int), .int .u8 (((crc bs) / 2 ^ 24 % 256 : Nat) : Int)] :: L) (L' := obj g5 55 [.int .u8 (((crc bs) % 256 : Nat) : Int), .int .u8 (((crc bs) / 2 ^ 8 % 256 : Nat) : Int), .int .u8 (((crc bs) / 2 ^ 16 % 256 : Nat) : Int), .int .u8 (((crc bs) / 2 ^ 24 % 256 : Nat) : Int)] :: L) none [(0, true), (2, true), (1, false), (3, false), (4, true)] mixed hs11 (fun u hu => hu) (by kernel_rfl) ?_
  intro w12 hs13
  refine s_st (k := 0) (v := .slice A n c) rfl (fun w hs => (x_move (.tmp rfl rfl))) ?_
  refine s_st (k := 2) (v := .slice (some ⟨g5, 0, none⟩) 4 4) rfl (fun w hs => (x_sliceArr Try.underlying55 inf5 (.tmp rfl rfl))) ?_
  refine s_eff (k := 1) rfl ?_
  refine st_m (m_appNil Try.underlying22 inf5 hs13 .const (.tmp rfl rfl) hp (by omega)) ?_
  rintro v14 w15 ⟨ok16, hs17⟩
  refine s_on (S' := fun u => St H u (obj g5 55 [.int .u8 (((crc bs) % 256 : Nat) : Int), .int .u8 (((crc bs) / 2 ^ 8 % 256 : Nat) : Int), .int .u8 (((crc bs) / 2 ^ 16 % 256 : Nat) : Int), .int .u8 (((crc bs) / 2 ^ 24 % 256 : Nat) : Int)] :: L)) (fun u hu => hu) hs17.drop ?_
  refine s_eff (k := 3) rfl ?_
  refine st_m (m_appAt (bs := [((crc bs) % 256), ((crc bs) / 2 ^ 8 % 256), ((crc bs) / 2 ^ 16 % 256), ((crc bs) / 2 ^ 24 % 256)]) Try.underlying22 inf5 hs17 ok16 (.tmp rfl rfl) (.tmp rfl rfl) rfl (hs17.at_ 1 rfl 0 rfl) (by omega)) ?_
  rintro v19 w20 ⟨ok21, hs22⟩
  refine s_on (S' := fun u => St H u (obj g5 55 [.int .u8 (((crc bs) % 256 : Nat) : Int), .int .u8 (((crc bs) / 2 ^ 8 % 256 : Nat) : Int), .int .u8 (((crc bs) / 2 ^ 16 % 256 : Nat) : Int), .int .u8 (((crc bs) / 2 ^ 24 % 256 : Nat) : Int)] :: L)) (fun u hu => hu) hs22.drop ?_
  refine s_st (k := 4) (v := v19) rfl (fun w hs => (x_assign (.tmp rfl rfl))) ?_
  refine s_nil ?_
  refine n_then ?_
  refine c_ret ?_
  refine leave_ret (res_one (v := v19) rfl (.mk rfl rfl)) ?_
  exact ⟨_, rfl, ok21, (hs22.pick 1 rfl rfl).drop⟩

set_option maxHeartbeats 8000000 in
theorem rseal_spec {H : Hp} {w : World} {L : List Res} (hs : St H w L) {A : Option Addr} {n c : Nat} {bs : List Nat} (hp : Bs H A n c bs) (hn : n ≤ 140737488355320) : Calls Try.prog 15 #[.slice A n c] w (fun e w' => ∃ v, e = .returned v ∧ RowOk 1 v (n + 4) ((seal_ bs).map encB) ∧ St H w' (row 5 1 v (n + 4) ((seal_ bs).map encB) :: L)) := by
  refine enter (args := [.slice A n c]) (N := 24) Try.func15 rfl rfl rfl ?_
  have hle := hp.le
  have hlen := hp.len
  refine c_seq ?_
  refine c_region ?_
  refine st (v := .slice none 0 0) (x_assign .const) ?_
  refine c_nil ?_
  refine n_then ?_
  refine c_seq ?_
  refine c_region ?_
  refine st (v := .slice none 0 0) (x_assign .const) ?_
  refine c_nil ?_
  refine n_then ?_
  refine c_seq ?_
  refine c_region ?_
  refine st (v := .slice none 0 0) (x_move (.tmp rfl rfl)) ?_
  refine st (v := .slice A n c) (x_move (.tmp rfl rfl)) ?_
  refine st_m (m_appNil Try.underlying22 inf5 hs (.tmp rfl rfl) (.tmp rfl rfl) hp (by omega)) ?_
  rintro v1 w2 ⟨ok3, hs4⟩
  refine st (v := v1) (x_assign (.tmp rfl rfl)) ?_
  refine c_nil ?_
  refine n_then ?_
  refine c_seq ?_
  refine c_region ?_
  refine st (v := .slice A n c) (x_move (.tmp rfl rfl)) ?_
  refine st_c cb11 .func (evs1 (.tmp rfl rfl)) (rsum_spec hs4 hp (by omega)) ?_
  rintro e w6 ⟨rfl, hs7⟩
  refine ⟨_, rfl, ?_⟩
  refine st (v := .int .u32 ((crc bs : Nat) : Int)) (x_assign (.tmp rfl rfl)) ?_
  refine c_nil ?_
  refine n_then ?_
  refine c_seq ?_
  refine c_seq ?_
  refine c_region ?_
  refine st (v := .int .i64 0) (x_assign .const) ?_
  refine c_nil ?_
  refine n_then ?_
  refine c_block ?_
  refine c_loop (fun ρ w mm => ∃ (j : Nat) (v : Value), ρ 3 = v ∧ ρ 4 = .int .u32 ((crc bs : Nat) : Int) ∧ ρ 5 = .int .i64 ((j : Nat) : Int) ∧ (j ≤ 4) ∧ (RowOk 1 v (n + j) ((bs ++ (four (crc bs)).take j).map encB)) ∧ St H w (row 5 1 v (n + j) ((bs ++ (four (crc bs)).take j).map encB) :: L) ∧ mm = 4 - j) _ ⟨0, v1, rfl, rfl, rfl, (by omega), (by simpa using ok3), (by simpa using hs7), rfl⟩ ?_
  rintro ρ w mm ⟨j, v, hρ9, hρ10, hρ11, hj, ok, hs12, rfl⟩
  refine c_seq ?_
  refine c_seq ?_
  refine c_region ?_
  refine st (v := .int .i64 ((j : Nat) : Int)) (x_move (.tmp rfl hρ11)) ?_
  refine st (v := .bool (decide ((((j : Nat) : Int) : Int) < 4))) (x_lss (k := .i64) (a := ((j : Nat) : Int)) (b := 4) (.tmp rfl rfl) .const) ?_
  refine c_nil ?_
  refine n_then ?_
  rcases Bool.eq_false_or_eq_true (decide ((((j : Nat) : Int) : Int) < 4)) with hc13 | hc13
  · have hp13 : (((j : Nat) : Int) : Int) < 4 := of_decide_eq_true hc13
    refine c_cond_t (t := true) (.tmp rfl (congrArg Value.bool hc13)) rfl ?_
    refine c_skip ?_
    refine n_then ?_
    refine c_seq ?_
    refine c_block ?_
    refine c_region ?_
    have hj4 : j < 4 := by omega
    refine st (v := v) (x_move (.tmp rfl hρ9)) ?_
    refine st (v := .int .u32 ((crc bs : Nat) : Int)) (x_move (.tmp rfl hρ10)) ?_
    refine st (v := .int .i64 ((j : Nat) : Int)) (x_move (.tmp rfl hρ11)) ?_
    refine st (v := .int .i64 (8 * ((j : Nat) : Int))) (x_mul (k := .i64) (a := 8) (b := ((j : Nat) : Int)) .const (.tmp rfl rfl) (w64 (by omega) (by omega))) ?_
    have hb14 : ((crc bs) / 2 ^ (8 * ((j : Nat) : Int)).toNat) < 4294967296 := Nat.lt_of_le_of_lt (Nat.div_le_self _ _) (crc_lt _)
    refine st (v := .int .u32 ((((crc bs) / 2 ^ (8 * ((j : Nat) : Int)).toNat) : Nat) : Int)) (x_shr (k := .u32) (m := (crc bs)) (b := (8 * ((j : Nat) : Int))) rfl (.tmp rfl rfl) (.tmp rfl rfl) (by omega) (show _ < 2 ^ 32 from (crc_lt _))) ?_
    refine st (v := .int .u8 (((((crc bs) / 2 ^ (8 * ((j : Nat) : Int)).toNat) % 256) : Nat) : Int)) (x_conv (k := .u32) (a := ((((crc bs) / 2 ^ (8 * ((j : Nat) : Int)).toNat) : Nat) : Int)) Try.underlying24 Try.underlying5 (.tmp rfl rfl) (wrapN _ rfl _)) ?_
    refine st_m (m_lit (n := 1) (ps := [(0, .int .u8 (((((crc bs) / 2 ^ (8 * ((j : Nat) : Int)).toNat) % 256) : Nat) : Int))]) (cs := [.int .u8 (((((crc bs) / 2 ^ (8 * ((j : Nat) : Int)).toNat) % 256) : Nat) : Int)]) Try.underlying22 inf5 (.cons (.tmp rfl rfl) Evp.nil) (by decide) (by decide) rfl rfl hs12) ?_
    rintro _ w16 ⟨g15, rfl, hs18⟩
    have hs19 : St H _ (row 5 1 v (n + j) ((bs ++ (four (crc bs)).take j).map encB) :: obj g15 5 [.int .u8 (((((crc bs) / 2 ^ (8 * ((j : Nat) : Int)).toNat) % 256) : Nat) : Int)] :: L) := hs18.pick 1 rfl rfl
    refine st_m (m_appAt (bs := [(((crc bs) / 2 ^ (8 * ((j : Nat) : Int)).toNat) % 256)]) Try.underlying22 inf5 hs19 ok (.tmp rfl rfl) (.tmp rfl rfl) rfl (hs19.at_ 1 rfl 0 rfl) (by omega)) ?_
    rintro v20 w21 ⟨ok22, hs23⟩
    refine st (v := v20) (x_assign (.tmp rfl rfl)) ?_
    refine c_nil ?_
    refine n_block ?_
    refine n_then ?_
    refine c_region ?_
    refine st (v := .int .i64 ((j : Nat) : Int)) (x_move (.tmp rfl hρ11)) ?_
    refine st (v := .int .i64 (((j : Nat) : Int) + 1)) (x_add (k := .i64) (a := ((j : Nat) : Int)) (b := 1) (.tmp rfl rfl) .const (w64 (by omega) (by omega))) ?_
    refine st (v := .int .i64 (((j : Nat) : Int) + 1)) (x_assign (.tmp rfl rfl)) ?_
    refine c_nil ?_
    refine n_then ⟨_, _, rfl, ?_, (j + 1), v20, rfl, hρ10, rfl, (by omega), (four_next bs hj4 ok22), (four_nextS bs hj4 (hs23.pick 1 rfl rfl).drop), rfl⟩
    omega
  · have hp13 : ¬ ((((j : Nat) : Int) : Int) < 4) := of_decide_eq_false hc13
    refine c_cond_f (t := false) (.tmp rfl (congrArg Value.bool hc13)) rfl ?_
    refine c_exit ?_
    refine x_then ?_
    refine x_then ?_
    refine x_here ?_
    refine n_then ?_
    refine c_seq ?_
    refine c_region ?_
    refine st (v := v) (x_move (.tmp rfl hρ9)) ?_
    refine st (v := v) (x_assign (.tmp rfl rfl)) ?_
    refine c_nil ?_
    refine n_then ?_
    refine c_ret ?_
    refine leave_ret (res_one (v := v) rfl (.mk rfl rfl)) ?_
    obtain rfl : j = 4 := by omega
    exact ⟨_, rfl, ok, hs12⟩

set_option maxHeartbeats 8000000 in
theorem open_spec {H : Hp} {w : World} {L : List Res} (hs : St H w L) {A : Option Addr} {n c : Nat} {bs : List Nat} (hp : Bs H A n c bs) (hn : n ≤ 140737488355320) : Calls Try.prog 13 #[.slice A n c] w (fun e w' => ∃ v, e = .returned (.tuple #[v, .int .i64 (openL bs).2]) ∧ RowOk 1 v (openL bs).1.length ((openL bs).1.map encB) ∧ St H w' (row 5 1 v (openL bs).1.length ((openL bs).1.map encB) :: L)) := by
  obtain rfl := hp.len
  refine enter (args := [.slice A bs.length c]) (N := 25) Try.func13 rfl rfl rfl ?_
  have hle := hp.le
  refine c_seq ?_
  refine c_region ?_
  refine st (v := .slice none 0 0) (x_assign .const) ?_
  refine st (v := .int .i64 0) (x_assign .const) ?_
  refine c_nil ?_
  refine n_then ?_
  refine c_seq ?_
  refine c_region ?_
  refine st (v := .slice A bs.length c) (x_move (.tmp rfl rfl)) ?_
  refine st (v := .int .i64 ((bs.length : Nat) : Int)) (x_len (n := bs.length) Try.underlying22 (.tmp rfl rfl)) ?_
  refine st (v := .int .i64 (((bs.length : Nat) : Int) - 4)) (x_sub (k := .i64) (a := ((bs.length : Nat) : Int)) (b := 4) (.tmp rfl rfl) .const (w64 (by omega) (by omega))) ?_
  refine st (v := .int .i64 (((bs.length : Nat) : Int) - 4)) (x_assign (.tmp rfl rfl)) ?_
  refine c_nil ?_
  refine n_then ?_
  refine c_seq ?_
  refine c_seq ?_
  refine c_region ?_
  refine st (v := .int .i64 (((bs.length : Nat) : Int) - 4)) (x_move (.tmp rfl rfl)) ?_
  refine st (v := .bool (decide (((((bs.length : Nat) : Int) - 4) : Int) < 0))) (x_lss (k := .i64) (a := (((bs.length : Nat) : Int) - 4)) (b := 0) (.tmp rfl rfl) .const) ?_
  refine c_nil ?_
  refine n_then ?_
  rcases Bool.eq_false_or_eq_true (decide (((((bs.length : Nat) : Int) - 4) : Int) < 0)) with hc1 | hc1
  · have hp1 : ((((bs.length : Nat) : Int) - 4) : Int) < 0 := of_decide_eq_true hc1
    refine c_cond_t (t := true) (.tmp rfl (congrArg Value.bool hc1)) rfl ?_
    refine c_seq ?_
    refine c_region ?_
    refine st (v := .slice none 0 0) (x_assign .const) ?_
    refine st (v := .int .i64 3) (x_assign .const) ?_
    refine c_nil ?_
    refine n_then ?_
    refine c_ret ?_
    refine r_then ?_
    refine leave_ret (res_two (v := .slice none 0 0) (u := .int .i64 3) rfl (.mk rfl rfl) (.mk rfl rfl)) ?_
    rw [openL_short (by omega)]
    exact ⟨_, rfl, RowOk.nil 1, (hs).rowNil 5 1⟩
  · have hp1 : ¬ (((((bs.length : Nat) : Int) - 4) : Int) < 0) := of_decide_eq_false hc1
    refine c_cond_f (t := false) (.tmp rfl (congrArg Value.bool hc1)) rfl ?_
    refine c_skip ?_
    refine n_then ?_
    refine c_seq ?_
    refine c_seq ?_
    refine s_region (L := L) (L' := L) none [(0, true), (1, true), (2, true), (3, true), (4, true), (5, true), (6, true), (7, true), (8, false), (9, false), (10, true)] mixed hs (fun u hu => hu) (by kernel_rfl) ?_
    intro w2 hs3
    refine s_st (k := 0) (v := .slice A bs.length c) rfl (fun w hs => (x_move (.tmp rfl rfl))) ?_
    refine s_st (k := 1) (v := .int .i64 (((bs.length : Nat) : Int) - 4)) rfl (fun w hs => (x_move (.tmp rfl rfl))) ?_
    have := hp.le
    refine s_st (k := 2) (v := .slice (cutA A c ((((bs.length : Nat) : Int) - 4).toNat) 1) (bs.length - (((bs.length : Nat) : Int) - 4).toNat) (c - (((bs.length : Nat) : Int) - 4).toNat)) rfl (fun w hs => (bs_l Try.underlying22 inf5 (a := (((bs.length : Nat) : Int) - 4)) (.tmp rfl rfl) (.tmp rfl rfl) (by omega) (by omega) (by omega))) ?_
    obtain ⟨b4, o5, hA6, hat7⟩ := (hp.drop (k := (((bs.length : Nat) : Int) - 4).toNat) (by omega)).first (by omega)
    refine s_st (k := 3) (v := .pointer (cutA A c ((((bs.length : Nat) : Int) - 4).toNat) 1)) rfl (fun w hs => (x_toArray Try.underlying55 (.tmp rfl rfl) (by omega))) ?_
    refine s_st (k := 4) (v := .agg #[.int .u8 (((bs.drop ((((bs.length : Nat) : Int) - 4).toNat)).getD 0 0 : Nat) : Int), .int .u8 (((bs.drop ((((bs.length : Nat) : Int) - 4).toNat)).getD 1 0 : Nat) : Int), .int .u8 (((bs.drop ((((bs.length : Nat) : Int) - 4).toNat)).getD 2 0 : Nat) : Int), .int .u8 (((bs.drop ((((bs.length : Nat) : Int) - 4).toNat)).getD 3 0 : Nat) : Int)]) rfl (fun w hs => (ld55 (cs := [.int .u8 (((bs.drop ((((bs.length : Nat) : Int) - 4).toNat)).getD 0 0 : Nat) : Int), .int .u8 (((bs.drop ((((bs.length : Nat) : Int) - 4).toNat)).getD 1 0 : Nat) : Int), .int .u8 (((bs.drop ((((bs.length : Nat) : Int) - 4).toNat)).getD 2 0 : Nat) : Int), .int .u8 (((bs.drop ((((bs.length : Nat) : Int) - 4).toNat)).getD 3 0 : Nat) : Int)]) (.tmp rfl (congrArg Value.pointer hA6)) ((hat7 hs).sub 0 rfl) rfl)) ?_
    refine s_st (k := 5) (v := .slice A bs.length c) rfl (fun w hs => (x_move (.tmp rfl rfl))) ?_
    refine s_st (k := 6) (v := .int .i64 (((bs.length : Nat) : Int) - 4)) rfl (fun w hs => (x_move (.tmp rfl rfl))) ?_
    have := hp.le
    refine s_st (k := 7) (v := .slice A ((((bs.length : Nat) : Int) - 4).toNat) c) rfl (fun w hs => (bs_h Try.underlying22 inf5 (a := (((bs.length : Nat) : Int) - 4)) (.tmp rfl rfl) (.tmp rfl rfl) (by omega) (by omega))) ?_
    refine s_eff (k := 8) rfl ?_
    refine st_c cb10 .func (evs1 (.tmp rfl rfl)) (sum_spec hs3 (hp.take (k := (((bs.length : Nat) : Int) - 4).toNat) (by omega)) (by omega)) ?_
    rintro e w8 ⟨rfl, hs9⟩
    refine ⟨_, rfl, ?_⟩
    refine s_on (S' := fun u => St H u (L)) (fun u hu => hu) hs9 ?_
    refine s_eff (k := 9) rfl ?_
    refine st_c cb27 .func (evs1 (.tmp rfl rfl)) (four_spec hs9 (crc (bs.take ((((bs.length : Nat) : Int) - 4).toNat))) (crc_lt _)) ?_
    rintro e w10 ⟨rfl, hs11⟩
    refine ⟨_, rfl, ?_⟩
    refine s_on (S' := fun u => St H u (L)) (fun u hu => hu) hs11 ?_
    refine s_st (k := 10) (v := .bool (!((((bs.drop ((((bs.length : Nat) : Int) - 4).toNat)).getD 0 0 : Nat) : Int) == (((crc (bs.take ((((bs.length : Nat) : Int) - 4).toNat))) % 256 : Nat) : Int) && ((((bs.drop ((((bs.length : Nat) : Int) - 4).toNat)).getD 1 0 : Nat) : Int) == (((crc (bs.take ((((bs.length : Nat) : Int) - 4).toNat))) / 2 ^ 8 % 256 : Nat) : Int) && ((((bs.drop ((((bs.length : Nat) : Int) - 4).toNat)).getD 2 0 : Nat) : Int) == (((crc (bs.take ((((bs.length : Nat) : Int) - 4).toNat))) / 2 ^ 16 % 256 : Nat) : Int) && (((bs.drop ((((bs.length : Nat) : Int) - 4).toNat)).getD 3 0 : Nat) : Int) == (((crc (bs.take ((((bs.length : Nat) : Int) - 4).toNat))) / 2 ^ 24 % 256 : Nat) : Int)))))) rfl (fun w hs => (x_neqA eqg55 (.tmp rfl rfl) (.tmp rfl rfl) (fun d => run_eqArr4 (d + 98) Try.underlying55 Try.underlying5 sc5 inf5 _ _ _ _ _ _ _ _))) ?_
    refine s_nil ?_
    refine n_then ?_
    rcases Bool.eq_false_or_eq_true ((((bs.drop ((((bs.length : Nat) : Int) - 4).toNat)).getD 0 0 : Nat) : Int) == (((crc (bs.take ((((bs.length : Nat) : Int) - 4).toNat))) % 256 : Nat) : Int) && ((((bs.drop ((((bs.length : Nat) : Int) - 4).toNat)).getD 1 0 : Nat) : Int) == (((crc (bs.take ((((bs.length : Nat) : Int) - 4).toNat))) / 2 ^ 8 % 256 : Nat) : Int) && ((((bs.drop ((((bs.length : Nat) : Int) - 4).toNat)).getD 2 0 : Nat) : Int) == (((crc (bs.take ((((bs.length : Nat) : Int) - 4).toNat))) / 2 ^ 16 % 256 : Nat) : Int) && (((bs.drop ((((bs.length : Nat) : Int) - 4).toNat)).getD 3 0 : Nat) : Int) == (((crc (bs.take ((((bs.length : Nat) : Int) - 4).toNat))) / 2 ^ 24 % 256 : Nat) : Int)))) with hc12 | hc12
    · refine c_cond_f (t := false) (.tmp rfl (congrArg Value.bool (by rw [hc12]; rfl))) rfl ?_
      refine c_skip ?_
      refine n_then ?_
      refine c_seq ?_
      refine c_region ?_
      refine st (v := .slice A bs.length c) (x_move (.tmp rfl rfl)) ?_
      refine st (v := .int .i64 (((bs.length : Nat) : Int) - 4)) (x_move (.tmp rfl rfl)) ?_
      have := hp.le
      refine st (v := .slice A ((((bs.length : Nat) : Int) - 4).toNat) c) (bs_h Try.underlying22 inf5 (a := (((bs.length : Nat) : Int) - 4)) (.tmp rfl rfl) (.tmp rfl rfl) (by omega) (by omega)) ?_
      refine st_m (m_appNil Try.underlying22 inf5 hs11 .const (.tmp rfl rfl) (hp.take (k := (((bs.length : Nat) : Int) - 4).toNat) (by omega)) (by omega)) ?_
      rintro v13 w14 ⟨ok15, hs16⟩
      refine st (v := v13) (x_assign (.tmp rfl rfl)) ?_
      refine st (v := .int .i64 0) (x_assign .const) ?_
      refine c_nil ?_
      refine n_then ?_
      refine c_ret ?_
      refine leave_ret (res_two (v := v13) (u := .int .i64 0) rfl (.mk rfl rfl) (.mk rfl rfl)) ?_
      have e4 : ((bs.length : Int) - 4).toNat = bs.length - 4 := by omega
      rw [e4, four_eq (by omega)] at hc12
      rw [openL_good (by omega) (of_decide_eq_true hc12)]
      have hk : (bs.take (bs.length - 4)).length = bs.length - 4 := by simp
      rw [hk, ← e4]
      exact ⟨_, rfl, ok15, hs16⟩
    · refine c_cond_t (t := true) (.tmp rfl (congrArg Value.bool (by rw [hc12]; rfl))) rfl ?_
      refine c_seq ?_
      refine c_region ?_
      refine st (v := .slice none 0 0) (x_assign .const) ?_
      refine st (v := .int .i64 5) (x_assign .const) ?_
      refine c_nil ?_
      refine n_then ?_
      refine c_ret ?_
      refine r_then ?_
      refine leave_ret (res_two (v := .slice none 0 0) (u := .int .i64 5) rfl (.mk rfl rfl) (.mk rfl rfl)) ?_
      have e4 : ((bs.length : Int) - 4).toNat = bs.length - 4 := by omega
      rw [e4, four_eq (by omega)] at hc12
      rw [openL_bad (by omega) (of_decide_eq_false hc12)]
      exact ⟨_, rfl, RowOk.nil 1, (hs11).rowNil 5 1⟩

set_option maxHeartbeats 8000000 in
theorem ropen_spec {H : Hp} {w : World} {L : List Res} (hs : St H w L) {A : Option Addr} {n c : Nat} {bs : List Nat} (hp : Bs H A n c bs) (hn : n ≤ 140737488355320) : Calls Try.prog 14 #[.slice A n c] w (fun e w' => ∃ A' n' c', e = .returned (.tuple #[.slice A' n' c', .int .i64 (openL bs).2]) ∧ Bs H A' n' c' (openL bs).1 ∧ St H w' L) := by
  obtain rfl := hp.len
  refine enter (args := [.slice A bs.length c]) (N := 22) Try.func14 rfl rfl rfl ?_
  have hle := hp.le
  refine c_seq ?_
  refine c_region ?_
  refine st (v := .slice none 0 0) (x_assign .const) ?_
  refine st (v := .int .i64 0) (x_assign .const) ?_
  refine c_nil ?_
  refine n_then ?_
  refine c_seq ?_
  refine c_seq ?_
  refine c_region ?_
  refine st (v := .slice A bs.length c) (x_move (.tmp rfl rfl)) ?_
  refine st (v := .int .i64 ((bs.length : Nat) : Int)) (x_len (n := bs.length) Try.underlying22 (.tmp rfl rfl)) ?_
  refine st (v := .bool (decide ((((bs.length : Nat) : Int) : Int) < 4))) (x_lss (k := .i64) (a := ((bs.length : Nat) : Int)) (b := 4) (.tmp rfl rfl) .const) ?_
  refine c_nil ?_
  refine n_then ?_
  rcases Bool.eq_false_or_eq_true (decide ((((bs.length : Nat) : Int) : Int) < 4)) with hc1 | hc1
  · have hp1 : (((bs.length : Nat) : Int) : Int) < 4 := of_decide_eq_true hc1
    refine c_cond_t (t := true) (.tmp rfl (congrArg Value.bool hc1)) rfl ?_
    refine c_seq ?_
    refine c_region ?_
    refine st (v := .slice none 0 0) (x_assign .const) ?_
    refine st (v := .int .i64 3) (x_assign .const) ?_
    refine c_nil ?_
    refine n_then ?_
    refine c_ret ?_
    refine r_then ?_
    refine leave_ret (res_two (v := .slice none 0 0) (u := .int .i64 3) rfl (.mk rfl rfl) (.mk rfl rfl)) ?_
    rw [openL_short (by omega)]
    exact ⟨_, _, _, rfl, Bs.nil H none, hs⟩
  · have hp1 : ¬ ((((bs.length : Nat) : Int) : Int) < 4) := of_decide_eq_false hc1
    refine c_cond_f (t := false) (.tmp rfl (congrArg Value.bool hc1)) rfl ?_
    refine c_skip ?_
    refine n_then ?_
    refine c_seq ?_
    refine c_region ?_
    refine st (v := .slice A bs.length c) (x_move (.tmp rfl rfl)) ?_
    refine st (v := .int .i64 ((bs.length : Nat) : Int)) (x_len (n := bs.length) Try.underlying22 (.tmp rfl rfl)) ?_
    refine st (v := .int .i64 (((bs.length : Nat) : Int) - 4)) (x_sub (k := .i64) (a := ((bs.length : Nat) : Int)) (b := 4) (.tmp rfl rfl) .const (w64 (by omega) (by omega))) ?_
    refine st (v := .int .i64 (((bs.length : Nat) : Int) - 4)) (x_assign (.tmp rfl rfl)) ?_
    refine c_nil ?_
    refine n_then ?_
    refine c_seq ?_
    refine c_seq ?_
    refine s_region (L := L) (L' := L) none [(0, true), (1, true), (2, true), (5, true), (6, true), (3, false), (4, true), (7, true)] mixed hs (fun u hu => hu) (by kernel_rfl) ?_
    intro w2 hs3
    refine s_st (k := 0) (v := .slice A bs.length c) rfl (fun w hs => (x_move (.tmp rfl rfl))) ?_
    refine s_st (k := 1) (v := .int .i64 (((bs.length : Nat) : Int) - 4)) rfl (fun w hs => (x_move (.tmp rfl rfl))) ?_
    have := hp.le
    refine s_st (k := 2) (v := .slice A ((((bs.length : Nat) : Int) - 4).toNat) c) rfl (fun w hs => (bs_h Try.underlying22 inf5 (a := (((bs.length : Nat) : Int) - 4)) (.tmp rfl rfl) (.tmp rfl rfl) (by omega) (by omega))) ?_
    refine s_st (k := 5) (v := .slice A bs.length c) rfl (fun w hs => (x_move (.tmp rfl rfl))) ?_
    refine s_st (k := 6) (v := .string (bstr bs)) rfl (fun w hs => (hp.str Try.underlying22 Try.underlying5 Try.underlying9 hs (.tmp rfl rfl))) ?_
    refine s_eff (k := 3) rfl ?_
    refine st_c cb15 .func (evs1 (.tmp rfl rfl)) (rseal_spec hs3 (hp.take (k := (((bs.length : Nat) : Int) - 4).toNat) (by omega)) (by omega)) ?_
    rintro e w5 ⟨v4, rfl, ok6, hs7⟩
    refine ⟨_, rfl, ?_⟩
    refine s_on (S' := fun u => St H u (row 5 1 v4 (((((bs.length : Nat) : Int) - 4).toNat) + 4) ((seal_ (bs.take ((((bs.length : Nat) : Int) - 4).toNat))).map encB) :: L)) (fun u hu => hu.drop) hs7 ?_
    refine s_st (k := 4) (v := .string (bstr (seal_ (bs.take ((((bs.length : Nat) : Int) - 4).toNat))))) rfl (fun w hs => (hs.rowStr Try.underlying22 Try.underlying5 Try.underlying9 0 rfl ok6 (.tmp rfl rfl))) ?_
    refine s_st (k := 7) (v := .bool (!decide ((bstr (seal_ (bs.take ((((bs.length : Nat) : Int) - 4).toNat)))) = (bstr bs)))) rfl (fun w hs => (x_neqS (.tmp rfl rfl) (.tmp rfl rfl))) ?_
    refine s_nil ?_
    refine n_then ?_
    rcases Bool.eq_false_or_eq_true (decide ((bstr (seal_ (bs.take ((((bs.length : Nat) : Int) - 4).toNat)))) = (bstr bs))) with hc9 | hc9
    · have hp9 : (bstr (seal_ (bs.take ((((bs.length : Nat) : Int) - 4).toNat)))) = (bstr bs) := of_decide_eq_true hc9
      refine c_cond_f (t := false) (.tmp rfl (congrArg Value.bool (by rw [hc9]; rfl))) rfl ?_
      refine c_skip ?_
      refine n_then ?_
      refine c_seq ?_
      refine c_region ?_
      refine st (v := .slice A bs.length c) (x_move (.tmp rfl rfl)) ?_
      refine st (v := .int .i64 (((bs.length : Nat) : Int) - 4)) (x_move (.tmp rfl rfl)) ?_
      have := hp.le
      refine st (v := .slice A ((((bs.length : Nat) : Int) - 4).toNat) c) (bs_h Try.underlying22 inf5 (a := (((bs.length : Nat) : Int) - 4)) (.tmp rfl rfl) (.tmp rfl rfl) (by omega) (by omega)) ?_
      refine st (v := .slice A ((((bs.length : Nat) : Int) - 4).toNat) c) (x_assign (.tmp rfl rfl)) ?_
      refine st (v := .int .i64 0) (x_assign .const) ?_
      refine c_nil ?_
      refine n_then ?_
      refine c_ret ?_
      refine leave_ret (res_two (v := .slice A ((((bs.length : Nat) : Int) - 4).toNat) c) (u := .int .i64 0) rfl (.mk rfl rfl) (.mk rfl rfl)) ?_
      have e4 : ((bs.length : Int) - 4).toNat = bs.length - 4 := by omega
      rw [e4] at hc9
      rw [openL_good (by omega) ((bstr_inj (seal_small (hp.lt.take _)) hp.lt).1 (of_decide_eq_true hc9)).symm, ← e4]
      exact ⟨_, _, _, rfl, (hp.take (k := (((bs.length : Nat) : Int) - 4).toNat) (by omega)), hs7.drop⟩
    · have hp9 : ¬ ((bstr (seal_ (bs.take ((((bs.length : Nat) : Int) - 4).toNat)))) = (bstr bs)) := of_decide_eq_false hc9
      refine c_cond_t (t := true) (.tmp rfl (congrArg Value.bool (by rw [hc9]; rfl))) rfl ?_
      refine c_seq ?_
      refine c_region ?_
      refine st (v := .slice none 0 0) (x_assign .const) ?_
      refine st (v := .int .i64 5) (x_assign .const) ?_
      refine c_nil ?_
      refine n_then ?_
      refine c_ret ?_
      refine r_then ?_
      refine leave_ret (res_two (v := .slice none 0 0) (u := .int .i64 5) rfl (.mk rfl rfl) (.mk rfl rfl)) ?_
      have e4 : ((bs.length : Int) - 4).toNat = bs.length - 4 := by omega
      rw [e4] at hc9
      rw [openL_bad (by omega) (fun e => of_decide_eq_false hc9 ((bstr_inj (seal_small (hp.lt.take _)) hp.lt).2 e.symm))]
      exact ⟨_, _, _, rfl, Bs.nil H none, hs7.drop⟩

end Go.Proofs.Ytmjgphaobdplcaa
