/- Steps of the proofs over the functions of this seat, printed by a program (gen.py) and checked by Lean. -/
import Derived.Test.YtmjgphaobdplcaaUty
import Derived.Test.YtmjgphaobdplcaaFmM2
import Derived.Test.YtmjgphaobdplcaaFmS2
import Derived.Test.YtmjgphaobdplcaaFmG
import Derived.Test.YtmjgphaobdplcaaFmP
import Derived.Test.YtmjgphaobdplcaaFmM2c
import Derived.Test.YtmjgphaobdplcaaU2e
import Derived.Test.YtmjgphaobdplcaaFmM2d
set_option linter.unusedVariables false
set_option linter.unusedSimpArgs false
namespace Go.Proofs.Ytmjgphaobdplcaa
open Go Go.FM Go.Proofs
attribute [local irreducible] wpList wpQuiet wpS Code.wp Calls
set_option maxHeartbeats 8000000 in
theorem ruintf_spec {H : Hp} {w : World} {L : List Res} (hs : St H w L) (m : Nat) (b_m : m < 18446744073709551616) : Calls Try.prog 29 #[.int .u64 ((m : Nat) : Int)] w (fun e w' => ∃ v', e = .returned v' ∧ RowOk 1 v' (uenc m).length ((uenc m).map encB) ∧ St H w' (row 5 1 v' (uenc m).length ((uenc m).map encB) :: L)) := by
  refine enter (args := [.int .u64 ((m : Nat) : Int)]) (N := 20) Try.func29 rfl rfl rfl ?_
  have h10 := uenc_len10 b_m
  refine c_seq ?_
  refine c_region ?_
  refine st (v := .slice none 0 0) (x_assign .const) ?_
  refine c_nil ?_
  refine n_then ?_
  refine c_seq ?_
  refine c_region ?_
  refine st (v := .slice none 0 0) (x_assign .const) ?_
  refine c_nil ?_
  refine n_then ?_
  refine c_seq ?_
  refine c_block ?_
  have hs0 := hs.rowNil 5 1
  refine c_loop (fun ρ w mm => ∃ (r : Nat) (u : Value) (k : Nat) (q : List Nat), ρ 0 = .int .u64 ((r : Nat) : Int) ∧ ρ 3 = u ∧ (r < 18446744073709551616) ∧ (uenc m = q ++ uenc r) ∧ (k + (uenc r).length = (uenc m).length) ∧ (Small q) ∧ (RowOk 1 u k (q.map encB)) ∧ St H w (row 5 1 u k (q.map encB) :: L) ∧ mm = r + 1) _ ⟨m, (.slice none 0 0), 0, [], rfl, rfl, b_m, rfl, (by omega), Small.nil, (RowOk.nil 1), hs0, rfl⟩ ?_
  rintro ρ w mm ⟨r, u, k, q, hρ2, hρ3, hr, hm, hk, hq, ok2, hs4, rfl⟩
  refine c_seq ?_
  refine c_seq ?_
  refine c_region ?_
  refine st (v := .int .u64 ((r : Nat) : Int)) (x_move (.tmp rfl hρ2)) ?_
  refine st (v := .bool (decide ((127 : Int) < ((r : Nat) : Int)))) (x_gtr (k := .u64) (a := ((r : Nat) : Int)) (b := 127) (.tmp rfl rfl) .const) ?_
  refine c_nil ?_
  refine n_then ?_
  rcases Bool.eq_false_or_eq_true (decide ((127 : Int) < ((r : Nat) : Int))) with hc5 | hc5
  · have hp5 : (127 : Int) < ((r : Nat) : Int) := of_decide_eq_true hc5
    refine c_cond_t (t := true) (.tmp rfl (congrArg Value.bool hc5)) rfl ?_
    refine c_skip ?_
    refine n_then ?_
    refine c_block ?_
    refine c_seq ?_
    refine c_region ?_
    have hb1 : ¬ r < 128 := by omega
    have hk1 : (uenc r).length = (uenc (r / 128)).length + 1 := by rw [uenc_big hb1]; rfl
    have hb2 : r / 128 < r := by omega
    refine st (v := u) (x_move (.tmp rfl hρ3)) ?_
    refine st (v := .int .u64 ((r : Nat) : Int)) (x_move (.tmp rfl hρ2)) ?_
    refine st (v := .int .u64 (((r % 128) : Nat) : Int)) (x_remN (k := .u64) (m := r) (n := 128) (.tmp rfl rfl) .const (by omega)) ?_
    refine st (v := .int .u8 ((((r % 128) % 256) : Nat) : Int)) (x_conv (k := .u64) (a := (((r % 128) : Nat) : Int)) Try.underlying37 Try.underlying5 (.tmp rfl rfl) (wrapN _ rfl _)) ?_
    have hb6 : (((r % 128) % 256) + 128) < 256 := by omega
    refine st (v := .int .u8 (((((r % 128) % 256) + 128) : Nat) : Int)) (x_add (k := .u8) (a := ((((r % 128) % 256) : Nat) : Int)) (b := 128) (.tmp rfl rfl) .const (wU rfl (by omega) hb6)) ?_
    refine st_m (m_lit (n := 1) (ps := [(0, .int .u8 (((((r % 128) % 256) + 128) : Nat) : Int))]) (cs := [.int .u8 (((((r % 128) % 256) + 128) : Nat) : Int)]) Try.underlying22 inf5 (.cons (.tmp rfl rfl) Evp.nil) (by decide) (by decide) rfl rfl hs4) ?_
    rintro _ w8 ⟨g7, rfl, hs10⟩
    have hs11 : St H _ (row 5 1 u k (q.map encB) :: obj g7 5 [.int .u8 (((((r % 128) % 256) + 128) : Nat) : Int)] :: L) := hs10.pick 1 rfl rfl
    refine st_m (m_appAt (bs := [(((r % 128) % 256) + 128)]) Try.underlying22 inf5 hs11 ok2 (.tmp rfl rfl) (.tmp rfl rfl) rfl (hs11.at_ 1 rfl 0 rfl) (by omega)) ?_
    rintro v12 w13 ⟨ok14, hs15⟩
    refine st (v := v12) (x_assign (.tmp rfl rfl)) ?_
    refine c_nil ?_
    refine n_then ?_
    refine c_region ?_
    refine st (v := .int .u64 ((r : Nat) : Int)) (x_move (.tmp rfl hρ2)) ?_
    refine st (v := .int .u64 (((r / 128) : Nat) : Int)) (x_quoN (k := .u64) (m := r) (n := 128) (.tmp rfl rfl) .const (by omega) (.inr ⟨rfl, show _ < 2 ^ 64 from hr⟩)) ?_
    refine st (v := .int .u64 (((r / 128) : Nat) : Int)) (x_assign (.tmp rfl rfl)) ?_
    refine c_nil ?_
    refine n_block ?_
    have e7 : r % 128 % 256 + 128 = r % 128 + 128 := by omega
    refine n_then ⟨_, _, rfl, ?_, (r / 128), v12, (k + 1), (q ++ [(((r % 128) % 256) + 128)]), rfl, rfl, (Nat.lt_of_le_of_lt (Nat.div_le_self _ _) hr), (by rw [uenc_big hb1] at hm; rw [hm, e7]; simp), (by have := hk1; omega), (hq.append (Small.cons hb6 Small.nil)), ok14, (hs15.pick 1 rfl rfl).drop, rfl⟩
    exact Nat.succ_lt_succ hb2
  · have hp5 : ¬ ((127 : Int) < ((r : Nat) : Int)) := of_decide_eq_false hc5
    refine c_cond_f (t := false) (.tmp rfl (congrArg Value.bool hc5)) rfl ?_
    refine c_exit ?_
    refine x_then ?_
    refine x_then ?_
    refine x_here ?_
    refine n_then ?_
    refine c_seq ?_
    refine c_region ?_
    have hb1 : r < 128 := by omega
    have hk1 : (uenc r).length = 1 := by rw [uenc_one hb1]; rfl
    refine st (v := u) (x_move (.tmp rfl hρ3)) ?_
    refine st (v := .int .u64 ((r : Nat) : Int)) (x_move (.tmp rfl hρ2)) ?_
    refine st (v := .int .u8 (((r % 256) : Nat) : Int)) (x_conv (k := .u64) (a := ((r : Nat) : Int)) Try.underlying37 Try.underlying5 (.tmp rfl rfl) (wrapN _ rfl _)) ?_
    refine st_m (m_lit (n := 1) (ps := [(0, .int .u8 (((r % 256) : Nat) : Int))]) (cs := [.int .u8 (((r % 256) : Nat) : Int)]) Try.underlying22 inf5 (.cons (.tmp rfl rfl) Evp.nil) (by decide) (by decide) rfl rfl hs4) ?_
    rintro _ w17 ⟨g16, rfl, hs19⟩
    have hs20 : St H _ (row 5 1 u k (q.map encB) :: obj g16 5 [.int .u8 (((r % 256) : Nat) : Int)] :: L) := hs19.pick 1 rfl rfl
    refine st_m (m_appAt (bs := [(r % 256)]) Try.underlying22 inf5 hs20 ok2 (.tmp rfl rfl) (.tmp rfl rfl) rfl (hs20.at_ 1 rfl 0 rfl) (by omega)) ?_
    rintro v21 w22 ⟨ok23, hs24⟩
    refine st (v := v21) (x_assign (.tmp rfl rfl)) ?_
    refine c_nil ?_
    refine n_then ?_
    refine c_ret ?_
    refine leave_ret (res_one (v := v21) rfl (.mk rfl rfl)) ?_
    have hmod : r % 256 = r := by omega
    have e1 : uenc m = q ++ [r % 256] := by rw [hm, uenc_one hb1, hmod]
    have e2 : (uenc m).length = k + 1 := by omega
    rw [e2, e1]
    exact ⟨_, rfl, ok23, (hs24.pick 1 rfl rfl).drop⟩

set_option maxHeartbeats 8000000 in
theorem ruint_pos {H : Hp} {w : World} {L : List Res} {g : Nat} {A : Option Addr} {n c : Nat} {bs : List Nat} (hp : Bs H A n c bs) (hn : n ≤ 140737488355320) (k : Nat) (hk : k ≤ n) (hs : St H w (obj g 50 [.slice A n c, .int .i64 ((k : Nat) : Int)] :: L)) : Calls Try.prog 23 #[.pointer (some ⟨g, 0, none⟩)] w (fun e w' => ∃ at', e = .returned (.int .u64 (((rdU (bs.drop k) false).1 : Nat) : Int)) ∧ Rr n bs (rdU (bs.drop k) false).2.1 (rdU (bs.drop k) false).2.2 at' ∧ St H w' (obj g 50 [.slice A n c, .int .i64 at'] :: L)) := by
  refine enter (args := [.pointer (some ⟨g, 0, none⟩)]) (N := 85) Try.func23 rfl rfl rfl ?_
  have hle := hp.le
  have hlen := hp.len
  have hmx : c ≤ 9223372036854775807 := hp.max
  have hsz : n ≤ 140737488355320 := hn
  refine c_seq ?_
  refine c_region ?_
  refine st (v := .int .u64 0) (x_assign .const) ?_
  refine c_nil ?_
  refine n_then ?_
  refine c_seq ?_
  refine c_seq ?_
  refine c_region ?_
  refine st (v := .pointer (some ⟨g, 0, none⟩)) (x_move (.tmp rfl rfl)) ?_
  refine st (v := .pointer (some ⟨g, 0, none⟩)) (x_nilCheck (.tmp rfl rfl)) ?_
  refine st (v := .pointer (some ⟨g, 0 + 1, none⟩)) (fa50_1 (.tmp rfl rfl)) ?_
  refine st (v := .int .i64 ((k : Nat) : Int)) (ld3 (.tmp rfl rfl) (hs.cell 0 rfl (0 + 1) rfl)) ?_
  refine st (v := .bool (decide ((((k : Nat) : Int) : Int) < 0))) (x_lss (k := .i64) (a := ((k : Nat) : Int)) (b := 0) (.tmp rfl rfl) .const) ?_
  refine c_nil ?_
  refine n_then ?_
  have hc1 : (decide ((((k : Nat) : Int) : Int) < 0)) = false := (decide_eq_false (by omega))
  refine c_cond_f (t := false) (.tmp rfl (congrArg Value.bool hc1)) rfl ?_
  refine c_skip ?_
  refine n_then ?_
  refine c_seq ?_
  refine c_region ?_
  refine st (v := .int .u64 0) (x_assign .const) ?_
  refine c_nil ?_
  refine n_then ?_
  refine c_seq ?_
  refine c_seq ?_
  refine c_region ?_
  refine st (v := .int .i64 0) (x_assign .const) ?_
  refine c_nil ?_
  refine n_then ?_
  refine c_block ?_
  refine c_loop (fun ρ w mm => ∃ (i : Nat) (a : Nat), ρ 0 = .pointer (some ⟨g, 0, none⟩) ∧ ρ 3 = .int .u64 ((a : Nat) : Int) ∧ ρ 4 = .int .i64 ((i : Nat) : Int) ∧ (i ≤ 10) ∧ (k + i ≤ n) ∧ (a < 18446744073709551616) ∧ (a = pv ((bs.drop k).take i) % 18446744073709551616) ∧ (∀ b ∈ (bs.drop k).take i, 128 ≤ b) ∧ St H w (obj g 50 [.slice A n c, .int .i64 ((k : Nat) : Int)] :: L) ∧ mm = 10 - i) _ ⟨0, 0, rfl, rfl, rfl, (by omega), (by omega), (by decide), rfl, (fun b hb => absurd hb (by simp)), hs, rfl⟩ ?_
  rintro ρ w mm ⟨i, a, hρ3, hρ4, hρ5, hi, hki, ha, hacc, h128, hs6, rfl⟩
  refine c_seq ?_
  refine c_seq ?_
  refine q_region mixed hs6 (by kernel_rfl) ?_
  refine q_st (v := .int .i64 ((i : Nat) : Int)) (fun w hs => (x_move (.tmp rfl hρ5))) ?_
  refine q_st (v := .bool (decide ((((i : Nat) : Int) : Int) < 10))) (fun w hs => (x_lss (k := .i64) (a := ((i : Nat) : Int)) (b := 10) (.tmp rfl rfl) .const)) ?_
  refine q_st (v := .bool (decide ((((i : Nat) : Int) : Int) < 10))) (fun w hs => (x_move (.tmp rfl rfl))) ?_
  rcases Bool.eq_false_or_eq_true (decide ((((i : Nat) : Int) : Int) < 10)) with hc7 | hc7
  · have hp7 : (((i : Nat) : Int) : Int) < 10 := of_decide_eq_true hc7
    refine q_yes (yl (dj := 13) (b := true) rfl rfl (congrArg Value.bool hc7)) ?_
    refine q_st (v := .pointer (some ⟨g, 0, none⟩)) (fun w hs => (x_move (.tmp rfl hρ3))) ?_
    refine q_yes (yl (dj := 13) (b := true) rfl rfl (congrArg Value.bool hc7)) ?_
    refine q_st (v := .pointer (some ⟨g, 0, none⟩)) (fun w hs => (x_nilCheck (.tmp rfl rfl))) ?_
    refine q_yes (yl (dj := 13) (b := true) rfl rfl (congrArg Value.bool hc7)) ?_
    refine q_st (v := .pointer (some ⟨g, 0 + 1, none⟩)) (fun w hs => (fa50_1 (.tmp rfl rfl))) ?_
    refine q_yes (yl (dj := 13) (b := true) rfl rfl (congrArg Value.bool hc7)) ?_
    refine q_st (v := .int .i64 ((k : Nat) : Int)) (fun w hs => (ld3 (.tmp rfl rfl) (hs.cell 0 rfl (0 + 1) rfl))) ?_
    refine q_yes (yl (dj := 13) (b := true) rfl rfl (congrArg Value.bool hc7)) ?_
    refine q_st (v := .int .i64 ((i : Nat) : Int)) (fun w hs => (x_move (.tmp rfl hρ5))) ?_
    refine q_yes (yl (dj := 13) (b := true) rfl rfl (congrArg Value.bool hc7)) ?_
    refine q_st (v := .int .i64 (((k + i) : Nat) : Int)) (fun w hs => (x_add (k := .i64) (a := ((k : Nat) : Int)) (b := ((i : Nat) : Int)) (.tmp rfl rfl) (.tmp rfl rfl) ((w64 (by omega) (by omega)).trans (by omega)))) ?_
    refine q_yes (yl (dj := 13) (b := true) rfl rfl (congrArg Value.bool hc7)) ?_
    refine q_st (v := .pointer (some ⟨g, 0, none⟩)) (fun w hs => (x_move (.tmp rfl hρ3))) ?_
    refine q_yes (yl (dj := 13) (b := true) rfl rfl (congrArg Value.bool hc7)) ?_
    refine q_st (v := .pointer (some ⟨g, 0, none⟩)) (fun w hs => (x_nilCheck (.tmp rfl rfl))) ?_
    refine q_yes (yl (dj := 13) (b := true) rfl rfl (congrArg Value.bool hc7)) ?_
    refine q_st (v := .pointer (some ⟨g, 0 + 0, none⟩)) (fun w hs => (fa50_0 (.tmp rfl rfl))) ?_
    refine q_yes (yl (dj := 13) (b := true) rfl rfl (congrArg Value.bool hc7)) ?_
    refine q_st (v := .slice A n c) (fun w hs => (ld22 (.tmp rfl rfl) (hs.cell 0 rfl (0 + 0) rfl))) ?_
    refine q_yes (yl (dj := 13) (b := true) rfl rfl (congrArg Value.bool hc7)) ?_
    refine q_st (v := .int .i64 ((n : Nat) : Int)) (fun w hs => (x_len (n := n) Try.underlying22 (.tmp rfl rfl))) ?_
    refine q_yes (yl (dj := 13) (b := true) rfl rfl (congrArg Value.bool hc7)) ?_
    refine q_st (v := .bool (decide (((((k + i) : Nat) : Int) : Int) < ((n : Nat) : Int)))) (fun w hs => (x_lss (k := .i64) (a := (((k + i) : Nat) : Int)) (b := ((n : Nat) : Int)) (.tmp rfl rfl) (.tmp rfl rfl))) ?_
    refine q_st (v := .bool (decide (((((k + i) : Nat) : Int) : Int) < ((n : Nat) : Int)))) (fun w hs => (x_pick_t (.tmp rfl (congrArg Value.bool hc7)) (.tmp rfl rfl))) ?_
    refine q_nil ?_
    intro w hs8
    refine n_then ?_
    rcases Bool.eq_false_or_eq_true (decide (((((k + i) : Nat) : Int) : Int) < ((n : Nat) : Int))) with hc9 | hc9
    · have hp9 : ((((k + i) : Nat) : Int) : Int) < ((n : Nat) : Int) := of_decide_eq_true hc9
      refine c_cond_t (t := true) (.tmp rfl (congrArg Value.bool hc9)) rfl ?_
      refine c_skip ?_
      refine n_then ?_
      refine c_seq ?_
      refine c_block ?_
      refine c_seq ?_
      refine q_region mixed hs8 (by kernel_rfl) ?_
      refine q_st (v := .pointer (some ⟨g, 0, none⟩)) (fun w hs => (x_move (.tmp rfl hρ3))) ?_
      refine q_st (v := .pointer (some ⟨g, 0, none⟩)) (fun w hs => (x_nilCheck (.tmp rfl rfl))) ?_
      refine q_st (v := .pointer (some ⟨g, 0 + 0, none⟩)) (fun w hs => (fa50_0 (.tmp rfl rfl))) ?_
      refine q_st (v := .slice A n c) (fun w hs => (ld22 (.tmp rfl rfl) (hs.cell 0 rfl (0 + 0) rfl))) ?_
      refine q_st (v := .pointer (some ⟨g, 0, none⟩)) (fun w hs => (x_move (.tmp rfl hρ3))) ?_
      refine q_st (v := .pointer (some ⟨g, 0, none⟩)) (fun w hs => (x_nilCheck (.tmp rfl rfl))) ?_
      refine q_st (v := .pointer (some ⟨g, 0 + 1, none⟩)) (fun w hs => (fa50_1 (.tmp rfl rfl))) ?_
      refine q_st (v := .int .i64 ((k : Nat) : Int)) (fun w hs => (ld3 (.tmp rfl rfl) (hs.cell 0 rfl (0 + 1) rfl))) ?_
      refine q_st (v := .int .i64 ((i : Nat) : Int)) (fun w hs => (x_move (.tmp rfl hρ5))) ?_
      refine q_st (v := .int .i64 (((k + i) : Nat) : Int)) (fun w hs => (x_add (k := .i64) (a := ((k : Nat) : Int)) (b := ((i : Nat) : Int)) (.tmp rfl rfl) (.tmp rfl rfl) ((w64 (by omega) (by omega)).trans (by omega)))) ?_
      obtain ⟨b10, o11, hA12, hc13⟩ := hp.get (i := (k + i)) (by omega)
      refine q_st (v := .pointer (some ⟨b10, (o11 + (k + i) * 1), none⟩)) (fun w hs => (ixo22 (.tmp rfl rfl) hA12 (i := (((k + i) : Nat) : Int)) (.tmp rfl rfl) (by omega) (by omega) rfl)) ?_
      refine q_st (v := .int .u8 ((bs.getD (k + i) 0 : Nat) : Int)) (fun w hs => (ld5 (.tmp rfl rfl) (hc13 hs))) ?_
      have hb14 : (bs.getD (k + i) 0) < 18446744073709551616 := Nat.lt_of_lt_of_le (hp.lt.getD _) (by decide)
      refine q_st (v := .int .u64 (((bs.getD (k + i) 0) : Nat) : Int)) (fun w hs => (x_conv (k := .u8) (a := ((bs.getD (k + i) 0 : Nat) : Int)) Try.underlying5 Try.underlying37 (.tmp rfl rfl) (wU rfl rfl hb14))) ?_
      refine q_st (v := .int .u64 (((bs.getD (k + i) 0) : Nat) : Int)) (fun w hs => (x_assign (.tmp rfl rfl))) ?_
      refine q_nil ?_
      intro w hs15
      refine n_then ?_
      refine c_seq ?_
      refine c_region ?_
      refine st (v := .int .u64 ((a : Nat) : Int)) (x_move (.tmp rfl hρ4)) ?_
      refine st (v := .int .u64 (((bs.getD (k + i) 0) : Nat) : Int)) (x_move (.tmp rfl rfl)) ?_
      refine st (v := .int .u64 ((((bs.getD (k + i) 0) % 128) : Nat) : Int)) (x_remN (k := .u64) (m := (bs.getD (k + i) 0)) (n := 128) (.tmp rfl rfl) .const (by omega)) ?_
      refine st (v := .int .i64 ((i : Nat) : Int)) (x_move (.tmp rfl hρ5)) ?_
      refine st (v := .int .i64 (((7 * i) : Nat) : Int)) (x_mul (k := .i64) (a := 7) (b := ((i : Nat) : Int)) .const (.tmp rfl rfl) ((w64 (by omega) (by omega)).trans (by omega))) ?_
      have hb16 : (((bs.getD (k + i) 0) % 128) * 2 ^ (7 * i) % 18446744073709551616) < 18446744073709551616 := Nat.mod_lt _ (by decide)
      refine st (v := .int .u64 (((((bs.getD (k + i) 0) % 128) * 2 ^ (7 * i) % 18446744073709551616) : Nat) : Int)) (x_shl (k := .u64) (m := ((bs.getD (k + i) 0) % 128)) (b := (((7 * i) : Nat) : Int)) rfl (.tmp rfl rfl) (.tmp rfl rfl) (by omega)) ?_
      refine st (v := .int .u64 ((((a + (((bs.getD (k + i) 0) % 128) * 2 ^ (7 * i) % 18446744073709551616)) % 18446744073709551616) : Nat) : Int)) (x_add (k := .u64) (a := ((a : Nat) : Int)) (b := (((((bs.getD (k + i) 0) % 128) * 2 ^ (7 * i) % 18446744073709551616) : Nat) : Int)) (.tmp rfl rfl) (.tmp rfl rfl) (wAddN (m := a) (n := (((bs.getD (k + i) 0) % 128) * 2 ^ (7 * i) % 18446744073709551616)) _ rfl rfl rfl)) ?_
      refine st (v := .int .u64 ((((a + (((bs.getD (k + i) 0) % 128) * 2 ^ (7 * i) % 18446744073709551616)) % 18446744073709551616) : Nat) : Int)) (x_assign (.tmp rfl rfl)) ?_
      refine c_nil ?_
      refine n_then ?_
      refine c_seq ?_
      refine c_seq ?_
      refine c_region ?_
      refine st (v := .int .u64 (((bs.getD (k + i) 0) : Nat) : Int)) (x_move (.tmp rfl rfl)) ?_
      refine st (v := .bool (decide ((127 : Int) < (((bs.getD (k + i) 0) : Nat) : Int)))) (x_gtr (k := .u64) (a := (((bs.getD (k + i) 0) : Nat) : Int)) (b := 127) (.tmp rfl rfl) .const) ?_
      refine c_nil ?_
      refine n_then ?_
      rcases Bool.eq_false_or_eq_true (decide ((127 : Int) < (((bs.getD (k + i) 0) : Nat) : Int))) with hc17 | hc17
      · have hp17 : (127 : Int) < (((bs.getD (k + i) 0) : Nat) : Int) := of_decide_eq_true hc17
        refine c_cond_t (t := true) (.tmp rfl (congrArg Value.bool hc17)) rfl ?_
        refine c_exit ?_
        refine x_then ?_
        refine x_here ?_
        refine n_then ?_
        refine c_region ?_
        refine st (v := .int .i64 ((i : Nat) : Int)) (x_move (.tmp rfl hρ5)) ?_
        refine st (v := .int .i64 (((i + 1) : Nat) : Int)) (x_add (k := .i64) (a := ((i : Nat) : Int)) (b := 1) (.tmp rfl rfl) .const ((w64 (by omega) (by omega)).trans (by omega))) ?_
        refine st (v := .int .i64 (((i + 1) : Nat) : Int)) (x_assign (.tmp rfl rfl)) ?_
        refine c_nil ?_
        have hgd := getD_drop' bs k i
        have hcl : i < (bs.drop k).length := by rw [List.length_drop]; omega
        refine n_then ⟨_, _, rfl, ?_, (i + 1), ((a + (((bs.getD (k + i) 0) % 128) * 2 ^ (7 * i) % 18446744073709551616)) % 18446744073709551616), hρ3, rfl, rfl, (by omega), (by omega), (Nat.mod_lt _ (by decide)), (by rw [← hgd]; exact pv_next hcl hacc), (high_next hcl h128 (by omega)), hs15, rfl⟩
        omega
      · have hp17 : ¬ ((127 : Int) < (((bs.getD (k + i) 0) : Nat) : Int)) := of_decide_eq_false hc17
        refine c_cond_f (t := false) (.tmp rfl (congrArg Value.bool hc17)) rfl ?_
        refine c_skip ?_
        refine n_then ?_
        refine c_seq ?_
        refine c_seq ?_
        refine s_region (L := obj g 50 [.slice A n c, .int .i64 ((k : Nat) : Int)] :: L) (L' := obj g 50 [.slice A n c, .int .i64 ((k : Nat) : Int)] :: L) none [(0, true), (3, true), (4, true), (5, true), (6, true), (7, true), (8, true), (9, true), (10, true), (11, true), (12, true), (13, true), (14, true), (15, true), (16, true), (17, true), (18, true), (19, true), (1, false), (2, true), (20, true)] mixed hs15 (fun u hu => hu) (by kernel_rfl) ?_
        intro w18 hs19
        refine s_st (k := 0) (v := .int .u64 ((((a + (((bs.getD (k + i) 0) % 128) * 2 ^ (7 * i) % 18446744073709551616)) % 18446744073709551616) : Nat) : Int)) rfl (fun w hs => (x_move (.tmp rfl rfl))) ?_
        refine s_st (k := 3) (v := .pointer (some ⟨g, 0, none⟩)) rfl (fun w hs => (x_move (.tmp rfl hρ3))) ?_
        refine s_st (k := 4) (v := .pointer (some ⟨g, 0, none⟩)) rfl (fun w hs => (x_nilCheck (.tmp rfl rfl))) ?_
        refine s_st (k := 5) (v := .pointer (some ⟨g, 0 + 0, none⟩)) rfl (fun w hs => (fa50_0 (.tmp rfl rfl))) ?_
        refine s_st (k := 6) (v := .slice A n c) rfl (fun w hs => (ld22 (.tmp rfl rfl) (hs.cell 0 rfl (0 + 0) rfl))) ?_
        refine s_st (k := 7) (v := .pointer (some ⟨g, 0, none⟩)) rfl (fun w hs => (x_move (.tmp rfl hρ3))) ?_
        refine s_st (k := 8) (v := .pointer (some ⟨g, 0, none⟩)) rfl (fun w hs => (x_nilCheck (.tmp rfl rfl))) ?_
        refine s_st (k := 9) (v := .pointer (some ⟨g, 0 + 1, none⟩)) rfl (fun w hs => (fa50_1 (.tmp rfl rfl))) ?_
        refine s_st (k := 10) (v := .int .i64 ((k : Nat) : Int)) rfl (fun w hs => (ld3 (.tmp rfl rfl) (hs.cell 0 rfl (0 + 1) rfl))) ?_
        refine s_st (k := 11) (v := .pointer (some ⟨g, 0, none⟩)) rfl (fun w hs => (x_move (.tmp rfl hρ3))) ?_
        refine s_st (k := 12) (v := .pointer (some ⟨g, 0, none⟩)) rfl (fun w hs => (x_nilCheck (.tmp rfl rfl))) ?_
        refine s_st (k := 13) (v := .pointer (some ⟨g, 0 + 1, none⟩)) rfl (fun w hs => (fa50_1 (.tmp rfl rfl))) ?_
        refine s_st (k := 14) (v := .int .i64 ((k : Nat) : Int)) rfl (fun w hs => (ld3 (.tmp rfl rfl) (hs.cell 0 rfl (0 + 1) rfl))) ?_
        refine s_st (k := 15) (v := .int .i64 ((i : Nat) : Int)) rfl (fun w hs => (x_move (.tmp rfl hρ5))) ?_
        refine s_st (k := 16) (v := .int .i64 (((k + i) : Nat) : Int)) rfl (fun w hs => (x_add (k := .i64) (a := ((k : Nat) : Int)) (b := ((i : Nat) : Int)) (.tmp rfl rfl) (.tmp rfl rfl) ((w64 (by omega) (by omega)).trans (by omega)))) ?_
        refine s_st (k := 17) (v := .int .i64 ((((k + i) + 1) : Nat) : Int)) rfl (fun w hs => (x_add (k := .i64) (a := (((k + i) : Nat) : Int)) (b := 1) (.tmp rfl rfl) .const ((w64 (by omega) (by omega)).trans (by omega)))) ?_
        have := hp.le
        refine s_st (k := 18) (v := .slice (cutA A c k 1) (((k + i) + 1) - k) (c - k)) rfl (fun w hs => (bs_lh Try.underlying22 inf5 (a := ((k : Nat) : Int)) (b := ((((k + i) + 1) : Nat) : Int)) (.tmp rfl rfl) (.tmp rfl rfl) (.tmp rfl rfl) (by omega) (by omega) (by omega))) ?_
        refine s_st (k := 19) (v := .string (bstr ((bs.take ((k + i) + 1)).drop k))) rfl (fun w hs => (((hp.take (k := ((k + i) + 1)) (by omega)).drop (k := k) (by omega)).str Try.underlying22 Try.underlying5 Try.underlying9 hs (.tmp rfl rfl))) ?_
        refine s_eff (k := 1) rfl ?_
        refine st_c cb29 .func (evs1 (.tmp rfl rfl)) (ruintf_spec hs19 ((a + (((bs.getD (k + i) 0) % 128) * 2 ^ (7 * i) % 18446744073709551616)) % 18446744073709551616) (Nat.mod_lt _ (by decide))) ?_
        rintro e w21 ⟨v20, rfl, ok22, hs23⟩
        refine ⟨_, rfl, ?_⟩
        refine s_on (S' := fun u => St H u (row 5 1 v20 ((uenc ((a + (((bs.getD (k + i) 0) % 128) * 2 ^ (7 * i) % 18446744073709551616)) % 18446744073709551616)).length) ((uenc ((a + (((bs.getD (k + i) 0) % 128) * 2 ^ (7 * i) % 18446744073709551616)) % 18446744073709551616)).map encB) :: obj g 50 [.slice A n c, .int .i64 ((k : Nat) : Int)] :: L)) (fun u hu => hu.drop) hs23 ?_
        refine s_st (k := 2) (v := .string (bstr (uenc ((a + (((bs.getD (k + i) 0) % 128) * 2 ^ (7 * i) % 18446744073709551616)) % 18446744073709551616)))) rfl (fun w hs => (hs.rowStr Try.underlying22 Try.underlying5 Try.underlying9 0 rfl ok22 (.tmp rfl rfl))) ?_
        refine s_st (k := 20) (v := .bool (!decide ((bstr (uenc ((a + (((bs.getD (k + i) 0) % 128) * 2 ^ (7 * i) % 18446744073709551616)) % 18446744073709551616))) = (bstr ((bs.take ((k + i) + 1)).drop k))))) rfl (fun w hs => (x_neqS (.tmp rfl rfl) (.tmp rfl rfl))) ?_
        refine s_nil ?_
        refine n_then ?_
        rcases Bool.eq_false_or_eq_true (decide ((bstr (uenc ((a + (((bs.getD (k + i) 0) % 128) * 2 ^ (7 * i) % 18446744073709551616)) % 18446744073709551616))) = (bstr ((bs.take ((k + i) + 1)).drop k)))) with hc25 | hc25
        · have hp25 : (bstr (uenc ((a + (((bs.getD (k + i) 0) % 128) * 2 ^ (7 * i) % 18446744073709551616)) % 18446744073709551616))) = (bstr ((bs.take ((k + i) + 1)).drop k)) := of_decide_eq_true hc25
          refine c_cond_f (t := false) (.tmp rfl (congrArg Value.bool (by rw [hc25]; rfl))) rfl ?_
          refine c_skip ?_
          refine n_then ?_
          refine c_seq ?_
          refine c_region ?_
          refine st (v := .pointer (some ⟨g, 0, none⟩)) (x_move (.tmp rfl hρ3)) ?_
          refine st (v := .pointer (some ⟨g, 0, none⟩)) (x_nilCheck (.tmp rfl rfl)) ?_
          refine st (v := .pointer (some ⟨g, 0 + 1, none⟩)) (fa50_1 (.tmp rfl rfl)) ?_
          refine st (v := .int .i64 ((k : Nat) : Int)) (ld3 (.tmp rfl rfl) (hs23.cell 1 rfl (0 + 1) rfl)) ?_
          refine st (v := .int .i64 ((i : Nat) : Int)) (x_move (.tmp rfl hρ5)) ?_
          refine st (v := .int .i64 (((i + 1) : Nat) : Int)) (x_add (k := .i64) (a := ((i : Nat) : Int)) (b := 1) (.tmp rfl rfl) .const ((w64 (by omega) (by omega)).trans (by omega))) ?_
          refine st (v := .int .i64 (((k + (i + 1)) : Nat) : Int)) (x_add (k := .i64) (a := ((k : Nat) : Int)) (b := (((i + 1) : Nat) : Int)) (.tmp rfl rfl) (.tmp rfl rfl) ((w64 (by omega) (by omega)).trans (by omega))) ?_
          refine st (v := .pointer (some ⟨g, 0, none⟩)) (x_nilCheck (.tmp rfl rfl)) ?_
          refine st (v := .pointer (some ⟨g, 0 + 1, none⟩)) (fa50_1 (.tmp rfl rfl)) ?_
          have hs26 : St H _ (obj g 50 [.slice A n c, .int .i64 ((k : Nat) : Int)] :: row 5 1 v20 ((uenc ((a + (((bs.getD (k + i) 0) % 128) * 2 ^ (7 * i) % 18446744073709551616)) % 18446744073709551616)).length) ((uenc ((a + (((bs.getD (k + i) 0) % 128) * 2 ^ (7 * i) % 18446744073709551616)) % 18446744073709551616)).map encB) :: L) := hs23.pick 1 rfl rfl
          refine st_m0 (sto3 (cs' := [.slice A n c, .int .i64 (((k + (i + 1)) : Nat) : Int)]) (i := 0 + 1) hs26 (v := .int .i64 (((k + (i + 1)) : Nat) : Int)) (.tmp rfl rfl) (.tmp rfl rfl) rfl (Nat.le_of_ble_eq_true rfl) one1 rfl) ?_
          rintro w27 hs29
          refine c_nil ?_
          refine n_then ?_
          refine c_seq ?_
          refine c_region ?_
          refine st (v := .int .u64 ((((a + (((bs.getD (k + i) 0) % 128) * 2 ^ (7 * i) % 18446744073709551616)) % 18446744073709551616) : Nat) : Int)) (x_move (.tmp rfl rfl)) ?_
          refine st (v := .int .u64 ((((a + (((bs.getD (k + i) 0) % 128) * 2 ^ (7 * i) % 18446744073709551616)) % 18446744073709551616) : Nat) : Int)) (x_assign (.tmp rfl rfl)) ?_
          refine c_nil ?_
          refine n_then ?_
          refine c_ret ?_
          refine r_block ?_
          refine r_then ?_
          refine r_then ?_
          refine r_block ?_
          refine r_then ?_
          refine leave_ret (res_one (v := .int .u64 ((((a + (((bs.getD (k + i) 0) % 128) * 2 ^ (7 * i) % 18446744073709551616)) % 18446744073709551616) : Nat) : Int)) rfl (.mk rfl rfl)) ?_
          have hcl : (bs.drop k).length = n - k := by rw [List.length_drop, hlen]
          have hgd := getD_drop' bs k i
          have hci : i < (bs.drop k).length := by omega
          have hue := uscan_end (hp.lt.drop k) hci (by omega) h128 (by omega)
          rw [← pv_next hci hacc, hgd] at hue
          have htd := take_drop' bs k (i + 1)
          have hsm : bstr (uenc ((a + (bs.getD (k + i) 0 % 128 * 2 ^ (7 * i) % 18446744073709551616)) % 18446744073709551616)) = bstr ((bs.drop k).take (i + 1)) ↔ _ := bstr_inj (uenc_small _) ((hp.lt.drop k).take _)
          rw [show k + i + 1 = k + (i + 1) from rfl, htd] at hc25
          rw [if_pos (hsm.1 (of_decide_eq_true hc25))] at hue
          rw [rdU_some hue]
          exact ⟨_, rfl, .inr ⟨rfl, k + (i + 1), by omega, by omega, by rw [List.drop_drop]⟩, (hs29.pick 1 rfl rfl).drop⟩
        · have hp25 : ¬ ((bstr (uenc ((a + (((bs.getD (k + i) 0) % 128) * 2 ^ (7 * i) % 18446744073709551616)) % 18446744073709551616))) = (bstr ((bs.take ((k + i) + 1)).drop k))) := of_decide_eq_false hc25
          refine c_cond_t (t := true) (.tmp rfl (congrArg Value.bool (by rw [hc25]; rfl))) rfl ?_
          refine c_exit ?_
          refine x_then ?_
          refine x_block rfl ?_
          refine x_then ?_
          refine x_then ?_
          refine x_here ?_
          refine n_then ?_
          refine c_seq ?_
          refine c_region ?_
          refine st (v := .pointer (some ⟨g, 0, none⟩)) (x_move (.tmp rfl hρ3)) ?_
          refine st (v := .pointer (some ⟨g, 0, none⟩)) (x_nilCheck (.tmp rfl rfl)) ?_
          refine st (v := .pointer (some ⟨g, 0 + 1, none⟩)) (fa50_1 (.tmp rfl rfl)) ?_
          have hs30 : St H _ (obj g 50 [.slice A n c, .int .i64 ((k : Nat) : Int)] :: row 5 1 v20 ((uenc ((a + (((bs.getD (k + i) 0) % 128) * 2 ^ (7 * i) % 18446744073709551616)) % 18446744073709551616)).length) ((uenc ((a + (((bs.getD (k + i) 0) % 128) * 2 ^ (7 * i) % 18446744073709551616)) % 18446744073709551616)).map encB) :: L) := hs23.pick 1 rfl rfl
          refine st_m0 (sto3 (cs' := [.slice A n c, .int .i64 (-1)]) (i := 0 + 1) hs30 (v := .int .i64 (-1)) (.tmp rfl rfl) .const rfl (Nat.le_of_ble_eq_true rfl) one1 rfl) ?_
          rintro w31 hs33
          refine c_nil ?_
          refine n_then ?_
          refine c_seq ?_
          refine c_region ?_
          refine st (v := .int .u64 0) (x_assign .const) ?_
          refine c_nil ?_
          refine n_then ?_
          refine c_ret ?_
          refine leave_ret (res_one (v := .int .u64 0) rfl (.mk rfl rfl)) ?_
          have hcl : (bs.drop k).length = n - k := by rw [List.length_drop, hlen]
          have hgd := getD_drop' bs k i
          have hci : i < (bs.drop k).length := by omega
          have hue := uscan_end (hp.lt.drop k) hci (by omega) h128 (by omega)
          rw [← pv_next hci hacc, hgd] at hue
          have htd := take_drop' bs k (i + 1)
          have hsm : bstr (uenc ((a + (bs.getD (k + i) 0 % 128 * 2 ^ (7 * i) % 18446744073709551616)) % 18446744073709551616)) = bstr ((bs.drop k).take (i + 1)) ↔ _ := bstr_inj (uenc_small _) ((hp.lt.drop k).take _)
          rw [show k + i + 1 = k + (i + 1) from rfl, htd] at hc25
          rw [if_neg (fun h => of_decide_eq_false hc25 (hsm.2 h))] at hue
          rw [rdU_none hue]
          exact ⟨_, rfl, .inl ⟨rfl, rfl⟩, (hs33.pick 1 rfl rfl).drop⟩
    · have hp9 : ¬ (((((k + i) : Nat) : Int) : Int) < ((n : Nat) : Int)) := of_decide_eq_false hc9
      refine c_cond_f (t := false) (.tmp rfl (congrArg Value.bool hc9)) rfl ?_
      refine c_exit ?_
      refine x_then ?_
      refine x_then ?_
      refine x_here ?_
      refine n_then ?_
      refine c_seq ?_
      refine c_region ?_
      refine st (v := .pointer (some ⟨g, 0, none⟩)) (x_move (.tmp rfl hρ3)) ?_
      refine st (v := .pointer (some ⟨g, 0, none⟩)) (x_nilCheck (.tmp rfl rfl)) ?_
      refine st (v := .pointer (some ⟨g, 0 + 1, none⟩)) (fa50_1 (.tmp rfl rfl)) ?_
      refine st_m0 (sto3 (cs' := [.slice A n c, .int .i64 (-1)]) (i := 0 + 1) hs8 (v := .int .i64 (-1)) (.tmp rfl rfl) .const rfl (Nat.le_of_ble_eq_true rfl) one1 rfl) ?_
      rintro w34 hs36
      refine c_nil ?_
      refine n_then ?_
      refine c_seq ?_
      refine c_region ?_
      refine st (v := .int .u64 0) (x_assign .const) ?_
      refine c_nil ?_
      refine n_then ?_
      refine c_ret ?_
      refine leave_ret (res_one (v := .int .u64 0) rfl (.mk rfl rfl)) ?_
      have hcl : (bs.drop k).length = n - k := by rw [List.length_drop, hlen]
      have hun : uscan 0 0 (bs.drop k) = none := (Nat.lt_or_ge i 10).elim (fun _ => uscan_noend (by have h := h128; rw [List.take_of_length_le (by omega)] at h; exact h)) (fun _ => uscan_ten (by omega) (by have e : i = 10 := (by omega); have h := h128; rw [e] at h; exact h))
      rw [rdU_none hun]
      exact ⟨_, rfl, .inl ⟨rfl, rfl⟩, hs36⟩
  · have hp7 : ¬ ((((i : Nat) : Int) : Int) < 10) := of_decide_eq_false hc7
    refine q_no (yl (dj := 13) (b := false) rfl rfl (congrArg Value.bool hc7)) rfl ?_
    refine q_no (yl (dj := 13) (b := false) rfl rfl (congrArg Value.bool hc7)) rfl ?_
    refine q_no (yl (dj := 13) (b := false) rfl rfl (congrArg Value.bool hc7)) rfl ?_
    refine q_no (yl (dj := 13) (b := false) rfl rfl (congrArg Value.bool hc7)) rfl ?_
    refine q_no (yl (dj := 13) (b := false) rfl rfl (congrArg Value.bool hc7)) rfl ?_
    refine q_no (yl (dj := 13) (b := false) rfl rfl (congrArg Value.bool hc7)) rfl ?_
    refine q_no (yl (dj := 13) (b := false) rfl rfl (congrArg Value.bool hc7)) rfl ?_
    refine q_no (yl (dj := 13) (b := false) rfl rfl (congrArg Value.bool hc7)) rfl ?_
    refine q_no (yl (dj := 13) (b := false) rfl rfl (congrArg Value.bool hc7)) rfl ?_
    refine q_no (yl (dj := 13) (b := false) rfl rfl (congrArg Value.bool hc7)) rfl ?_
    refine q_no (yl (dj := 13) (b := false) rfl rfl (congrArg Value.bool hc7)) rfl ?_
    refine q_no (yl (dj := 13) (b := false) rfl rfl (congrArg Value.bool hc7)) rfl ?_
    refine q_st (v := .bool false) (fun w hs => (x_pick_f (.tmp rfl (congrArg Value.bool hc7)) .const)) ?_
    refine q_nil ?_
    intro w hs37
    refine n_then ?_
    refine c_cond_f (t := false) (.tmp rfl rfl) rfl ?_
    refine c_exit ?_
    refine x_then ?_
    refine x_then ?_
    refine x_here ?_
    refine n_then ?_
    refine c_seq ?_
    refine c_region ?_
    refine st (v := .pointer (some ⟨g, 0, none⟩)) (x_move (.tmp rfl hρ3)) ?_
    refine st (v := .pointer (some ⟨g, 0, none⟩)) (x_nilCheck (.tmp rfl rfl)) ?_
    refine st (v := .pointer (some ⟨g, 0 + 1, none⟩)) (fa50_1 (.tmp rfl rfl)) ?_
    refine st_m0 (sto3 (cs' := [.slice A n c, .int .i64 (-1)]) (i := 0 + 1) hs37 (v := .int .i64 (-1)) (.tmp rfl rfl) .const rfl (Nat.le_of_ble_eq_true rfl) one1 rfl) ?_
    rintro w38 hs40
    refine c_nil ?_
    refine n_then ?_
    refine c_seq ?_
    refine c_region ?_
    refine st (v := .int .u64 0) (x_assign .const) ?_
    refine c_nil ?_
    refine n_then ?_
    refine c_ret ?_
    refine leave_ret (res_one (v := .int .u64 0) rfl (.mk rfl rfl)) ?_
    have hcl : (bs.drop k).length = n - k := by rw [List.length_drop, hlen]
    have hun : uscan 0 0 (bs.drop k) = none := (Nat.lt_or_ge i 10).elim (fun _ => uscan_noend (by have h := h128; rw [List.take_of_length_le (by omega)] at h; exact h)) (fun _ => uscan_ten (by omega) (by have e : i = 10 := (by omega); have h := h128; rw [e] at h; exact h))
    rw [rdU_none hun]
    exact ⟨_, rfl, .inl ⟨rfl, rfl⟩, hs40⟩

end Go.Proofs.Ytmjgphaobdplcaa
