/- Steps of the proofs over the functions of this seat, printed by a program (gen.py) and checked by Lean. -/
import Derived.Test.YtmjgphaobdplcaaUty
import Derived.Test.YtmjgphaobdplcaaFmM2
import Derived.Test.YtmjgphaobdplcaaFmS2
import Derived.Test.YtmjgphaobdplcaaFmG
import Derived.Test.YtmjgphaobdplcaaFmP
import Derived.Test.YtmjgphaobdplcaaFmM2c
import Derived.Test.YtmjgphaobdplcaaU2b
set_option linter.unusedVariables false
set_option linter.unusedSimpArgs false
namespace Go.Proofs.Ytmjgphaobdplcaa
open Go Go.FM Go.Proofs
attribute [local irreducible] wpList wpQuiet wpS Code.wp Calls
set_option maxHeartbeats 8000000 in
theorem uint_spec {H : Hp} {w : World} {L : List Res} {v : Value} {n : Nat} {l : List Nat} (hs : St H w (row 5 1 v n (l.map encB) :: L)) (ok : RowOk 1 v n (l.map encB)) (hsm : Small l) (m : Nat) (hn : n ≤ 140737488355310) (b_m : m < 18446744073709551616) : Calls Try.prog 16 #[v, .int .u64 ((m : Nat) : Int)] w (fun e w' => ∃ v', e = .returned v' ∧ RowOk 1 v' (n + (uenc m).length) ((l ++ uenc m).map encB) ∧ St H w' (row 5 1 v' (n + (uenc m).length) ((l ++ uenc m).map encB) :: L)) := by
  refine enter (args := [v, .int .u64 ((m : Nat) : Int)]) (N := 20) Try.func16 rfl rfl rfl ?_
  have h10 := uenc_len10 b_m
  refine c_seq ?_
  refine c_region ?_
  refine st (v := .slice none 0 0) (x_assign .const) ?_
  refine c_nil ?_
  refine n_then ?_
  refine c_seq ?_
  refine c_block ?_
  refine c_loop (fun ρ w mm => ∃ (r : Nat) (u : Value) (k : Nat) (q : List Nat), ρ 0 = u ∧ ρ 1 = .int .u64 ((r : Nat) : Int) ∧ (r < 18446744073709551616) ∧ (l ++ uenc m = q ++ uenc r) ∧ (k + (uenc r).length = n + (uenc m).length) ∧ (Small q) ∧ (RowOk 1 u k (q.map encB)) ∧ St H w (row 5 1 u k (q.map encB) :: L) ∧ mm = r + 1) _ ⟨m, v, n, l, rfl, rfl, b_m, rfl, rfl, hsm, ok, hs, rfl⟩ ?_
  rintro ρ w mm ⟨r, u, k, q, hρ2, hρ3, hr, hm, hk, hq, ok2, hs4, rfl⟩
  refine c_seq ?_
  refine c_seq ?_
  refine c_region ?_
  refine st (v := .int .u64 ((r : Nat) : Int)) (x_move (.tmp rfl hρ3)) ?_
  refine st (v := .bool (decide ((128 : Int) ≤ ((r : Nat) : Int)))) (x_geq (k := .u64) (a := ((r : Nat) : Int)) (b := 128) (.tmp rfl rfl) .const) ?_
  refine c_nil ?_
  refine n_then ?_
  rcases Bool.eq_false_or_eq_true (decide ((128 : Int) ≤ ((r : Nat) : Int))) with hc5 | hc5
  · have hp5 : (128 : Int) ≤ ((r : Nat) : Int) := of_decide_eq_true hc5
    refine c_cond_t (t := true) (.tmp rfl (congrArg Value.bool hc5)) rfl ?_
    refine c_skip ?_
    refine n_then ?_
    refine c_block ?_
    refine c_seq ?_
    refine c_region ?_
    have hb1 : ¬ r < 128 := by omega
    have hk1 : (uenc r).length = (uenc (r / 2 ^ 7)).length + 1 := by rw [uenc_big hb1]; rfl
    have hb2 : r / 2 ^ 7 < r := by omega
    refine st (v := u) (x_move (.tmp rfl hρ2)) ?_
    refine st (v := .int .u64 ((r : Nat) : Int)) (x_move (.tmp rfl hρ3)) ?_
    refine st (v := .int .u8 (((r % 256) : Nat) : Int)) (x_conv (k := .u64) (a := ((r : Nat) : Int)) Try.underlying37 Try.underlying5 (.tmp rfl rfl) (wrapN _ rfl _)) ?_
    have hb6 : ((r % 256) ||| 128) < 256 := Nat.or_lt_two_pow (n := 8) (Nat.mod_lt _ (by decide)) (by decide)
    refine st (v := .int .u8 ((((r % 256) ||| 128) : Nat) : Int)) (x_or (k := .u8) (m := (r % 256)) (n := 128) rfl (.tmp rfl rfl) .const (show _ < 2 ^ 8 from (Nat.mod_lt _ (by decide))) (show _ < 2 ^ 8 from (by decide))) ?_
    refine st_m (m_lit (n := 1) (ps := [(0, .int .u8 ((((r % 256) ||| 128) : Nat) : Int))]) (cs := [.int .u8 ((((r % 256) ||| 128) : Nat) : Int)]) Try.underlying22 inf5 (.cons (.tmp rfl rfl) Evp.nil) (by decide) (by decide) rfl rfl hs4) ?_
    rintro _ w8 ⟨g7, rfl, hs10⟩
    have hs11 : St H _ (row 5 1 u k (q.map encB) :: obj g7 5 [.int .u8 ((((r % 256) ||| 128) : Nat) : Int)] :: L) := hs10.pick 1 rfl rfl
    refine st_m (m_appAt (bs := [((r % 256) ||| 128)]) Try.underlying22 inf5 hs11 ok2 (.tmp rfl rfl) (.tmp rfl rfl) rfl (hs11.at_ 1 rfl 0 rfl) (by omega)) ?_
    rintro v12 w13 ⟨ok14, hs15⟩
    refine st (v := v12) (x_assign (.tmp rfl rfl)) ?_
    refine c_nil ?_
    refine n_then ?_
    refine c_region ?_
    refine st (v := .int .u64 ((r : Nat) : Int)) (x_move (.tmp rfl hρ3)) ?_
    have hb16 : (r / 2 ^ 7) < 18446744073709551616 := Nat.lt_of_le_of_lt (Nat.div_le_self _ _) hr
    refine st (v := .int .u64 (((r / 2 ^ 7) : Nat) : Int)) (x_shr (k := .u64) (m := r) (b := 7) rfl (.tmp rfl rfl) .const (by omega) (show _ < 2 ^ 64 from hr)) ?_
    refine st (v := .int .u64 (((r / 2 ^ 7) : Nat) : Int)) (x_assign (.tmp rfl rfl)) ?_
    refine c_nil ?_
    refine n_block ?_
    refine n_then ⟨_, _, rfl, ?_, (r / 2 ^ 7), v12, (k + 1), (q ++ [((r % 256) ||| 128)]), rfl, rfl, hb16, (by rw [uenc_big hb1] at hm; rw [hm, or128]; simp), (by have := hk1; omega), (hq.append (Small.cons hb6 Small.nil)), ok14, (hs15.pick 1 rfl rfl).drop, rfl⟩
    exact Nat.succ_lt_succ hb2
  · have hp5 : ¬ ((128 : Int) ≤ ((r : Nat) : Int)) := of_decide_eq_false hc5
    refine c_cond_f (t := false) (.tmp rfl (congrArg Value.bool hc5)) rfl ?_
    refine c_exit ?_
    refine x_then ?_
    refine x_then ?_
    refine x_here ?_
    refine n_then ?_
    refine c_seq ?_
    refine c_region ?_
    have hb1 : r < 128 := by omega
    have hk1 : (uenc r).length = 1 := by rw [uenc_one hb1]; rfl
    refine st (v := u) (x_move (.tmp rfl hρ2)) ?_
    refine st (v := .int .u64 ((r : Nat) : Int)) (x_move (.tmp rfl hρ3)) ?_
    refine st (v := .int .u8 (((r % 256) : Nat) : Int)) (x_conv (k := .u64) (a := ((r : Nat) : Int)) Try.underlying37 Try.underlying5 (.tmp rfl rfl) (wrapN _ rfl _)) ?_
    refine st_m (m_lit (n := 1) (ps := [(0, .int .u8 (((r % 256) : Nat) : Int))]) (cs := [.int .u8 (((r % 256) : Nat) : Int)]) Try.underlying22 inf5 (.cons (.tmp rfl rfl) Evp.nil) (by decide) (by decide) rfl rfl hs4) ?_
    rintro _ w18 ⟨g17, rfl, hs20⟩
    have hs21 : St H _ (row 5 1 u k (q.map encB) :: obj g17 5 [.int .u8 (((r % 256) : Nat) : Int)] :: L) := hs20.pick 1 rfl rfl
    refine st_m (m_appAt (bs := [(r % 256)]) Try.underlying22 inf5 hs21 ok2 (.tmp rfl rfl) (.tmp rfl rfl) rfl (hs21.at_ 1 rfl 0 rfl) (by omega)) ?_
    rintro v22 w23 ⟨ok24, hs25⟩
    refine st (v := v22) (x_assign (.tmp rfl rfl)) ?_
    refine c_nil ?_
    refine n_then ?_
    refine c_ret ?_
    refine leave_ret (res_one (v := v22) rfl (.mk rfl rfl)) ?_
    have hmod : r % 256 = r := by omega
    have e1 : l ++ uenc m = q ++ [r % 256] := by rw [hm, uenc_one hb1, hmod]
    have e2 : n + (uenc m).length = k + 1 := by omega
    rw [e1, e2]
    exact ⟨_, rfl, ok24, (hs25.pick 1 rfl rfl).drop⟩

end Go.Proofs.Ytmjgphaobdplcaa
