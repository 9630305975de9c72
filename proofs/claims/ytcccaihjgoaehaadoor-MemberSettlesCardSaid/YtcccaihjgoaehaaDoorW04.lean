/- Steps of the proofs over the functions of this seat, printed by a program (gen.py) and checked by Lean. -/
import Derived.Test.YtcccaihjgoaehaaDoorW01
import Derived.Test.YtcccaihjgoaehaaDoorW00
import Derived.Test.YtcccaihjgoaehaaDoorW03
import Derived.Test.YtcccaihjgoaehaaDoorW02
set_option linter.unusedVariables false
set_option linter.unusedSimpArgs false
namespace Go.Proofs.YtcccaihjgoaehaaDoor
open Go Go.FM Go.Proofs
attribute [local irreducible] wpList wpQuiet wpS Code.wp Calls
set_option maxHeartbeats 8000000 in
theorem has_spec {H:Hp} {w:World} {L:List Res} (hs:St H w L) (s:Nat) (i:Int) (b_s:s < 65536) (b_i:-9223372036854775808 ≤ i∧i ≤ 9223372036854775807):Calls Tryd.prog 34 #[.int .u16 ((s:Nat):Int),.int .i64 i] w (fun e w' => e = .returned (.bool (has s i))∧St H w' L):=by
 refine enter (args:=[.int .u16 ((s:Nat):Int),.int .i64 i]) (N:=18) Tryd.func34 rfl rfl rfl ?_
 refine c_seq (c_region (st (v:=.bool false) (x_assign .const) ?_))
 refine c_nil (n_then (c_seq (c_region (st (v:=.int .i64 i) (x_move (.tmp rfl rfl)) ?_))))
 refine st (v:=.bool (decide ((0:Int) ≤ i))) (x_geq (k:=.i64) (a:=i) (b:=0) (.tmp rfl rfl) .const) ?_
 refine st (v:=.bool (decide ((0:Int) ≤ i))) (x_move (.tmp rfl rfl)) ?_
 rcases Bool.eq_false_or_eq_true (decide ((0:Int) ≤ i)) with hc1 | hc1
 have hp1:(0:Int) ≤ i:=of_decide_eq_true hc1
 refine g_yes (yk 7 true rfl rfl hc1) ?_
 refine st (v:=.int .i64 i) (x_move (.tmp rfl rfl)) ?_
 refine g_yes (yk 7 true rfl rfl hc1) ?_
 refine st (v:=.bool (decide ((i:Int) < 16))) (x_lss (k:=.i64) (a:=i) (b:=16) (.tmp rfl rfl) .const) ?_
 refine st (v:=.bool (decide ((i:Int) < 16))) (x_pick_t (.tmp rfl (cVb hc1)) (.tmp rfl rfl)) ?_
 refine st (v:=.bool (decide ((i:Int) < 16))) (x_move (.tmp rfl rfl)) ?_
 rcases Bool.eq_false_or_eq_true (decide ((i:Int) < 16)) with hc2 | hc2
 have hp2:(i:Int) < 16:=of_decide_eq_true hc2
 refine g_yes (yk 11 true rfl rfl hc2) ?_
 refine st (v:=.int .u16 ((s:Nat):Int)) (x_move (.tmp rfl rfl)) ?_
 refine g_yes (yk 11 true rfl rfl hc2) ?_
 refine st (v:=.int .i64 i) (x_move (.tmp rfl rfl)) ?_
 refine g_yes (yk 11 true rfl rfl hc2) ?_
 have hb3:(s / 2 ^ i.toNat) < 65536:=Nat.lt_of_le_of_lt (Nat.div_le_self _ _) b_s
 refine st (v:=.int .u16 (((s / 2 ^ i.toNat):Nat):Int)) (x_shr (k:=.u16) (m:=s) (b:=i) rfl (.tmp rfl rfl) (.tmp rfl rfl) (by omega) (show _ < 2 ^ 16 from b_s)) ?_
 refine g_yes (yk 11 true rfl rfl hc2) ?_
 have hb4:((s / 2 ^ i.toNat) &&& 1) < 65536:=Nat.lt_of_le_of_lt Nat.and_le_left hb3
 refine st (v:=.int .u16 ((((s / 2 ^ i.toNat) &&& 1):Nat):Int)) (x_and (k:=.u16) (m:=(s / 2 ^ i.toNat)) (n:=1) rfl (.tmp rfl rfl) .const (show _ < 2 ^ 16 from hb3) (show _ < 2 ^ 16 from (by decide))) ?_
 refine g_yes (yk 11 true rfl rfl hc2) ?_
 refine st (v:=.bool (decide ((((((s / 2 ^ i.toNat) &&& 1):Nat):Int):Int) = 1))) (x_eql (k:=.u16) (a:=((((s / 2 ^ i.toNat) &&& 1):Nat):Int)) (b:=1) (.tmp rfl rfl) .const) ?_
 refine st (v:=.bool (decide ((((((s / 2 ^ i.toNat) &&& 1):Nat):Int):Int) = 1))) (x_pick_t (.tmp rfl (cVb hc2)) (.tmp rfl rfl)) ?_
 refine st (v:=.bool (decide ((((((s / 2 ^ i.toNat) &&& 1):Nat):Int):Int) = 1))) (x_assign (.tmp rfl rfl)) ?_
 refine c_nil (n_then (c_ret (leave_ret (res_one (v:=.bool (decide ((((((s / 2 ^ i.toNat) &&& 1):Nat):Int):Int) = 1))) rfl (.mk rfl rfl)) ?_)))
 exact ⟨congrArg (fun b => Ending.returned (.bool b)) (has_yes (by omega) (by omega)),hs⟩
 have hp2:¬ ((i:Int) < 16):=of_decide_eq_false hc2
 refine g_no (yk 11 false rfl rfl hc2) rfl ?_
 refine g_no (yk 11 false rfl rfl hc2) rfl ?_
 refine g_no (yk 11 false rfl rfl hc2) rfl ?_
 refine g_no (yk 11 false rfl rfl hc2) rfl ?_
 refine g_no (yk 11 false rfl rfl hc2) rfl ?_
 refine st (v:=.bool false) (x_pick_f (.tmp rfl (cVb hc2)) .const) ?_
 refine st (v:=.bool false) (x_assign (.tmp rfl rfl)) ?_
 refine c_nil (n_then (c_ret (leave_ret (res_one (v:=.bool false) rfl (.mk rfl rfl)) ?_)))
 exact ⟨congrArg (fun b => Ending.returned (.bool b)) (has_no (by omega)),hs⟩
 have hp1:¬ ((0:Int) ≤ i):=of_decide_eq_false hc1
 refine g_no (yk 7 false rfl rfl hc1) rfl ?_
 refine g_no (yk 7 false rfl rfl hc1) rfl ?_
 refine st (v:=.bool false) (x_pick_f (.tmp rfl (cVb hc1)) .const) ?_
 refine st (v:=.bool false) (x_move (.tmp rfl rfl)) ?_
 refine g_no (yl (dj:=11) (b:=false) rfl rfl rfl) rfl ?_
 refine g_no (yl (dj:=11) (b:=false) rfl rfl rfl) rfl ?_
 refine g_no (yl (dj:=11) (b:=false) rfl rfl rfl) rfl ?_
 refine g_no (yl (dj:=11) (b:=false) rfl rfl rfl) rfl ?_
 refine g_no (yl (dj:=11) (b:=false) rfl rfl rfl) rfl ?_
 refine st (v:=.bool false) (x_pick_f (.tmp rfl rfl) .const) ?_
 refine st (v:=.bool false) (x_assign (.tmp rfl rfl)) ?_
 refine c_nil (n_then (c_ret (leave_ret (res_one (v:=.bool false) rfl (.mk rfl rfl)) ?_)))
 exact ⟨congrArg (fun b => Ending.returned (.bool b)) (has_no (by omega)),hs⟩
set_option maxHeartbeats 8000000 in
theorem with_spec {H:Hp} {w:World} {L:List Res} (hs:St H w L) (s:Nat) (i:Int) (b_s:s < 65536) (b_i:-9223372036854775808 ≤ i∧i ≤ 9223372036854775807):Calls Tryd.prog 24 #[.int .u16 ((s:Nat):Int),.int .i64 i] w (fun e w' => e = .returned (.int .u16 ((wth s i:Nat):Int))∧St H w' L):=by
 refine enter (args:=[.int .u16 ((s:Nat):Int),.int .i64 i]) (N:=16) Tryd.func24 rfl rfl rfl ?_
 refine c_seq (c_region (st (v:=.int .u16 0) (x_assign .const) ?_))
 refine c_nil (n_then (c_seq (c_seq (c_region (st (v:=.int .i64 i) (x_move (.tmp rfl rfl)) ?_)))))
 refine st (v:=.bool (decide ((0:Int) ≤ i))) (x_geq (k:=.i64) (a:=i) (b:=0) (.tmp rfl rfl) .const) ?_
 refine st (v:=.bool (decide ((0:Int) ≤ i))) (x_move (.tmp rfl rfl)) ?_
 rcases Bool.eq_false_or_eq_true (decide ((0:Int) ≤ i)) with hc1 | hc1
 have hp1:(0:Int) ≤ i:=of_decide_eq_true hc1
 refine g_yes (yk 7 true rfl rfl hc1) ?_
 refine st (v:=.int .i64 i) (x_move (.tmp rfl rfl)) ?_
 refine g_yes (yk 7 true rfl rfl hc1) ?_
 refine st (v:=.bool (decide ((i:Int) < 16))) (x_lss (k:=.i64) (a:=i) (b:=16) (.tmp rfl rfl) .const) ?_
 refine st (v:=.bool (decide ((i:Int) < 16))) (x_pick_t (.tmp rfl (cVb hc1)) (.tmp rfl rfl)) ?_
 refine c_nil (n_then ?_)
 rcases Bool.eq_false_or_eq_true (decide ((i:Int) < 16)) with hc2 | hc2
 have hp2:(i:Int) < 16:=of_decide_eq_true hc2
 refine c_cond_t (t:=true) (.tmp rfl (cVb hc2)) rfl ?_
 refine c_region (st (v:=.int .u16 ((s:Nat):Int)) (x_move (.tmp rfl rfl)) ?_)
 refine st (v:=.int .i64 i) (x_move (.tmp rfl rfl)) ?_
 have hb3:(1 * 2 ^ i.toNat % 65536) < 65536:=Nat.mod_lt _ (by decide)
 refine st (v:=.int .u16 (((1 * 2 ^ i.toNat % 65536):Nat):Int)) (x_shl (k:=.u16) (m:=1) (b:=i) rfl .const (.tmp rfl rfl) (by omega)) ?_
 have hb4:(s ||| (1 * 2 ^ i.toNat % 65536)) < 65536:=Nat.or_lt_two_pow (n:=16) b_s hb3
 refine st (v:=.int .u16 (((s ||| (1 * 2 ^ i.toNat % 65536)):Nat):Int)) (x_or (k:=.u16) (m:=s) (n:=(1 * 2 ^ i.toNat % 65536)) rfl (.tmp rfl rfl) (.tmp rfl rfl) (show _ < 2 ^ 16 from b_s) (show _ < 2 ^ 16 from hb3)) ?_
 refine st (v:=.int .u16 (((s ||| (1 * 2 ^ i.toNat % 65536)):Nat):Int)) (x_assign (.tmp rfl rfl)) ?_
 refine c_nil (n_then (c_seq (c_region (st (v:=.int .u16 (((s ||| (1 * 2 ^ i.toNat % 65536)):Nat):Int)) (x_move (.tmp rfl rfl)) ?_))))
 refine st (v:=.int .u16 (((s ||| (1 * 2 ^ i.toNat % 65536)):Nat):Int)) (x_assign (.tmp rfl rfl)) ?_
 refine c_nil (n_then (c_ret (leave_ret (res_one (v:=.int .u16 (((s ||| (1 * 2 ^ i.toNat % 65536)):Nat):Int)) rfl (.mk rfl rfl)) ?_)))
 exact ⟨by simp only [wth]; first | (rw [if_neg (by omega)]) | (rw [if_pos (by omega),Nat.one_mul,Nat.mod_eq_of_lt (bit_lt (by omega))]),hs⟩
 have hp2:¬ ((i:Int) < 16):=of_decide_eq_false hc2
 refine c_cond_f (t:=false) (.tmp rfl (cVb hc2)) rfl ?_
 refine c_skip (n_then (c_seq (c_region (st (v:=.int .u16 ((s:Nat):Int)) (x_move (.tmp rfl rfl)) ?_))))
 refine st (v:=.int .u16 ((s:Nat):Int)) (x_assign (.tmp rfl rfl)) ?_
 refine c_nil (n_then (c_ret (leave_ret (res_one (v:=.int .u16 ((s:Nat):Int)) rfl (.mk rfl rfl)) ?_)))
 exact ⟨by simp only [wth]; first | (rw [if_neg (by omega)]) | (rw [if_pos (by omega),Nat.one_mul,Nat.mod_eq_of_lt (bit_lt (by omega))]),hs⟩
 have hp1:¬ ((0:Int) ≤ i):=of_decide_eq_false hc1
 refine g_no (yk 7 false rfl rfl hc1) rfl ?_
 refine g_no (yk 7 false rfl rfl hc1) rfl ?_
 refine st (v:=.bool false) (x_pick_f (.tmp rfl (cVb hc1)) .const) ?_
 refine c_nil (n_then (c_cond_f (t:=false) (.tmp rfl rfl) rfl ?_))
 refine c_skip (n_then (c_seq (c_region (st (v:=.int .u16 ((s:Nat):Int)) (x_move (.tmp rfl rfl)) ?_))))
 refine st (v:=.int .u16 ((s:Nat):Int)) (x_assign (.tmp rfl rfl)) ?_
 refine c_nil (n_then (c_ret (leave_ret (res_one (v:=.int .u16 ((s:Nat):Int)) rfl (.mk rfl rfl)) ?_)))
 exact ⟨by simp only [wth]; first | (rw [if_neg (by omega)]) | (rw [if_pos (by omega),Nat.one_mul,Nat.mod_eq_of_lt (bit_lt (by omega))]),hs⟩
set_option maxHeartbeats 8000000 in
theorem without_spec {H:Hp} {w:World} {L:List Res} (hs:St H w L) (s:Nat) (i:Int) (b_s:s < 65536) (b_i:-9223372036854775808 ≤ i∧i ≤ 9223372036854775807):Calls Tryd.prog 40 #[.int .u16 ((s:Nat):Int),.int .i64 i] w (fun e w' => e = .returned (.int .u16 ((wto s i:Nat):Int))∧St H w' L):=by
 refine enter (args:=[.int .u16 ((s:Nat):Int),.int .i64 i]) (N:=16) Tryd.func40 rfl rfl rfl ?_
 refine c_seq (c_region (st (v:=.int .u16 0) (x_assign .const) ?_))
 refine c_nil (n_then (c_seq (c_seq (c_region (st (v:=.int .i64 i) (x_move (.tmp rfl rfl)) ?_)))))
 refine st (v:=.bool (decide ((0:Int) ≤ i))) (x_geq (k:=.i64) (a:=i) (b:=0) (.tmp rfl rfl) .const) ?_
 refine st (v:=.bool (decide ((0:Int) ≤ i))) (x_move (.tmp rfl rfl)) ?_
 rcases Bool.eq_false_or_eq_true (decide ((0:Int) ≤ i)) with hc1 | hc1
 have hp1:(0:Int) ≤ i:=of_decide_eq_true hc1
 refine g_yes (yk 7 true rfl rfl hc1) ?_
 refine st (v:=.int .i64 i) (x_move (.tmp rfl rfl)) ?_
 refine g_yes (yk 7 true rfl rfl hc1) ?_
 refine st (v:=.bool (decide ((i:Int) < 16))) (x_lss (k:=.i64) (a:=i) (b:=16) (.tmp rfl rfl) .const) ?_
 refine st (v:=.bool (decide ((i:Int) < 16))) (x_pick_t (.tmp rfl (cVb hc1)) (.tmp rfl rfl)) ?_
 refine c_nil (n_then ?_)
 rcases Bool.eq_false_or_eq_true (decide ((i:Int) < 16)) with hc2 | hc2
 have hp2:(i:Int) < 16:=of_decide_eq_true hc2
 refine c_cond_t (t:=true) (.tmp rfl (cVb hc2)) rfl ?_
 refine c_region (st (v:=.int .u16 ((s:Nat):Int)) (x_move (.tmp rfl rfl)) ?_)
 refine st (v:=.int .i64 i) (x_move (.tmp rfl rfl)) ?_
 have hb3:(1 * 2 ^ i.toNat % 65536) < 65536:=Nat.mod_lt _ (by decide)
 refine st (v:=.int .u16 (((1 * 2 ^ i.toNat % 65536):Nat):Int)) (x_shl (k:=.u16) (m:=1) (b:=i) rfl .const (.tmp rfl rfl) (by omega)) ?_
 have hb4:(s &&& (65535 - (1 * 2 ^ i.toNat % 65536))) < 65536:=Nat.lt_of_le_of_lt Nat.and_le_left b_s
 refine st (v:=.int .u16 (((s &&& (65535 - (1 * 2 ^ i.toNat % 65536))):Nat):Int)) (x_andNot (k:=.u16) (m:=s) (n:=(1 * 2 ^ i.toNat % 65536)) rfl (.tmp rfl rfl) (.tmp rfl rfl) (show _ < 2 ^ 16 from b_s) (show _ < 2 ^ 16 from hb3)) ?_
 refine st (v:=.int .u16 (((s &&& (65535 - (1 * 2 ^ i.toNat % 65536))):Nat):Int)) (x_assign (.tmp rfl rfl)) ?_
 refine c_nil (n_then (c_seq (c_region (st (v:=.int .u16 (((s &&& (65535 - (1 * 2 ^ i.toNat % 65536))):Nat):Int)) (x_move (.tmp rfl rfl)) ?_))))
 refine st (v:=.int .u16 (((s &&& (65535 - (1 * 2 ^ i.toNat % 65536))):Nat):Int)) (x_assign (.tmp rfl rfl)) ?_
 refine c_nil (n_then (c_ret (leave_ret (res_one (v:=.int .u16 (((s &&& (65535 - (1 * 2 ^ i.toNat % 65536))):Nat):Int)) rfl (.mk rfl rfl)) ?_)))
 exact ⟨by simp only [wto]; first | (rw [if_neg (by omega)]) | (rw [if_pos (by omega),Nat.one_mul,Nat.mod_eq_of_lt (bit_lt (by omega))]),hs⟩
 have hp2:¬ ((i:Int) < 16):=of_decide_eq_false hc2
 refine c_cond_f (t:=false) (.tmp rfl (cVb hc2)) rfl ?_
 refine c_skip (n_then (c_seq (c_region (st (v:=.int .u16 ((s:Nat):Int)) (x_move (.tmp rfl rfl)) ?_))))
 refine st (v:=.int .u16 ((s:Nat):Int)) (x_assign (.tmp rfl rfl)) ?_
 refine c_nil (n_then (c_ret (leave_ret (res_one (v:=.int .u16 ((s:Nat):Int)) rfl (.mk rfl rfl)) ?_)))
 exact ⟨by simp only [wto]; first | (rw [if_neg (by omega)]) | (rw [if_pos (by omega),Nat.one_mul,Nat.mod_eq_of_lt (bit_lt (by omega))]),hs⟩
 have hp1:¬ ((0:Int) ≤ i):=of_decide_eq_false hc1
 refine g_no (yk 7 false rfl rfl hc1) rfl ?_
 refine g_no (yk 7 false rfl rfl hc1) rfl ?_
 refine st (v:=.bool false) (x_pick_f (.tmp rfl (cVb hc1)) .const) ?_
 refine c_nil (n_then (c_cond_f (t:=false) (.tmp rfl rfl) rfl ?_))
 refine c_skip (n_then (c_seq (c_region (st (v:=.int .u16 ((s:Nat):Int)) (x_move (.tmp rfl rfl)) ?_))))
 refine st (v:=.int .u16 ((s:Nat):Int)) (x_assign (.tmp rfl rfl)) ?_
 refine c_nil (n_then (c_ret (leave_ret (res_one (v:=.int .u16 ((s:Nat):Int)) rfl (.mk rfl rfl)) ?_)))
 exact ⟨by simp only [wto]; first | (rw [if_neg (by omega)]) | (rw [if_pos (by omega),Nat.one_mul,Nat.mod_eq_of_lt (bit_lt (by omega))]),hs⟩
set_option maxHeartbeats 8000000 in
theorem nan_u_spec {H:Hp} {w:World} {L:List Res} (hs:St H w L) (a:Int):Calls Tryd.prog 53 #[.int .u64 a] w (fun e w' => e = .returned (.bool false)∧St H w' L):=by
 refine enter (args:=[.int .u64 a]) (N:=6) Tryd.func53 rfl rfl rfl ?_
 refine c_seq (c_region (st (v:=.bool false) (x_assign .const) ?_))
 refine c_nil (n_then (c_seq (c_region (st (v:=.int .u64 a) (x_move (.tmp rfl rfl)) ?_))))
 refine st (v:=.int .u64 a) (x_move (.tmp rfl rfl)) ?_
 refine st (v:=.bool (decide ((a:Int) ≠ a))) (x_neq (k:=.u64) (a:=a) (b:=a) (.tmp rfl rfl) (.tmp rfl rfl)) ?_
 refine st (v:=.bool false) (x_assign (.tmp rfl (cVb (show (decide ((a:Int) ≠ a)) = false from by simp)))) ?_
 refine c_nil (n_then (c_ret (leave_ret (res_one (v:=.bool false) rfl (.mk rfl rfl)) ?_)))
 exact ⟨rfl,hs⟩
set_option maxHeartbeats 8000000 in
theorem cmp_u_spec {H:Hp} {w:World} {L:List Res} (hs:St H w L) (a b:Int):Calls Tryd.prog 48 #[.int .u64 a,.int .u64 b] w (fun e w' => e = .returned (.int .i64 (cmpI a b))∧St H w' L):=by
 refine enter (args:=[.int .u64 a,.int .u64 b]) (N:=20) Tryd.func48 rfl rfl rfl ?_
 refine c_seq (c_region (st (v:=.int .i64 0) (x_assign .const) ?_))
 refine c_nil (n_then (c_seq (c_region (st (v:=.int .u64 a) (x_move (.tmp rfl rfl)) ?_))))
 refine st_c cb53 .func (evs1 (.tmp rfl rfl)) (nan_u_spec hs a) ?_
 rintro e w1 ⟨rfl,hs2⟩
 refine ⟨_,rfl,?_⟩
 refine st (v:=.bool false) (x_assign (.tmp rfl rfl)) ?_
 refine c_nil (n_then (c_seq (c_region (st (v:=.int .u64 b) (x_move (.tmp rfl rfl)) ?_))))
 refine st_c cb53 .func (evs1 (.tmp rfl rfl)) (nan_u_spec hs2 b) ?_
 rintro e w3 ⟨rfl,hs4⟩
 refine ⟨_,rfl,?_⟩
 refine st (v:=.bool false) (x_assign (.tmp rfl rfl)) ?_
 refine c_nil (n_then (c_seq (c_seq (c_region (st (v:=.bool false) (x_move (.tmp rfl rfl)) ?_)))))
 refine c_nil (n_then (c_cond_f (t:=false) (.tmp rfl rfl) rfl ?_))
 refine c_skip (n_then (c_seq (c_seq (c_region (st (v:=.bool false) (x_move (.tmp rfl rfl)) ?_)))))
 refine c_nil (n_then (c_cond_f (t:=false) (.tmp rfl rfl) rfl ?_))
 refine c_skip (n_then (c_seq (c_seq (c_region (st (v:=.int .u64 a) (x_move (.tmp rfl rfl)) ?_)))))
 refine st (v:=.int .u64 b) (x_move (.tmp rfl rfl)) ?_
 refine st (v:=.bool (decide ((a:Int) < b))) (x_lss (k:=.u64) (a:=a) (b:=b) (.tmp rfl rfl) (.tmp rfl rfl)) ?_
 refine c_nil (n_then ?_)
 rcases Bool.eq_false_or_eq_true (decide ((a:Int) < b)) with hc5 | hc5
 have hp5:(a:Int) < b:=of_decide_eq_true hc5
 refine c_cond_t (t:=true) (.tmp rfl (cVb hc5)) rfl ?_
 refine c_seq (c_region (st (v:=.int .i64 (-1)) (x_assign .const) ?_))
 refine c_nil (n_then (c_ret (r_then (leave_ret (res_one (v:=.int .i64 (-1)) rfl (.mk rfl rfl)) ?_))))
 have hcm:(-1) = cmpI a b:=by
   unfold cmpI
   repeat' split
   all_goals omega
 exact ⟨congrArg (fun z => Ending.returned (.int .i64 z)) hcm,hs4⟩
 have hp5:¬ ((a:Int) < b):=of_decide_eq_false hc5
 refine c_cond_f (t:=false) (.tmp rfl (cVb hc5)) rfl ?_
 refine c_skip (n_then (c_seq (c_seq (c_region (st (v:=.int .u64 a) (x_move (.tmp rfl rfl)) ?_)))))
 refine st (v:=.int .u64 b) (x_move (.tmp rfl rfl)) ?_
 refine st (v:=.bool (decide ((b:Int) < a))) (x_gtr (k:=.u64) (a:=a) (b:=b) (.tmp rfl rfl) (.tmp rfl rfl)) ?_
 refine c_nil (n_then ?_)
 rcases Bool.eq_false_or_eq_true (decide ((b:Int) < a)) with hc6 | hc6
 have hp6:(b:Int) < a:=of_decide_eq_true hc6
 refine c_cond_t (t:=true) (.tmp rfl (cVb hc6)) rfl ?_
 refine c_seq (c_region (st (v:=.int .i64 1) (x_assign .const) ?_))
 refine c_nil (n_then (c_ret (r_then (leave_ret (res_one (v:=.int .i64 1) rfl (.mk rfl rfl)) ?_))))
 have hcm:1 = cmpI a b:=by
   unfold cmpI
   repeat' split
   all_goals omega
 exact ⟨congrArg (fun z => Ending.returned (.int .i64 z)) hcm,hs4⟩
 have hp6:¬ ((b:Int) < a):=of_decide_eq_false hc6
 refine c_cond_f (t:=false) (.tmp rfl (cVb hc6)) rfl ?_
 refine c_skip (n_then (c_seq (c_region (st (v:=.int .i64 0) (x_assign .const) ?_))))
 refine c_nil (n_then (c_ret (leave_ret (res_one (v:=.int .i64 0) rfl (.mk rfl rfl)) ?_)))
 have hcm:0 = cmpI a b:=by
   unfold cmpI
   repeat' split
   all_goals omega
 exact ⟨congrArg (fun z => Ending.returned (.int .i64 z)) hcm,hs4⟩
set_option maxHeartbeats 8000000 in
theorem nan_i_spec {H:Hp} {w:World} {L:List Res} (hs:St H w L) (a:Int):Calls Tryd.prog 54 #[.int .i64 a] w (fun e w' => e = .returned (.bool false)∧St H w' L):=by
 refine enter (args:=[.int .i64 a]) (N:=6) Tryd.func54 rfl rfl rfl ?_
 refine c_seq (c_region (st (v:=.bool false) (x_assign .const) ?_))
 refine c_nil (n_then (c_seq (c_region (st (v:=.int .i64 a) (x_move (.tmp rfl rfl)) ?_))))
 refine st (v:=.int .i64 a) (x_move (.tmp rfl rfl)) ?_
 refine st (v:=.bool (decide ((a:Int) ≠ a))) (x_neq (k:=.i64) (a:=a) (b:=a) (.tmp rfl rfl) (.tmp rfl rfl)) ?_
 refine st (v:=.bool false) (x_assign (.tmp rfl (cVb (show (decide ((a:Int) ≠ a)) = false from by simp)))) ?_
 refine c_nil (n_then (c_ret (leave_ret (res_one (v:=.bool false) rfl (.mk rfl rfl)) ?_)))
 exact ⟨rfl,hs⟩
set_option maxHeartbeats 8000000 in
theorem cmp_i_spec {H:Hp} {w:World} {L:List Res} (hs:St H w L) (a b:Int):Calls Tryd.prog 49 #[.int .i64 a,.int .i64 b] w (fun e w' => e = .returned (.int .i64 (cmpI a b))∧St H w' L):=by
 refine enter (args:=[.int .i64 a,.int .i64 b]) (N:=20) Tryd.func49 rfl rfl rfl ?_
 refine c_seq (c_region (st (v:=.int .i64 0) (x_assign .const) ?_))
 refine c_nil (n_then (c_seq (c_region (st (v:=.int .i64 a) (x_move (.tmp rfl rfl)) ?_))))
 refine st_c cb54 .func (evs1 (.tmp rfl rfl)) (nan_i_spec hs a) ?_
 rintro e w1 ⟨rfl,hs2⟩
 refine ⟨_,rfl,?_⟩
 refine st (v:=.bool false) (x_assign (.tmp rfl rfl)) ?_
 refine c_nil (n_then (c_seq (c_region (st (v:=.int .i64 b) (x_move (.tmp rfl rfl)) ?_))))
 refine st_c cb54 .func (evs1 (.tmp rfl rfl)) (nan_i_spec hs2 b) ?_
 rintro e w3 ⟨rfl,hs4⟩
 refine ⟨_,rfl,?_⟩
 refine st (v:=.bool false) (x_assign (.tmp rfl rfl)) ?_
 refine c_nil (n_then (c_seq (c_seq (c_region (st (v:=.bool false) (x_move (.tmp rfl rfl)) ?_)))))
 refine c_nil (n_then (c_cond_f (t:=false) (.tmp rfl rfl) rfl ?_))
 refine c_skip (n_then (c_seq (c_seq (c_region (st (v:=.bool false) (x_move (.tmp rfl rfl)) ?_)))))
 refine c_nil (n_then (c_cond_f (t:=false) (.tmp rfl rfl) rfl ?_))
 refine c_skip (n_then (c_seq (c_seq (c_region (st (v:=.int .i64 a) (x_move (.tmp rfl rfl)) ?_)))))
 refine st (v:=.int .i64 b) (x_move (.tmp rfl rfl)) ?_
 refine st (v:=.bool (decide ((a:Int) < b))) (x_lss (k:=.i64) (a:=a) (b:=b) (.tmp rfl rfl) (.tmp rfl rfl)) ?_
 refine c_nil (n_then ?_)
 rcases Bool.eq_false_or_eq_true (decide ((a:Int) < b)) with hc5 | hc5
 have hp5:(a:Int) < b:=of_decide_eq_true hc5
 refine c_cond_t (t:=true) (.tmp rfl (cVb hc5)) rfl ?_
 refine c_seq (c_region (st (v:=.int .i64 (-1)) (x_assign .const) ?_))
 refine c_nil (n_then (c_ret (r_then (leave_ret (res_one (v:=.int .i64 (-1)) rfl (.mk rfl rfl)) ?_))))
 have hcm:(-1) = cmpI a b:=by
   unfold cmpI
   repeat' split
   all_goals omega
 exact ⟨congrArg (fun z => Ending.returned (.int .i64 z)) hcm,hs4⟩
 have hp5:¬ ((a:Int) < b):=of_decide_eq_false hc5
 refine c_cond_f (t:=false) (.tmp rfl (cVb hc5)) rfl ?_
 refine c_skip (n_then (c_seq (c_seq (c_region (st (v:=.int .i64 a) (x_move (.tmp rfl rfl)) ?_)))))
 refine st (v:=.int .i64 b) (x_move (.tmp rfl rfl)) ?_
 refine st (v:=.bool (decide ((b:Int) < a))) (x_gtr (k:=.i64) (a:=a) (b:=b) (.tmp rfl rfl) (.tmp rfl rfl)) ?_
 refine c_nil (n_then ?_)
 rcases Bool.eq_false_or_eq_true (decide ((b:Int) < a)) with hc6 | hc6
 have hp6:(b:Int) < a:=of_decide_eq_true hc6
 refine c_cond_t (t:=true) (.tmp rfl (cVb hc6)) rfl ?_
 refine c_seq (c_region (st (v:=.int .i64 1) (x_assign .const) ?_))
 refine c_nil (n_then (c_ret (r_then (leave_ret (res_one (v:=.int .i64 1) rfl (.mk rfl rfl)) ?_))))
 have hcm:1 = cmpI a b:=by
   unfold cmpI
   repeat' split
   all_goals omega
 exact ⟨congrArg (fun z => Ending.returned (.int .i64 z)) hcm,hs4⟩
 have hp6:¬ ((b:Int) < a):=of_decide_eq_false hc6
 refine c_cond_f (t:=false) (.tmp rfl (cVb hc6)) rfl ?_
 refine c_skip (n_then (c_seq (c_region (st (v:=.int .i64 0) (x_assign .const) ?_))))
 refine c_nil (n_then (c_ret (leave_ret (res_one (v:=.int .i64 0) rfl (.mk rfl rfl)) ?_)))
 have hcm:0 = cmpI a b:=by
   unfold cmpI
   repeat' split
   all_goals omega
 exact ⟨congrArg (fun z => Ending.returned (.int .i64 z)) hcm,hs4⟩
set_option maxHeartbeats 8000000 in
theorem compare_spec {H:Hp} {w:World} {L:List Res} (hs:St H w L) (an:Nat) (ap:Int) (bn:Nat) (bp:Int):Calls Tryd.prog 41 #[.agg #[.int .u64 ((an:Nat):Int),.int .i64 ap],.agg #[.int .u64 ((bn:Nat):Int),.int .i64 bp]] w (fun e w' => e = .returned (.int .i64 (cmpV an ap bn bp))∧St H w' L):=by
 refine enter (args:=[.agg #[.int .u64 ((an:Nat):Int),.int .i64 ap],.agg #[.int .u64 ((bn:Nat):Int),.int .i64 bp]]) (N:=19) Tryd.func41 rfl rfl rfl ?_
 refine c_seq (c_region (st_m (m_box (cs:=[.int .u64 ((an:Nat):Int),.int .i64 ap]) hs (v:=.agg #[.int .u64 ((an:Nat):Int),.int .i64 ap]) (.tmp rfl rfl) rfl) ?_))
 rintro _ w2 ⟨g1,rfl,hs4⟩
 refine st_m (m_box (cs:=[.int .u64 ((bn:Nat):Int),.int .i64 bp]) hs4 (v:=.agg #[.int .u64 ((bn:Nat):Int),.int .i64 bp]) (.tmp rfl rfl) rfl) ?_
 rintro _ w6 ⟨g5,rfl,hs8⟩
 refine st (v:=.int .i64 0) (x_assign .const) ?_
 refine c_nil (n_then (c_seq (c_seq (c_region (st (v:=.pointer (some ⟨g1,0 + 0,none⟩)) (fa34_0 (.tmp rfl rfl)) ?_)))))
 refine st (v:=.int .u64 ((an:Nat):Int)) (ld32 (.tmp rfl rfl) (hs8.cell 1 rfl (0 + 0) rfl)) ?_
 refine st (v:=.pointer (some ⟨g5,0 + 0,none⟩)) (fa34_0 (.tmp rfl rfl)) ?_
 refine st (v:=.int .u64 ((bn:Nat):Int)) (ld32 (.tmp rfl rfl) (hs8.cell 0 rfl (0 + 0) rfl)) ?_
 refine st_c cb48 .func (evs2 (.tmp rfl rfl) (.tmp rfl rfl)) (cmp_u_spec hs8 ((an:Nat):Int) ((bn:Nat):Int)) ?_
 rintro e w9 ⟨rfl,hs10⟩
 refine ⟨_,rfl,?_⟩
 refine st (v:=.int .i64 (cmpI ((an:Nat):Int) ((bn:Nat):Int))) (x_assign (.tmp rfl rfl)) ?_
 refine c_nil (n_then (c_seq (c_region (st (v:=.int .i64 (cmpI ((an:Nat):Int) ((bn:Nat):Int))) (x_move (.tmp rfl rfl)) ?_))))
 refine st (v:=.bool (decide (((cmpI ((an:Nat):Int) ((bn:Nat):Int)):Int) ≠ 0))) (x_neq (k:=.i64) (a:=(cmpI ((an:Nat):Int) ((bn:Nat):Int))) (b:=0) (.tmp rfl rfl) .const) ?_
 refine c_nil (n_then ?_)
 rcases Bool.eq_false_or_eq_true (decide (((cmpI ((an:Nat):Int) ((bn:Nat):Int)):Int) ≠ 0)) with hc11 | hc11
 have hp11:((cmpI ((an:Nat):Int) ((bn:Nat):Int)):Int) ≠ 0:=of_decide_eq_true hc11
 refine c_cond_t (t:=true) (.tmp rfl (cVb hc11)) rfl ?_
 refine c_seq (c_region (st (v:=.int .i64 (cmpI ((an:Nat):Int) ((bn:Nat):Int))) (x_move (.tmp rfl rfl)) ?_))
 refine st (v:=.int .i64 (cmpI ((an:Nat):Int) ((bn:Nat):Int))) (x_assign (.tmp rfl rfl)) ?_
 refine c_nil (n_then (c_ret (r_then (leave_ret (res_one (v:=.int .i64 (cmpI ((an:Nat):Int) ((bn:Nat):Int))) rfl (.mk rfl rfl)) ?_))))
 exact ⟨congrArg (fun z => Ending.returned (.int .i64 z)) (by first | exact cmpV_ne (by assumption) | exact cmpV_eq (by assumption)),hs10.drop.drop⟩
 have hp11:¬ (((cmpI ((an:Nat):Int) ((bn:Nat):Int)):Int) ≠ 0):=of_decide_eq_false hc11
 refine c_cond_f (t:=false) (.tmp rfl (cVb hc11)) rfl ?_
 refine c_skip (n_then (c_seq (c_region (st (v:=.pointer (some ⟨g1,0 + 1,none⟩)) (fa34_1 (.tmp rfl rfl)) ?_))))
 refine st (v:=.int .i64 ap) (ld3 (.tmp rfl rfl) (hs10.cell 1 rfl (0 + 1) rfl)) ?_
 refine st (v:=.pointer (some ⟨g5,0 + 1,none⟩)) (fa34_1 (.tmp rfl rfl)) ?_
 refine st (v:=.int .i64 bp) (ld3 (.tmp rfl rfl) (hs10.cell 0 rfl (0 + 1) rfl)) ?_
 refine st_c cb49 .func (evs2 (.tmp rfl rfl) (.tmp rfl rfl)) (cmp_i_spec hs10 ap bp) ?_
 rintro e w12 ⟨rfl,hs13⟩
 refine ⟨_,rfl,?_⟩
 refine st (v:=.int .i64 (cmpI ap bp)) (x_assign (.tmp rfl rfl)) ?_
 refine c_nil (n_then (c_ret (leave_ret (res_one (v:=.int .i64 (cmpI ap bp)) rfl (.mk rfl rfl)) ?_)))
 exact ⟨congrArg (fun z => Ending.returned (.int .i64 z)) (by first | exact cmpV_ne (by assumption) | exact cmpV_eq (by assumption)),hs13.drop.drop⟩
set_option maxHeartbeats 8000000 in
theorem above_spec {H:Hp} {w:World} {L:List Res} (hs:St H w L) (an:Nat) (ap:Int) (bn:Nat) (bp:Int):Calls Tryd.prog 33 #[.agg #[.int .u64 ((an:Nat):Int),.int .i64 ap],.agg #[.int .u64 ((bn:Nat):Int),.int .i64 bp]] w (fun e w' => e = .returned (.bool (decide (0 < cmpV an ap bn bp)))∧St H w' L):=by
 refine enter (args:=[.agg #[.int .u64 ((an:Nat):Int),.int .i64 ap],.agg #[.int .u64 ((bn:Nat):Int),.int .i64 bp]]) (N:=9) Tryd.func33 rfl rfl rfl ?_
 refine c_seq (c_region (st_m (m_box (cs:=[.int .u64 ((an:Nat):Int),.int .i64 ap]) hs (v:=.agg #[.int .u64 ((an:Nat):Int),.int .i64 ap]) (.tmp rfl rfl) rfl) ?_))
 rintro _ w2 ⟨g1,rfl,hs4⟩
 refine st_m (m_box (cs:=[.int .u64 ((bn:Nat):Int),.int .i64 bp]) hs4 (v:=.agg #[.int .u64 ((bn:Nat):Int),.int .i64 bp]) (.tmp rfl rfl) rfl) ?_
 rintro _ w6 ⟨g5,rfl,hs8⟩
 refine st (v:=.bool false) (x_assign .const) ?_
 refine c_nil (n_then (c_seq (c_region (st (v:=.agg #[.int .u64 ((an:Nat):Int),.int .i64 ap]) (ld34 (cs:=[.int .u64 ((an:Nat):Int),.int .i64 ap]) (.tmp rfl rfl) (hs8.at_ 1 rfl (0) rfl) rfl) ?_))))
 refine st (v:=.agg #[.int .u64 ((bn:Nat):Int),.int .i64 bp]) (ld34 (cs:=[.int .u64 ((bn:Nat):Int),.int .i64 bp]) (.tmp rfl rfl) (hs8.at_ 0 rfl (0) rfl) rfl) ?_
 refine st_c cb41 .func (evs2 (.tmp rfl rfl) (.tmp rfl rfl)) (compare_spec hs8 an ap bn bp) ?_
 rintro e w9 ⟨rfl,hs10⟩
 refine ⟨_,rfl,?_⟩
 refine st (v:=.bool (decide ((0:Int) < (cmpV an ap bn bp)))) (x_gtr (k:=.i64) (a:=(cmpV an ap bn bp)) (b:=0) (.tmp rfl rfl) .const) ?_
 refine st (v:=.bool (decide ((0:Int) < (cmpV an ap bn bp)))) (x_assign (.tmp rfl rfl)) ?_
 refine c_nil (n_then (c_ret (leave_ret (res_one (v:=.bool (decide ((0:Int) < (cmpV an ap bn bp)))) rfl (.mk rfl rfl)) ?_)))
 exact ⟨rfl,hs10.drop.drop⟩
theorem least_spec2 {H:Hp} {w:World} {L:List Res} (hs:St H w L) (htab:Tab H) (s:Nat) (b_s:s < 65536) (h0:s ≠ 0):Calls Tryd.prog 26 #[.int .u16 ((s:Nat):Int)] w (fun e w' => e = .returned (.int .i64 ((low 16 s:Nat):Int))∧St H w' L):=by
  have:=least_spec hs htab s b_s
  simp only [least,if_neg h0] at this
  exact this
set_option maxHeartbeats 8000000 in
theorem list_spec {H:Hp} {w:World} {L:List Res} (hs:St H w L) (htab:Tab H) (s:Nat) (b_s:s < 65536):Calls Tryd.prog 36 #[.int .u16 ((s:Nat):Int)] w (fun e w' => ∃ v,e = .returned v∧RowOk 1 v (lst s).length ((lst s).map encI)∧St H w' (row 3 1 v (lst s).length ((lst s).map encI)::L)):=by
 refine enter (args:=[.int .u16 ((s:Nat):Int)]) (N:=16) Tryd.func36 rfl rfl rfl ?_
 refine c_seq (c_region (st (v:=.slice none 0 0) (x_assign .const) ?_))
 refine c_nil (n_then (c_seq (c_region (st (v:=.slice none 0 0) (x_assign .const) ?_))))
 refine c_nil (n_then (c_seq (c_block ?_)))
 have hs0:=hs.rowNil 3 1
 refine c_loop (fun ρ w mm => ∃ (r:Nat) (v:Value) (pre:List Nat),ρ 0 = .int .u16 ((r:Nat):Int)∧ρ 3 = v∧(r < 65536)∧(lst s = pre ++ lst r)∧(RowOk 1 v pre.length (pre.map encI))∧St H w (row 3 1 v pre.length (pre.map encI)::L)∧mm = (lst r).length) _ ⟨s,(.slice none 0 0),[],rfl,rfl,b_s,(by simp),(RowOk.nil 1),hs0,rfl⟩ ?_
 rintro ρ w mm ⟨r,v,pre,hρ2,hρ3,hr,hl,ok,hs4,rfl⟩
 refine c_seq (c_seq (c_region (st (v:=.int .u16 ((r:Nat):Int)) (x_move (.tmp rfl hρ2)) ?_)))
 refine st (v:=.bool (decide ((((r:Nat):Int):Int) ≠ 0))) (x_neq (k:=.u16) (a:=((r:Nat):Int)) (b:=0) (.tmp rfl rfl) .const) ?_
 refine c_nil (n_then ?_)
 rcases Bool.eq_false_or_eq_true (decide ((((r:Nat):Int):Int) ≠ 0)) with hc5 | hc5
 have hp5:(((r:Nat):Int):Int) ≠ 0:=of_decide_eq_true hc5
 refine c_cond_t (t:=true) (.tmp rfl (cVb hc5)) rfl ?_
 refine c_skip (n_then (c_block (c_seq (c_region (st (v:=v) (x_move (.tmp rfl hρ3)) ?_)))))
 refine st (v:=.int .u16 ((r:Nat):Int)) (x_move (.tmp rfl hρ2)) ?_
 refine st_c cb26 .func (evs1 (.tmp rfl rfl)) (least_spec2 hs4 htab r hr (by omega)) ?_
 rintro e w6 ⟨rfl,hs7⟩
 refine ⟨_,rfl,?_⟩
 refine st_m (m_lit (n:=1) (ps:=[(0,.int .i64 ((low 16 r:Nat):Int))]) (cs:=[.int .i64 ((low 16 r:Nat):Int)]) Tryd.underlying71 inf3 (.cons (.tmp rfl rfl) Evp.nil) (by decide) (by decide) rfl rfl hs7) ?_
 rintro _ w9 ⟨g8,rfl,hs11⟩
 have hln:=lst_pred r (by omega) hr
 have hll:(lst s).length ≤ 16:=by rw [lst_length]; exact pc_le 16 s
 have hl2:pre.length + (lst r).length ≤ 16:=by rw [hl] at hll; simpa using hll
 have hl3:1 ≤ (lst r).length:=by rw [hln]; simp
 have hs12:=hs11.p1
 refine st_m (m_app (news:=[.int .i64 ((low 16 r:Nat):Int)]) (m:=1) Tryd.underlying71 inf3 rfl (by decide) hs12 ok (.tmp rfl rfl) (.tmp rfl rfl) rfl (hs12.at_ 1 rfl 0 rfl) (by simp [Value.oneCell']) (by omega) (by decide)) ?_
 rintro v13 w14 ⟨ok16,hs17⟩
 refine st (v:=v13) (x_assign (.tmp rfl rfl)) ?_
 refine c_nil (n_then (c_region (st (v:=.int .u16 ((r:Nat):Int)) (x_move (.tmp rfl hρ2)) ?_)))
 refine st (v:=.int .u16 ((r:Nat):Int)) (x_move (.tmp rfl hρ2)) ?_
 have hb18:(r - 1) < 65536:=by omega
 refine st (v:=.int .u16 (((r - 1):Nat):Int)) (x_sub (k:=.u16) (a:=((r:Nat):Int)) (b:=1) (.tmp rfl rfl) .const (wU rfl (by omega) hb18)) ?_
 have hb19:(r &&& (r - 1)) < 65536:=Nat.lt_of_le_of_lt Nat.and_le_left hr
 refine st (v:=.int .u16 (((r &&& (r - 1)):Nat):Int)) (x_and (k:=.u16) (m:=r) (n:=(r - 1)) rfl (.tmp rfl rfl) (.tmp rfl rfl) (show _ < 2 ^ 16 from hr) (show _ < 2 ^ 16 from hb18)) ?_
 refine st (v:=.int .u16 (((r &&& (r - 1)):Nat):Int)) (x_assign (.tmp rfl rfl)) ?_
 refine c_nil (n_block ?_)
 refine n_then ⟨_,_,rfl,?_,(r &&& (r - 1)),v13,(pre ++ [low 16 r]),rfl,rfl,(Nat.lt_of_le_of_lt Nat.and_le_left hr),(by rw [hl,lst_pred r (by omega) hr]; simp),(RowOk.snoc (enc:=encI) ok16),(St.rowSnoc (enc:=encI) hs17.drop2),rfl⟩
 exact (by rw [lst_pred r (by omega) hr]; simp)
 have hp5:¬ ((((r:Nat):Int):Int) ≠ 0):=of_decide_eq_false hc5
 refine c_cond_f (t:=false) (.tmp rfl (cVb hc5)) rfl ?_
 refine c_exit (x_then (x_then (x_here (n_then (c_seq (c_region (st (v:=v) (x_move (.tmp rfl hρ3)) ?_)))))))
 refine st (v:=v) (x_assign (.tmp rfl rfl)) ?_
 refine c_nil (n_then (c_ret (leave_ret (res_one (v:=v) rfl (.mk rfl rfl)) ?_)))
 have er:r = 0:=by omega
 have e:lst s = pre:=by rw [hl,er,lst,els_zero,List.append_nil]
 exact ⟨v,rfl,by rw [e]; exact ok,by rw [e]; exact hs4⟩
end Go.Proofs.YtcccaihjgoaehaaDoor

set_option linter.unusedVariables false
set_option linter.unusedSimpArgs false
namespace Go.Proofs.YtcccaihjgoaehaaDoor
open Go Go.FM Go.Proofs
attribute [local irreducible] wpList wpQuiet wpS Code.wp Calls
set_option maxHeartbeats 8000000 in
theorem end_spec {H:Hp} {w:World} {L:List Res} (hs:St H w (L)) (s:GState) {k_s:List Value} (h_s:kState.rep H s k_s) (hF1:0 ≤ s.Floor) (hF2:s.Floor ≤ 1073741824):Calls Tryd.prog 45 #[.agg k_s.toArray] w (fun e w' => e = .returned (.int .i64 (sEnd s))∧St H w' (L)):=by
 obtain ⟨A6,n7,c8,rfl,b1,⟨b2,b3⟩,⟨b4,b5⟩,hl9⟩:=h_s
 have:=hl9.len; have:n7 * 32 ≤ 140737488351232:=hl9.bnd; have:=hl9.le
 refine enter (args:=[.agg #[.int .u64 ((s.V.N:Nat):Int),.int .i64 s.V.P,.int .i64 s.Floor,.slice A6 n7 c8]]) (N:=9) Tryd.func45 rfl rfl rfl ?_
 refine c_seq (c_region (st_m (m_box (cs:=[.int .u64 ((s.V.N:Nat):Int),.int .i64 s.V.P,.int .i64 s.Floor,.slice A6 n7 c8]) hs (v:=.agg #[.int .u64 ((s.V.N:Nat):Int),.int .i64 s.V.P,.int .i64 s.Floor,.slice A6 n7 c8]) (.tmp rfl rfl) rfl) ?_))
 rintro _ w11 ⟨g10,rfl,hs13⟩
 refine st (v:=.int .i64 0) (x_assign .const) ?_
 refine c_nil (n_then (c_seq (c_region (st (v:=.pointer (some ⟨g10,0 + 2,none⟩)) (fa37_1 (.tmp rfl rfl)) ?_))))
 refine st (v:=.int .i64 s.Floor) (ld3 (.tmp rfl rfl) (hs13.cell 0 rfl (0 + 2) rfl)) ?_
 refine st (v:=.pointer (some ⟨g10,0 + 3,none⟩)) (fa37_2 (.tmp rfl rfl)) ?_
 refine st (v:=.slice A6 n7 c8) (ld35 (.tmp rfl rfl) (hs13.cell 0 rfl (0 + 3) rfl)) ?_
 refine st (v:=.int .i64 ((n7:Nat):Int)) (x_len (n:=n7) Tryd.underlying35 (.tmp rfl rfl)) ?_
 refine st (v:=.int .i64 (s.Floor + ((n7:Nat):Int))) (x_add (k:=.i64) (a:=s.Floor) (b:=((n7:Nat):Int)) (.tmp rfl rfl) (.tmp rfl rfl) (w64 (by omega) (by omega))) ?_
 refine st (v:=.int .i64 (s.Floor + ((n7:Nat):Int))) (x_assign (.tmp rfl rfl)) ?_
 refine c_nil (n_then (c_ret (leave_ret (res_one (v:=.int .i64 (s.Floor + ((n7:Nat):Int))) rfl (.mk rfl rfl)) ?_)))
 have hans14:sEnd s = (s.Floor + ((n7:Nat):Int)):=by unfold sEnd; omega
 rw [hans14]
 exact ⟨rfl,hs13.drop⟩
end Go.Proofs.YtcccaihjgoaehaaDoor

set_option linter.unusedVariables false
set_option linter.unusedSimpArgs false
namespace Go.Proofs.YtcccaihjgoaehaaDoor
open Go Go.FM Go.Proofs
attribute [local irreducible] wpList wpQuiet wpS Code.wp Calls
theorem e_overlaps50:Extern.find Tryd.f50 = some (Extern.SlicesOverlaps.overlaps #[40,40] #[4]):=by kernel_rfl
set_option maxHeartbeats 8000000 in
theorem insert_state {H:Hp} {w:World} {L:List Res} {v_s:Value} {c_s:List Value} {s:(List GState)}  {g_v:Nat} {k_v:List Value} {v:GState} (hs:St H w (row 37 4 v_s s.length c_s::obj g_v 37 k_v::L)) (ok_s:RowOk kState.sz v_s s.length c_s) (hk_s:kState.toKn.rows H s c_s) (i:Nat) (h_v:kState.rep H v k_v) (hi:i ≤ s.length) (hsz:(s.length + 1) * 48 ≤ 140737488355328):Calls Tryd.prog 44 #[v_s,.int .i64 ((i:Nat):Int),.slice (some ⟨g_v,0,none⟩) 1 1] w (fun e w' => ∃ (v0:Value) (cs0:List Value),e = .returned (v0)∧RowOk kState.sz v0 (s.take i ++ [v] ++ s.drop i).length cs0∧kState.toKn.rows H (s.take i ++ [v] ++ s.drop i) cs0∧St H w' (row 37 kState.sz v0 (s.take i ++ [v] ++ s.drop i).length cs0::L)):=by
 have:s.length ≤ 9223372036854775807:=ok_s.2.1
 obtain ⟨A6,n7,c8,rfl,b1,⟨b2,b3⟩,⟨b4,b5⟩,hl9⟩:=h_v
 have:=hl9.len; have:n7 * 32 ≤ 140737488351232:=hl9.bnd; have:=hl9.le
 refine enter (args:=[v_s,.int .i64 ((i:Nat):Int),.slice (some ⟨g_v,0,none⟩) 1 1]) (N:=95) Tryd.func44 rfl rfl rfl ?_
 refine c_seq (c_region (st (v:=.slice none 0 0) (x_assign .const) ?_))
 refine c_nil (n_then (c_seq (c_region (st (v:=v_s) (x_move (.tmp rfl rfl)) ?_))))
 refine st (v:=.int .i64 ((i:Nat):Int)) (x_move (.tmp rfl rfl)) ?_
 obtain ⟨A10,c11,hv12,hc13⟩:=ok_s.slice
 refine st (v:=.slice (cutA A10 c11 (((i:Nat):Int)).toNat kState.sz) (s.length - (((i:Nat):Int)).toNat) (c11 - (((i:Nat):Int)).toNat)) (sl_l (d:=kState) Tryd.underlying40 inf37 (a:=((i:Nat):Int)) (.tmp rfl hv12) (.tmp rfl rfl) (by omega) (by omega) (by omega)) ?_
 refine c_nil (n_then (c_seq (c_region (st (v:=.slice (some ⟨g_v,0,none⟩) 1 1) (x_move (.tmp rfl rfl)) ?_))))
 refine st (v:=.int .i64 ((1:Nat):Int)) (x_len (n:=1) Tryd.underlying40 (.tmp rfl rfl)) ?_
 refine st (v:=.int .i64 ((1:Nat):Int)) (x_assign (.tmp rfl rfl)) ?_
 refine c_nil (n_then (c_seq (c_seq (c_region (st (v:=.int .i64 ((1:Nat):Int)) (x_move (.tmp rfl rfl)) ?_)))))
 refine st (v:=.bool false) (x_eql (k:=.i64) (a:=((1:Nat):Int)) (b:=0) (.tmp rfl rfl) .const) ?_
 refine c_nil (n_then (c_cond_f (t:=false) (.tmp rfl rfl) rfl ?_))
 refine c_skip (n_then (c_seq (c_region (st (v:=v_s) (x_move (.tmp rfl rfl)) ?_))))
 obtain ⟨A14,c15,hv16,hc17⟩:=ok_s.slice
 refine st (v:=.int .i64 ((s.length:Nat):Int)) (x_len (n:=s.length) Tryd.underlying40 (.tmp rfl hv16)) ?_
 refine st (v:=.int .i64 ((s.length:Nat):Int)) (x_assign (.tmp rfl rfl)) ?_
 refine c_nil (n_then (c_seq (c_seq (c_region (st (v:=.int .i64 ((i:Nat):Int)) (x_move (.tmp rfl rfl)) ?_)))))
 refine st (v:=.int .i64 ((s.length:Nat):Int)) (x_move (.tmp rfl rfl)) ?_
 refine st (v:=.bool (decide ((((i:Nat):Int):Int) = ((s.length:Nat):Int)))) (x_eql (k:=.i64) (a:=((i:Nat):Int)) (b:=((s.length:Nat):Int)) (.tmp rfl rfl) (.tmp rfl rfl)) ?_
 refine c_nil (n_then ?_)
 rcases Bool.eq_false_or_eq_true (decide ((((i:Nat):Int):Int) = ((s.length:Nat):Int))) with hc18 | hc18
 have hp18:(((i:Nat):Int):Int) = ((s.length:Nat):Int):=of_decide_eq_true hc18
 refine c_cond_t (t:=true) (.tmp rfl (cVb hc18)) rfl ?_
 refine c_seq (c_region (st (v:=v_s) (x_move (.tmp rfl rfl)) ?_))
 refine st (v:=.slice (some ⟨g_v,0,none⟩) 1 1) (x_move (.tmp rfl rfl)) ?_
 have hr26:kState.rep H v [.int .u64 ((v.V.N:Nat):Int),.int .i64 v.V.P,.int .i64 v.Floor,.slice A6 n7 c8]:=⟨A6,n7,c8,rfl,b1,⟨b2,b3⟩,⟨b4,b5⟩,hl9⟩
 refine st_m (m_appK (d:=kState) (ys:=[v]) (news:=[.int .u64 ((v.V.N:Nat):Int),.int .i64 v.V.P,.int .i64 v.Floor,.slice A6 n7 c8]) Tryd.underlying40 inf37 rfl hs ok_s hk_s (.tmp rfl rfl) (.tmp rfl rfl) (Kn.rows_one hr26) rfl (hs.at_ 1 rfl 0 rfl) (by have:([v]:List GState).length = 1:=rfl; omega) (by decide)) ?_
 rintro v19 w20 ⟨cs21,ok22,hk23,hs24⟩
 have hn25:(s ++ [v]).length = s.length + 1:=by simp
 refine st (v:=v19) (x_assign (.tmp rfl rfl)) ?_
 refine c_nil (n_then (c_ret (r_then (leave_ret (res_one (v:=v19) rfl (.mk rfl rfl)) ?_))))
 have hin:i = s.length:=by omega
 have hans:s.take i ++ [v] ++ s.drop i = s ++ [v]:=by rw [hin,List.take_length,List.drop_length,List.append_nil]
 rw [hans]
 exact ⟨v19,cs21,rfl,ok22,hk23,(hs24.p1).drop⟩
 have hp18:¬ ((((i:Nat):Int):Int) = ((s.length:Nat):Int)):=of_decide_eq_false hc18
 refine c_cond_f (t:=false) (.tmp rfl (cVb hc18)) rfl ?_
 refine c_skip (n_then (c_seq (c_seq (c_region ?_))))
 obtain ⟨g27,cap28,rfl⟩:=ok_s.pos (by omega)
 have hcl:c_s.length = s.length * 4:=ok_s.1
 have hcp:s.length ≤ cap28:=by obtain ⟨A,c,h1,h2⟩:=ok_s.slice; injection h1 with _ _ h1; rw [h1]; exact h2
 have h1s:∀ u ∈ c_s,u.oneCell' = true:=Kn.rows_one_cell hk_s
 have hmx:=ok_s.2.1
 have hyl:([.int .u64 ((v.V.N:Nat):Int),.int .i64 v.V.P,.int .i64 v.Floor,.slice A6 n7 c8]:List Value).length = 1 * 4:=rfl
 skip
 refine st (v:=.int .i64 ((s.length:Nat):Int)) (x_move (.tmp rfl rfl)) ?_
 refine st (v:=.int .i64 ((1:Nat):Int)) (x_move (.tmp rfl rfl)) ?_
 refine st (v:=.int .i64 (((s.length + 1):Nat):Int)) (x_add (k:=.i64) (a:=((s.length:Nat):Int)) (b:=((1:Nat):Int)) (.tmp rfl rfl) (.tmp rfl rfl) ((w64 (by omega) (by omega)).trans (by omega))) ?_
 refine st (v:=.slice (some ⟨g27,0,none⟩) s.length cap28) (x_move (.tmp rfl rfl)) ?_
 refine st (v:=.int .i64 ((cap28:Nat):Int)) (x_cap (c:=cap28) Tryd.underlying40 (.tmp rfl rfl)) ?_
 refine st (v:=.bool (decide ((((cap28:Nat):Int):Int) < (((s.length + 1):Nat):Int)))) (x_gtr (k:=.i64) (a:=(((s.length + 1):Nat):Int)) (b:=((cap28:Nat):Int)) (.tmp rfl rfl) (.tmp rfl rfl)) ?_
 refine c_nil (n_then ?_)
 rcases Bool.eq_false_or_eq_true (decide ((((cap28:Nat):Int):Int) < (((s.length + 1):Nat):Int))) with hc29 | hc29
 have hp29:(((cap28:Nat):Int):Int) < (((s.length + 1):Nat):Int):=of_decide_eq_true hc29
 refine c_cond_t (t:=true) (.tmp rfl (cVb hc29)) rfl ?_
 refine c_seq (c_region (st (v:=.slice (some ⟨g27,0,none⟩) s.length cap28) (x_move (.tmp rfl rfl)) ?_))
 refine st (v:=.int .i64 ((i:Nat):Int)) (x_move (.tmp rfl rfl)) ?_
 refine st (v:=.slice (some ⟨g27,0,none⟩) i cap28) (sl_h (d:=kState) Tryd.underlying40 inf37 (a:=((i:Nat):Int)) (.tmp rfl rfl) (.tmp rfl rfl) (by omega) (by omega)) ?_
 refine st (v:=.int .i64 ((s.length:Nat):Int)) (x_move (.tmp rfl rfl)) ?_
 refine st (v:=.int .i64 ((1:Nat):Int)) (x_move (.tmp rfl rfl)) ?_
 refine st (v:=.int .i64 (((s.length + 1):Nat):Int)) (x_add (k:=.i64) (a:=((s.length:Nat):Int)) (b:=((1:Nat):Int)) (.tmp rfl rfl) (.tmp rfl rfl) ((w64 (by omega) (by omega)).trans (by omega))) ?_
 refine st (v:=.int .i64 ((i:Nat):Int)) (x_move (.tmp rfl rfl)) ?_
 refine st (v:=.int .i64 ((((s.length + 1) - i):Nat):Int)) (x_sub (k:=.i64) (a:=(((s.length + 1):Nat):Int)) (b:=((i:Nat):Int)) (.tmp rfl rfl) (.tmp rfl rfl) ((w64 (by omega) (by omega)).trans (by omega))) ?_
 refine st_m (m_appZeros (xs:=c_s.take (i * 4)) (k:=s.length + 1 - i) Tryd.underlying40 Tryd.underlying3 inf37 rfl (by decide) hs (.tmp rfl rfl) (.inr ⟨_,rfl,hs.rowAt 0 rfl rfl 0 (take_self _ _)⟩) (by rw [List.length_take,hcl]; exact Nat.min_eq_left (Nat.mul_le_mul_right _ (by omega))) (.tmp rfl rfl) (by omega) (by omega) (by omega) (by decide)) ?_
 rintro v30 w31 ⟨ok32,hs33⟩
 obtain ⟨g34,cap35,rfl⟩:=ok32.pos (by omega)
 have hc2:i + (s.length + 1 - i) ≤ cap35:=by obtain ⟨A,c,h1,h2⟩:=ok32.slice; injection h1 with _ _ h1; rw [h1]; exact h2
 have ok32:RowOk 4 (.slice (some ⟨g34,0,none⟩) (i + (s.length + 1 - i)) cap35) (i + (s.length + 1 - i)) (c_s.take (i * 4) ++ (List.replicate (s.length + 1 - i) ([.int .u64 0,.int .i64 0,.int .i64 0,.slice none 0 0]:List Value)).flatten):=ok32
 have hs33:St H _ (row 37 4 (.slice (some ⟨g34,0,none⟩) (i + (s.length + 1 - i)) cap35) (i + (s.length + 1 - i)) (c_s.take (i * 4) ++ (List.replicate (s.length + 1 - i) ([.int .u64 0,.int .i64 0,.int .i64 0,.slice none 0 0]:List Value)).flatten)::row 37 4 (.slice (some ⟨g27,0,none⟩) s.length cap28) s.length c_s::obj g_v 37 (clState v A6 n7 c8)::L):=hs33
 refine st (v:=.slice (some ⟨g34,0,none⟩) (i + (s.length + 1 - i)) cap35) (x_assign (.tmp rfl rfl)) ?_
 refine c_nil (n_then (c_seq (c_region (st (v:=.slice (some ⟨g34,0,none⟩) (i + (s.length + 1 - i)) cap35) (x_move (.tmp rfl rfl)) ?_))))
 refine st (v:=.int .i64 ((i:Nat):Int)) (x_move (.tmp rfl rfl)) ?_
 refine st (v:=.slice (cutA (some ⟨g34,0,none⟩) cap35 i kState.sz) ((i + (s.length + 1 - i)) - i) (cap35 - i)) (sl_l (d:=kState) Tryd.underlying40 inf37 (a:=((i:Nat):Int)) (.tmp rfl rfl) (.tmp rfl rfl) (by omega) (by omega) (by omega)) ?_
 refine st (v:=.slice (some ⟨g_v,0,none⟩) 1 1) (x_move (.tmp rfl rfl)) ?_
 have hx38:((c_s.take (i * 4) ++ (List.replicate (s.length + 1 - i) ([.int .u64 0,.int .i64 0,.int .i64 0,.slice none 0 0]:List Value)).flatten)).length = (i + (s.length + 1 - i)) * 4:=by exact ok32.1
 refine st_m (m_copyRow (news:=([.int .u64 ((v.V.N:Nat):Int),.int .i64 v.V.P,.int .i64 v.Floor,.slice A6 n7 c8]:List Value)) (k:=1) (o:=i * 4) Tryd.underlying40 inf37 hs33 rfl (.tmp rfl (congrArg (fun A => Value.slice A ((i + (s.length + 1 - i)) - i) (cap35 - i)) (cutA_some (size:=4) (by omega)))) (.tmp rfl rfl) (by simp only [Nat.min_def]; split <;> omega) (hs33.at_ 2 rfl 0 rfl) hyl (by rw [hx38]; omega) (by simp [Value.oneCell'])) ?_
 rintro _ w36 ⟨rfl,hs37⟩
 refine c_nil (n_then (c_seq (s_region (L:=row 37 4 (.slice (some ⟨g34,0,none⟩) (i + (s.length + 1 - i)) cap35) (i + (s.length + 1 - i)) (splice (c_s.take (i * 4) ++ (List.replicate (s.length + 1 - i) ([.int .u64 0,.int .i64 0,.int .i64 0,.slice none 0 0]:List Value)).flatten) (i * 4) ([.int .u64 ((v.V.N:Nat):Int),.int .i64 v.V.P,.int .i64 v.Floor,.slice A6 n7 c8]:List Value))::row 37 4 (.slice (some ⟨g27,0,none⟩) s.length cap28) s.length c_s::obj g_v 37 (clState v A6 n7 c8)::L) (L':=row 37 4 (.slice (some ⟨g27,0,none⟩) s.length cap28) s.length c_s::obj g_v 37 (clState v A6 n7 c8)::L) none [(0,true),(1,true),(2,true),(3,true),(4,true),(5,true),(6,true),(7,true),(8,false)] mixed hs37 (fun u hu => hu.drop) (by kernel_rfl) ?_)))
 intro w39 hs40
 refine s_st (k:=0) (v:=.slice (some ⟨g34,0,none⟩) (i + (s.length + 1 - i)) cap35) rfl (fun w hs => (x_move (.tmp rfl rfl))) ?_
 refine s_st (k:=1) (v:=.int .i64 ((i:Nat):Int)) rfl (fun w hs => (x_move (.tmp rfl rfl))) ?_
 refine s_st (k:=2) (v:=.int .i64 ((1:Nat):Int)) rfl (fun w hs => (x_move (.tmp rfl rfl))) ?_
 refine s_st (k:=3) (v:=.int .i64 (((i + 1):Nat):Int)) rfl (fun w hs => (x_add (k:=.i64) (a:=((i:Nat):Int)) (b:=((1:Nat):Int)) (.tmp rfl rfl) (.tmp rfl rfl) ((w64 (by omega) (by omega)).trans (by omega)))) ?_
 refine s_st (k:=4) (v:=.slice (cutA (some ⟨g34,0,none⟩) cap35 (i + 1) kState.sz) ((i + (s.length + 1 - i)) - (i + 1)) (cap35 - (i + 1))) rfl (fun w hs => (sl_l (d:=kState) Tryd.underlying40 inf37 (a:=(((i + 1):Nat):Int)) (.tmp rfl rfl) (.tmp rfl rfl) (by omega) (by omega) (by omega))) ?_
 refine s_st (k:=5) (v:=.slice (some ⟨g27,0,none⟩) s.length cap28) rfl (fun w hs => (x_move (.tmp rfl rfl))) ?_
 refine s_st (k:=6) (v:=.int .i64 ((i:Nat):Int)) rfl (fun w hs => (x_move (.tmp rfl rfl))) ?_
 refine s_st (k:=7) (v:=.slice (cutA (some ⟨g27,0,none⟩) cap28 i kState.sz) (s.length - i) (cap28 - i)) rfl (fun w hs => (sl_l (d:=kState) Tryd.underlying40 inf37 (a:=((i:Nat):Int)) (.tmp rfl rfl) (.tmp rfl rfl) (by omega) (by omega) (by omega))) ?_
 refine s_eff (k:=8) rfl ?_
 have hdl:(c_s.drop (i * 4)).length = (s.length - i) * 4:=by rw [List.length_drop,hcl,Nat.sub_mul]
 have hx43:((splice (c_s.take (i * 4) ++ (List.replicate (s.length + 1 - i) ([.int .u64 0,.int .i64 0,.int .i64 0,.slice none 0 0]:List Value)).flatten) (i * 4) ([.int .u64 ((v.V.N:Nat):Int),.int .i64 v.V.P,.int .i64 v.Floor,.slice A6 n7 c8]:List Value))).length = (i + (s.length + 1 - i)) * 4:=by rw [splice_length (by rw [hx38,hyl]; omega),hx38]
 refine st_m (m_copyRow (news:=(c_s.drop (i * 4))) (k:=s.length - i) (o:=(i + 1) * 4) Tryd.underlying40 inf37 hs40 rfl (.tmp rfl (congrArg (fun A => Value.slice A ((i + (s.length + 1 - i)) - (i + 1)) (cap35 - (i + 1))) (cutA_some (size:=4) (by omega)))) (.tmp rfl (congrArg (fun A => Value.slice A (s.length - i) (cap28 - i)) (cutA_some (size:=4) (by omega)))) (by simp only [Nat.min_def]; split <;> omega) (hs40.rowAt 1 rfl rfl (i * 4) (drop_self _ _)) hdl (by rw [hx43]; omega) (fun u hu => h1s u (List.mem_of_mem_drop hu))) ?_
 rintro _ w41 ⟨rfl,hs42⟩
 refine s_on (S':=fun u => St H u (row 37 4 (.slice (some ⟨g27,0,none⟩) s.length cap28) s.length c_s::obj g_v 37 (clState v A6 n7 c8)::L)) (fun u hu => hu) hs42.drop ?_
 refine s_nil ?_
 refine n_then (c_seq (c_region (st (v:=.slice (some ⟨g34,0,none⟩) (i + (s.length + 1 - i)) cap35) (x_move (.tmp rfl rfl)) ?_)))
 refine st (v:=.slice (some ⟨g34,0,none⟩) (i + (s.length + 1 - i)) cap35) (x_assign (.tmp rfl rfl)) ?_
 refine c_nil (n_then (c_ret (r_then (leave_ret (res_one (v:=.slice (some ⟨g34,0,none⟩) (i + (s.length + 1 - i)) cap35) rfl (.mk rfl rfl)) ?_))))
 have hce:(splice (splice (c_s.take (i * 4) ++ (List.replicate (s.length + 1 - i) ([.int .u64 0,.int .i64 0,.int .i64 0,.slice none 0 0]:List Value)).flatten) (i * 4) ([.int .u64 ((v.V.N:Nat):Int),.int .i64 v.V.P,.int .i64 v.Floor,.slice A6 n7 c8]:List Value)) ((i + 1) * 4) (c_s.drop (i * 4))) = (c_s.take (i * 4) ++ ([.int .u64 ((v.V.N:Nat):Int),.int .i64 v.V.P,.int .i64 v.Floor,.slice A6 n7 c8]:List Value) ++ c_s.drop (i * 4)):=ins_grow hcl rfl (by rw [List.length_flatten]; simp) (by omega)
 have hrw:=rows_insert (i:=i) hk_s (show kState.rep H v ([.int .u64 ((v.V.N:Nat):Int),.int .i64 v.V.P,.int .i64 v.Floor,.slice A6 n7 c8]:List Value) from ⟨A6,n7,c8,rfl,b1,⟨b2,b3⟩,⟨b4,b5⟩,hl9⟩) (by omega)
 have hlen9:(s.take i ++ [v] ++ s.drop i).length = s.length + 1:=by simp; omega
 have hs9:=((hs42.p1).drop.p1).drop
 rw [hce] at hs9
 rw [show i + (s.length + 1 - i) = s.length + 1 from by omega,← hlen9] at hs9
 have ok9:RowOk kState.sz (.slice (some ⟨g34,0,none⟩) (s.take i ++ [v] ++ s.drop i).length cap35) (s.take i ++ [v] ++ s.drop i).length (c_s.take (i * 4) ++ ([.int .u64 ((v.V.N:Nat):Int),.int .i64 v.V.P,.int .i64 v.Floor,.slice A6 n7 c8]:List Value) ++ c_s.drop (i * 4)):=⟨hrw.1,by rw [hlen9]; have:=ok32.2.1; omega,.inr ⟨_,_,rfl,by rw [hlen9]; omega⟩⟩
 have hv9:((.slice (some ⟨g34,0,none⟩) (i + (s.length + 1 - i)) cap35):Value) = .slice (some ⟨g34,0,none⟩) (s.take i ++ [v] ++ s.drop i).length cap35:=by rw [hlen9]; congr 1; omega
 rw [hv9]
 exact ⟨_,_,rfl,ok9,hrw,hs9⟩
 have hp29:¬ ((((cap28:Nat):Int):Int) < (((s.length + 1):Nat):Int)):=of_decide_eq_false hc29
 refine c_cond_f (t:=false) (.tmp rfl (cVb hc29)) rfl ?_
 refine c_skip (n_then (c_seq (c_region (st (v:=.slice (some ⟨g27,0,none⟩) s.length cap28) (x_move (.tmp rfl rfl)) ?_))))
 refine st (v:=.int .i64 ((s.length:Nat):Int)) (x_move (.tmp rfl rfl)) ?_
 refine st (v:=.int .i64 ((1:Nat):Int)) (x_move (.tmp rfl rfl)) ?_
 refine st (v:=.int .i64 (((s.length + 1):Nat):Int)) (x_add (k:=.i64) (a:=((s.length:Nat):Int)) (b:=((1:Nat):Int)) (.tmp rfl rfl) (.tmp rfl rfl) ((w64 (by omega) (by omega)).trans (by omega))) ?_
 refine st (v:=.slice (some ⟨g27,0,none⟩) (s.length + 1) cap28) (sl_h (d:=kState) Tryd.underlying40 inf37 (a:=(((s.length + 1):Nat):Int)) (.tmp rfl rfl) (.tmp rfl rfl) (by omega) (by omega)) ?_
 obtain ⟨junk44,hj45,ok46,hs47⟩:=hs.stretch (k:=s.length + 1) (by omega) (by omega)
 refine st (v:=.slice (some ⟨g27,0,none⟩) (s.length + 1) cap28) (x_assign (.tmp rfl rfl)) ?_
 refine c_nil (n_then (c_seq (c_seq (c_region (st (v:=.slice (some ⟨g_v,0,none⟩) 1 1) (x_move (.tmp rfl rfl)) ?_)))))
 refine st (v:=.slice (some ⟨g27,0,none⟩) (s.length + 1) cap28) (x_move (.tmp rfl rfl)) ?_
 refine st (v:=.int .i64 ((i:Nat):Int)) (x_move (.tmp rfl rfl)) ?_
 refine st (v:=.int .i64 ((1:Nat):Int)) (x_move (.tmp rfl rfl)) ?_
 refine st (v:=.int .i64 (((i + 1):Nat):Int)) (x_add (k:=.i64) (a:=((i:Nat):Int)) (b:=((1:Nat):Int)) (.tmp rfl rfl) (.tmp rfl rfl) ((w64 (by omega) (by omega)).trans (by omega))) ?_
 refine st (v:=.slice (cutA (some ⟨g27,0,none⟩) cap28 (i + 1) kState.sz) ((s.length + 1) - (i + 1)) (cap28 - (i + 1))) (sl_l (d:=kState) Tryd.underlying40 inf37 (a:=(((i + 1):Nat):Int)) (.tmp rfl rfl) (.tmp rfl rfl) (by omega) (by omega) (by omega)) ?_
 refine st (v:=.bool false) (x_overlaps (i:=1) (j:=0) Tryd.func50 (by kernel_rfl) (by kernel_rfl) (by kernel_rfl) (e_overlaps50) Tryd.underlying40 inf37 hs47 rfl rfl (by decide) (by omega) .func (.tmp rfl rfl) (.tmp rfl (congrArg (fun A => Value.slice A ((s.length + 1) - (i + 1)) (cap28 - (i + 1))) (cutA_some (size:=4) (by omega))))) ?_
 refine st (v:=.bool true) (x_not (b:=false) (.tmp rfl rfl)) ?_
 refine c_nil (n_then (c_cond_t (t:=true) (.tmp rfl rfl) rfl ?_))
 refine c_seq (s_region (L:=row 37 4 (.slice (some ⟨g27,0,none⟩) (s.length + 1) cap28) (s.length + 1) (c_s ++ junk44)::obj g_v 37 (clState v A6 n7 c8)::L) (L':=obj g_v 37 (clState v A6 n7 c8)::L) none [(0,true),(1,true),(2,true),(3,true),(4,true),(5,true),(6,true),(7,true),(8,false)] mixed hs47 (fun u hu => hu.drop) (by kernel_rfl) ?_)
 intro w48 hs49
 refine s_st (k:=0) (v:=.slice (some ⟨g27,0,none⟩) (s.length + 1) cap28) rfl (fun w hs => (x_move (.tmp rfl rfl))) ?_
 refine s_st (k:=1) (v:=.int .i64 ((i:Nat):Int)) rfl (fun w hs => (x_move (.tmp rfl rfl))) ?_
 refine s_st (k:=2) (v:=.int .i64 ((1:Nat):Int)) rfl (fun w hs => (x_move (.tmp rfl rfl))) ?_
 refine s_st (k:=3) (v:=.int .i64 (((i + 1):Nat):Int)) rfl (fun w hs => (x_add (k:=.i64) (a:=((i:Nat):Int)) (b:=((1:Nat):Int)) (.tmp rfl rfl) (.tmp rfl rfl) ((w64 (by omega) (by omega)).trans (by omega)))) ?_
 refine s_st (k:=4) (v:=.slice (cutA (some ⟨g27,0,none⟩) cap28 (i + 1) kState.sz) ((s.length + 1) - (i + 1)) (cap28 - (i + 1))) rfl (fun w hs => (sl_l (d:=kState) Tryd.underlying40 inf37 (a:=(((i + 1):Nat):Int)) (.tmp rfl rfl) (.tmp rfl rfl) (by omega) (by omega) (by omega))) ?_
 refine s_st (k:=5) (v:=.slice (some ⟨g27,0,none⟩) (s.length + 1) cap28) rfl (fun w hs => (x_move (.tmp rfl rfl))) ?_
 refine s_st (k:=6) (v:=.int .i64 ((i:Nat):Int)) rfl (fun w hs => (x_move (.tmp rfl rfl))) ?_
 refine s_st (k:=7) (v:=.slice (cutA (some ⟨g27,0,none⟩) cap28 i kState.sz) ((s.length + 1) - i) (cap28 - i)) rfl (fun w hs => (sl_l (d:=kState) Tryd.underlying40 inf37 (a:=((i:Nat):Int)) (.tmp rfl rfl) (.tmp rfl rfl) (by omega) (by omega) (by omega))) ?_
 refine s_eff (k:=8) rfl ?_
 have hdl:(c_s.drop (i * 4)).length = (s.length - i) * 4:=by rw [List.length_drop,hcl,Nat.sub_mul]
 have hx52:((c_s ++ junk44)).length = (s.length + 1) * 4:=by exact ok46.1
 refine st_m (m_copyRow (news:=(c_s.drop (i * 4))) (k:=s.length - i) (o:=(i + 1) * 4) Tryd.underlying40 inf37 hs49 rfl (.tmp rfl (congrArg (fun A => Value.slice A ((s.length + 1) - (i + 1)) (cap28 - (i + 1))) (cutA_some (size:=4) (by omega)))) (.tmp rfl (congrArg (fun A => Value.slice A ((s.length + 1) - i) (cap28 - i)) (cutA_some (size:=4) (by omega)))) (by simp only [Nat.min_def]; split <;> omega) (hs49.rowAt 0 rfl rfl (i * 4) (drop_app _ _ _ (by rw [hcl]; exact Nat.mul_le_mul_right _ (by omega)))) hdl (by rw [hx52]; omega) (fun u hu => h1s u (List.mem_of_mem_drop hu))) ?_
 rintro _ w50 ⟨rfl,hs51⟩
 refine s_on (S':=fun u => St H u (obj g_v 37 (clState v A6 n7 c8)::L)) (fun u hu => hu) hs51.drop ?_
 refine s_nil ?_
 refine n_then (c_seq (c_region (st (v:=.slice (some ⟨g27,0,none⟩) (s.length + 1) cap28) (x_move (.tmp rfl rfl)) ?_)))
 refine st (v:=.int .i64 ((i:Nat):Int)) (x_move (.tmp rfl rfl)) ?_
 refine st (v:=.slice (cutA (some ⟨g27,0,none⟩) cap28 i kState.sz) ((s.length + 1) - i) (cap28 - i)) (sl_l (d:=kState) Tryd.underlying40 inf37 (a:=((i:Nat):Int)) (.tmp rfl rfl) (.tmp rfl rfl) (by omega) (by omega) (by omega)) ?_
 refine st (v:=.slice (some ⟨g_v,0,none⟩) 1 1) (x_move (.tmp rfl rfl)) ?_
 have hx55:((splice (c_s ++ junk44) ((i + 1) * 4) (c_s.drop (i * 4)))).length = (s.length + 1) * 4:=by rw [splice_length (by rw [hx52,hdl]; omega),hx52]
 refine st_m (m_copyRow (news:=([.int .u64 ((v.V.N:Nat):Int),.int .i64 v.V.P,.int .i64 v.Floor,.slice A6 n7 c8]:List Value)) (k:=1) (o:=i * 4) Tryd.underlying40 inf37 hs51 rfl (.tmp rfl (congrArg (fun A => Value.slice A ((s.length + 1) - i) (cap28 - i)) (cutA_some (size:=4) (by omega)))) (.tmp rfl rfl) (by simp only [Nat.min_def]; split <;> omega) (hs51.at_ 1 rfl 0 rfl) hyl (by rw [hx55]; omega) (by simp [Value.oneCell'])) ?_
 rintro _ w53 ⟨rfl,hs54⟩
 refine c_nil (n_then (c_seq (c_region (st (v:=.slice (some ⟨g27,0,none⟩) (s.length + 1) cap28) (x_move (.tmp rfl rfl)) ?_))))
 refine st (v:=.slice (some ⟨g27,0,none⟩) (s.length + 1) cap28) (x_assign (.tmp rfl rfl)) ?_
 refine c_nil (n_then (c_ret (r_then (leave_ret (res_one (v:=.slice (some ⟨g27,0,none⟩) (s.length + 1) cap28) rfl (.mk rfl rfl)) ?_))))
 have hce:(splice (splice (c_s ++ junk44) ((i + 1) * 4) (c_s.drop (i * 4))) (i * 4) ([.int .u64 ((v.V.N:Nat):Int),.int .i64 v.V.P,.int .i64 v.Floor,.slice A6 n7 c8]:List Value)) = (c_s.take (i * 4) ++ ([.int .u64 ((v.V.N:Nat):Int),.int .i64 v.V.P,.int .i64 v.Floor,.slice A6 n7 c8]:List Value) ++ c_s.drop (i * 4)):=ins_shift hcl rfl (by simpa using hj45) (by omega)
 have hrw:=rows_insert (i:=i) hk_s (show kState.rep H v ([.int .u64 ((v.V.N:Nat):Int),.int .i64 v.V.P,.int .i64 v.Floor,.slice A6 n7 c8]:List Value) from ⟨A6,n7,c8,rfl,b1,⟨b2,b3⟩,⟨b4,b5⟩,hl9⟩) (by omega)
 have hlen9:(s.take i ++ [v] ++ s.drop i).length = s.length + 1:=by simp; omega
 have hs9:=(hs54.p1).drop
 rw [hce] at hs9
 rw [← hlen9] at hs9
 have ok9:RowOk kState.sz (.slice (some ⟨g27,0,none⟩) (s.take i ++ [v] ++ s.drop i).length cap28) (s.take i ++ [v] ++ s.drop i).length (c_s.take (i * 4) ++ ([.int .u64 ((v.V.N:Nat):Int),.int .i64 v.V.P,.int .i64 v.Floor,.slice A6 n7 c8]:List Value) ++ c_s.drop (i * 4)):=⟨hrw.1,by rw [hlen9]; have:=ok46.2.1; omega,.inr ⟨_,_,rfl,by rw [hlen9]; omega⟩⟩
 have hv9:((.slice (some ⟨g27,0,none⟩) (s.length + 1) cap28):Value) = .slice (some ⟨g27,0,none⟩) (s.take i ++ [v] ++ s.drop i).length cap28:=by rw [hlen9]
 rw [hv9]
 exact ⟨_,_,rfl,ok9,hrw,hs9⟩
set_option maxHeartbeats 8000000 in
theorem index_row {H:Hp} {w:World} {L:List Res} {v_l:Value} {c_l:List Value} {l:(List GState)} (hs:St H w (row 37 4 v_l l.length c_l::L)) (ok_l:RowOk kState.sz v_l l.length c_l) (hk_l:kState.toKn.rows H l c_l) {f_p:Nat} {cap_p:Array Value} (p:GState → Bool) (cb_p:Cb Tryd.prog f_p) (h_p:∀ {w:World} {L:List Res} (hs:St H w L) (x0_:GState) {k_x0_:List Value} (h_x0_:kState.rep H x0_ k_x0_),Calls Tryd.prog f_p (#[.agg k_x0_.toArray] ++ cap_p) w (fun e w' => e = .returned (.bool (p x0_))∧St H w' L)):Calls Tryd.prog 52 #[v_l,.func (.func f_p) #[] cap_p] w (fun e w' => e = .returned (.int .i64 (idxP p l))∧St H w' (row 37 4 v_l l.length c_l::L)):=by
 have:l.length ≤ 9223372036854775807:=ok_l.2.1
 refine enter (args:=[v_l,.func (.func f_p) #[] cap_p]) (N:=19) Tryd.func52 rfl rfl rfl ?_
 refine c_seq (c_region (st (v:=.int .i64 0) (x_assign .const) ?_))
 refine c_nil (n_then (c_seq (c_seq (c_region (st (v:=v_l) (x_move (.tmp rfl rfl)) ?_)))))
 obtain ⟨A1,c2,hv3,hc4⟩:=ok_l.slice
 refine st (v:=.int .i64 ((l.length:Nat):Int)) (x_len (n:=l.length) Tryd.underlying40 (.tmp rfl hv3)) ?_
 refine st (v:=.int .i64 0) (x_move .const) ?_
 refine c_nil (n_then (c_block (c_loop (fun ρ w mm => ∃ (i:Nat),ρ 0 = v_l∧ρ 1 = .func (.func f_p) #[] cap_p∧ρ 7 = .int .i64 ((l.length:Nat):Int)∧ρ 8 = .int .i64 ((i:Nat):Int)∧(i ≤ l.length)∧(∀ (j:Nat) (y:GState),j < i → l[j]? = some y → p y = false)∧St H w (row 37 4 v_l l.length c_l::L)∧mm = l.length - i) _ ⟨0,rfl,rfl,rfl,rfl,(by omega),(fun j y h _ => absurd h (Nat.not_lt_zero _)),hs,rfl⟩ ?_)))
 rintro ρ w mm ⟨i,hρ6,hρ7,hρ8,hρ9,hi,ha,hs10,rfl⟩
 refine c_seq (c_region (st (v:=.bool (decide ((((i:Nat):Int):Int) < ((l.length:Nat):Int)))) (x_lss (k:=.i64) (a:=((i:Nat):Int)) (b:=((l.length:Nat):Int)) (.tmp rfl hρ9) (.tmp rfl hρ8)) ?_))
 refine c_nil (n_then (c_seq ?_))
 rcases Bool.eq_false_or_eq_true (decide ((((i:Nat):Int):Int) < ((l.length:Nat):Int))) with hc11 | hc11
 have hp11:(((i:Nat):Int):Int) < ((l.length:Nat):Int):=of_decide_eq_true hc11
 refine c_cond_t (t:=true) (.tmp rfl (cVb hc11)) rfl ?_
 refine c_skip (n_then (c_seq (c_block (c_seq (c_region (st (v:=.int .i64 ((i:Nat):Int)) (x_move (.tmp rfl hρ9)) ?_))))))
 refine st (v:=.int .i64 ((i:Nat):Int)) (x_assign (.tmp rfl rfl)) ?_
 refine c_nil (n_then (c_seq (c_region (st (v:=.func (.func f_p) #[] cap_p) (x_move (.tmp rfl hρ7)) ?_))))
 refine st (v:=v_l) (x_move (.tmp rfl hρ6)) ?_
 refine st (v:=.int .i64 ((i:Nat):Int)) (x_move (.tmp rfl rfl)) ?_
 obtain ⟨g12,c13,hv14⟩:=ok_l.pos (by omega)
 obtain ⟨e15,cs16,hx17,hr18,hsub19⟩:=Kn.rows_get (i:=i) hk_l (by omega)
 obtain ⟨A25,n26,c27,rfl,b20,⟨b21,b22⟩,⟨b23,b24⟩,hl28⟩:=hr18
 have:=hl28.len; have:n26 * 32 ≤ 140737488351232:=hl28.bnd; have:=hl28.le
 refine st (v:=.pointer (some ⟨g12,(i * 4),none⟩)) (ixo40 (.tmp rfl hv14) rfl (i:=((i:Nat):Int)) (.tmp rfl rfl) (by omega) (by omega) (by omega)) ?_
 refine st (v:=.agg #[.int .u64 ((e15.V.N:Nat):Int),.int .i64 e15.V.P,.int .i64 e15.Floor,.slice A25 n26 c27]) (ld37 (cs:=[.int .u64 ((e15.V.N:Nat):Int),.int .i64 e15.V.P,.int .i64 e15.Floor,.slice A25 n26 c27]) (.tmp rfl rfl) ((hs10.rowAt 0 rfl hv14 (i * 4) hsub19).sub 0 rfl) rfl) ?_
 have hr29:kState.rep H e15 [.int .u64 ((e15.V.N:Nat):Int),.int .i64 e15.V.P,.int .i64 e15.Floor,.slice A25 n26 c27]:=⟨A25,n26,c27,rfl,b20,⟨b21,b22⟩,⟨b23,b24⟩,hl28⟩
 refine st_cc cb_p (.tmp rfl rfl) (evs1 (.tmp rfl rfl)) rfl (h_p hs10 e15 hr29) ?_
 rintro e w30 ⟨rfl,hs31⟩
 refine ⟨_,rfl,?_⟩
 refine c_nil (n_then ?_)
 rcases Bool.eq_false_or_eq_true (p e15) with hc32 | hc32
 refine c_cond_t (t:=true) (.tmp rfl (cVb hc32)) rfl ?_
 refine c_seq (c_region (st (v:=.int .i64 ((i:Nat):Int)) (x_move (.tmp rfl rfl)) ?_))
 refine st (v:=.int .i64 ((i:Nat):Int)) (x_assign (.tmp rfl rfl)) ?_
 refine c_nil (n_then (c_ret (r_block (r_then (r_then (r_block (r_then (leave_ret (res_one (v:=.int .i64 ((i:Nat):Int)) rfl (.mk rfl rfl)) ?_))))))))
 have hans33:idxP p l = ((i:Nat):Int):=idxP_at p l i _ hx17 hc32 ha
 rw [hans33]
 exact ⟨rfl,hs31⟩
 refine c_cond_f (t:=false) (.tmp rfl (cVb hc32)) rfl ?_
 refine c_skip (n_block (n_then (c_region (st (v:=.int .i64 (((i + 1):Nat):Int)) (x_add (k:=.i64) (a:=((i:Nat):Int)) (b:=1) (.tmp rfl hρ9) .const ((w64 (by omega) (by omega)).trans (by omega))) ?_))))
 refine st (v:=.int .i64 (((i + 1):Nat):Int)) (x_move (.tmp rfl rfl)) ?_
 refine c_nil ?_
 refine n_then ⟨_,_,rfl,?_,(i + 1),hρ6,hρ7,hρ8,rfl,(by omega),(before_next ha hx17 hc32),hs31,rfl⟩
 omega
 have hp11:¬ ((((i:Nat):Int):Int) < ((l.length:Nat):Int)):=of_decide_eq_false hc11
 refine c_cond_f (t:=false) (.tmp rfl (cVb hc11)) rfl ?_
 refine c_exit (x_then (x_then (x_here (n_then (c_seq (c_region (st (v:=.int .i64 (-1)) (x_assign .const) ?_)))))))
 refine c_nil (n_then (c_ret (leave_ret (res_one (v:=.int .i64 (-1)) rfl (.mk rfl rfl)) ?_)))
 have hans34:idxP p l = -1:=idxP_none p l (fun j y hy => ha j y (by have:=(List.getElem?_eq_some_iff.1 hy).1; omega) hy)
 rw [hans34]
 exact ⟨rfl,hs10⟩
set_option maxHeartbeats 8000000 in
theorem binary_state {H:Hp} {w:World} {L:List Res} {v_x:Value} {c_x:List Value} {x:(List GState)} (hs:St H w (row 37 4 v_x x.length c_x::L)) (ok_x:RowOk kState.sz v_x x.length c_x) (hk_x:kState.toKn.rows H x c_x) (t:GViewID) {k_t:List Value} (h_t:kViewID.rep H t k_t) {f_f:Nat} {cap_f:Array Value} (f:GState → GViewID → Int) (cb_f:Cb Tryd.prog f_f) (h_f:∀ {w:World} {L:List Res} (hs:St H w L) (x0_:GState) {k_x0_:List Value} (h_x0_:kState.rep H x0_ k_x0_) (x1_:GViewID) {k_x1_:List Value} (h_x1_:kViewID.rep H x1_ k_x1_),Calls Tryd.prog f_f (#[.agg k_x0_.toArray,.agg k_x1_.toArray] ++ cap_f) w (fun e w' => e = .returned (.int .i64 (f x0_ x1_))∧St H w' L)) (hn:x.length ≤ 4611686018427387903):Calls Tryd.prog 42 #[v_x,.agg k_t.toArray,.func (.func f_f) #[] cap_f] w (fun e w' => e = .returned (.tuple #[.int .i64 ((bsIx f x t:Nat):Int),.bool (bsOk f x t)])∧St H w' (row 37 4 v_x x.length c_x::L)):=by
 have:x.length ≤ 9223372036854775807:=ok_x.2.1
 obtain ⟨rfl,b1,⟨b2,b3⟩⟩:=h_t
 refine enter (args:=[v_x,.agg #[.int .u64 ((t.N:Nat):Int),.int .i64 t.P],.func (.func f_f) #[] cap_f]) (N:=49) Tryd.func42 rfl rfl rfl ?_
 refine c_seq (c_region (st_m (m_box (cs:=[.int .u64 ((t.N:Nat):Int),.int .i64 t.P]) hs (v:=.agg #[.int .u64 ((t.N:Nat):Int),.int .i64 t.P]) (.tmp rfl rfl) rfl) ?_))
 rintro _ w5 ⟨g4,rfl,hs7⟩
 refine st (v:=.int .i64 0) (x_assign .const) ?_
 refine st (v:=.bool false) (x_assign .const) ?_
 refine c_nil (n_then (c_seq (c_region (st (v:=v_x) (x_move (.tmp rfl rfl)) ?_))))
 obtain ⟨A8,c9,hv10,hc11⟩:=ok_x.slice
 refine st (v:=.int .i64 ((x.length:Nat):Int)) (x_len (n:=x.length) Tryd.underlying40 (.tmp rfl hv10)) ?_
 refine st (v:=.int .i64 ((x.length:Nat):Int)) (x_assign (.tmp rfl rfl)) ?_
 refine c_nil (n_then (c_seq (c_region (st (v:=.int .i64 ((x.length:Nat):Int)) (x_move (.tmp rfl rfl)) ?_))))
 refine st (v:=.int .i64 0) (x_assign .const) ?_
 refine st (v:=.int .i64 ((x.length:Nat):Int)) (x_assign (.tmp rfl rfl)) ?_
 refine c_nil (n_then (c_seq (c_block (c_loop (fun ρ w mm => ∃ (i:Nat) (j:Nat),ρ 0 = v_x∧ρ 2 = .func (.func f_f) #[] cap_f∧ρ 4 = .pointer (some ⟨g4,0,none⟩)∧ρ 8 = .int .i64 ((x.length:Nat):Int)∧ρ 9 = .int .i64 ((i:Nat):Int)∧ρ 10 = .int .i64 ((j:Nat):Int)∧(i ≤ j)∧(j ≤ x.length)∧(bsGo (lessAt f x t) i j = bsGo (lessAt f x t) 0 x.length)∧St H w (obj g4 34 (clViewID t)::row 37 4 v_x x.length c_x::L)∧mm = j - i) _ ⟨0,x.length,rfl,rfl,rfl,rfl,rfl,rfl,(by omega),(by omega),rfl,((hs7.p1).p1),rfl⟩ ?_))))
 rintro ρ w mm ⟨i,j,hρ13,hρ14,hρ15,hρ16,hρ17,hρ18,hij,hj,hgo,hs19,rfl⟩
 refine c_seq (c_seq (c_region (st (v:=.int .i64 ((i:Nat):Int)) (x_move (.tmp rfl hρ17)) ?_)))
 refine st (v:=.int .i64 ((j:Nat):Int)) (x_move (.tmp rfl hρ18)) ?_
 refine st (v:=.bool (decide ((((i:Nat):Int):Int) < ((j:Nat):Int)))) (x_lss (k:=.i64) (a:=((i:Nat):Int)) (b:=((j:Nat):Int)) (.tmp rfl rfl) (.tmp rfl rfl)) ?_
 refine c_nil (n_then ?_)
 rcases Bool.eq_false_or_eq_true (decide ((((i:Nat):Int):Int) < ((j:Nat):Int))) with hc20 | hc20
 have hp20:(((i:Nat):Int):Int) < ((j:Nat):Int):=of_decide_eq_true hc20
 refine c_cond_t (t:=true) (.tmp rfl (cVb hc20)) rfl ?_
 refine c_skip (n_then (c_block (c_seq (c_region (st (v:=.int .i64 ((i:Nat):Int)) (x_move (.tmp rfl hρ17)) ?_)))))
 refine st (v:=.int .i64 ((j:Nat):Int)) (x_move (.tmp rfl hρ18)) ?_
 refine st (v:=.int .i64 (((i + j):Nat):Int)) (x_add (k:=.i64) (a:=((i:Nat):Int)) (b:=((j:Nat):Int)) (.tmp rfl rfl) (.tmp rfl rfl) ((w64 (by omega) (by omega)).trans (by omega))) ?_
 have hb21:(i + j) < 18446744073709551616:=by omega
 refine st (v:=.int .u64 (((i + j):Nat):Int)) (x_conv (k:=.i64) (a:=(((i + j):Nat):Int)) Tryd.underlying3 Tryd.underlying98 (.tmp rfl rfl) (wU rfl rfl hb21)) ?_
 have hb22:((i + j) / 2 ^ 1) < 18446744073709551616:=Nat.lt_of_le_of_lt (Nat.div_le_self _ _) hb21
 refine st (v:=.int .u64 ((((i + j) / 2 ^ 1):Nat):Int)) (x_shr (k:=.u64) (m:=(i + j)) (b:=1) rfl (.tmp rfl rfl) .const (by omega) (show _ < 2 ^ 64 from hb21)) ?_
 refine st (v:=.int .i64 ((((i + j) / 2 ^ 1):Nat):Int)) (x_conv (k:=.u64) (a:=((((i + j) / 2 ^ 1):Nat):Int)) Tryd.underlying98 Tryd.underlying3 (.tmp rfl rfl) (w64 (by omega) (by omega))) ?_
 refine st (v:=.int .i64 ((((i + j) / 2 ^ 1):Nat):Int)) (x_assign (.tmp rfl rfl)) ?_
 refine c_nil (n_then (c_seq (s_region (L:=obj g4 34 (clViewID t)::row 37 4 v_x x.length c_x::L) (L':=obj g4 34 (clViewID t)::row 37 4 v_x x.length c_x::L) none [(0,true),(1,true),(2,true),(3,true),(4,true),(5,true),(6,false),(7,true)] mixed hs19 (fun u hu => hu) (by kernel_rfl) ?_)))
 intro w23 hs24
 refine s_st (k:=0) (v:=.func (.func f_f) #[] cap_f) rfl (fun w hs => (x_move (.tmp rfl hρ14))) ?_
 refine s_st (k:=1) (v:=v_x) rfl (fun w hs => (x_move (.tmp rfl hρ13))) ?_
 refine s_st (k:=2) (v:=.int .i64 ((((i + j) / 2 ^ 1):Nat):Int)) rfl (fun w hs => (x_move (.tmp rfl rfl))) ?_
 obtain ⟨g25,c26,hv27⟩:=ok_x.pos (by omega)
 obtain ⟨e28,cs29,hx30,hr31,hsub32⟩:=Kn.rows_get (i:=((i + j) / 2 ^ 1)) hk_x (by omega)
 obtain ⟨A38,n39,c40,rfl,b33,⟨b34,b35⟩,⟨b36,b37⟩,hl41⟩:=hr31
 have:=hl41.len; have:n39 * 32 ≤ 140737488351232:=hl41.bnd; have:=hl41.le
 refine s_st (k:=3) (v:=.pointer (some ⟨g25,(((i + j) / 2 ^ 1) * 4),none⟩)) rfl (fun w hs => (ixo40 (.tmp rfl hv27) rfl (i:=((((i + j) / 2 ^ 1):Nat):Int)) (.tmp rfl rfl) (by omega) (by omega) (by omega))) ?_
 refine s_st (k:=4) (v:=.agg #[.int .u64 ((e28.V.N:Nat):Int),.int .i64 e28.V.P,.int .i64 e28.Floor,.slice A38 n39 c40]) rfl (fun w hs => (ld37 (cs:=[.int .u64 ((e28.V.N:Nat):Int),.int .i64 e28.V.P,.int .i64 e28.Floor,.slice A38 n39 c40]) (.tmp rfl rfl) ((hs.rowAt 1 rfl hv27 (((i + j) / 2 ^ 1) * 4) hsub32).sub 0 rfl) rfl)) ?_
 refine s_st (k:=5) (v:=.agg #[.int .u64 ((t.N:Nat):Int),.int .i64 t.P]) rfl (fun w hs => (ld34 (cs:=[.int .u64 ((t.N:Nat):Int),.int .i64 t.P]) (.tmp rfl hρ15) (hs.at_ 0 rfl (0) rfl) rfl)) ?_
 refine s_eff (k:=6) rfl ?_
 have hr42:kState.rep H e28 [.int .u64 ((e28.V.N:Nat):Int),.int .i64 e28.V.P,.int .i64 e28.Floor,.slice A38 n39 c40]:=⟨A38,n39,c40,rfl,b33,⟨b34,b35⟩,⟨b36,b37⟩,hl41⟩
 have hr43:kViewID.rep H t [.int .u64 ((t.N:Nat):Int),.int .i64 t.P]:=⟨rfl,b1,⟨b2,b3⟩⟩
 refine st_cc cb_f (.tmp rfl rfl) (evs2 (.tmp rfl rfl) (.tmp rfl rfl)) rfl (h_f hs24 e28 hr42 t hr43) ?_
 rintro e w44 ⟨rfl,hs45⟩
 refine ⟨_,rfl,?_⟩
 refine s_on (S':=fun u => St H u (obj g4 34 (clViewID t)::row 37 4 v_x x.length c_x::L)) (fun u hu => hu) hs45 ?_
 refine s_st (k:=7) (v:=.bool (decide (((f e28 t):Int) < 0))) rfl (fun w hs => (x_lss (k:=.i64) (a:=(f e28 t)) (b:=0) (.tmp rfl rfl) .const)) ?_
 refine s_nil ?_
 refine n_then ?_
 rcases Bool.eq_false_or_eq_true (decide (((f e28 t):Int) < 0)) with hc46 | hc46
 have hp46:((f e28 t):Int) < 0:=of_decide_eq_true hc46
 refine c_cond_t (t:=true) (.tmp rfl (cVb hc46)) rfl ?_
 refine c_region (st (v:=.int .i64 ((((i + j) / 2 ^ 1):Nat):Int)) (x_move (.tmp rfl rfl)) ?_)
 refine st (v:=.int .i64 (((((i + j) / 2 ^ 1) + 1):Nat):Int)) (x_add (k:=.i64) (a:=((((i + j) / 2 ^ 1):Nat):Int)) (b:=1) (.tmp rfl rfl) .const ((w64 (by omega) (by omega)).trans (by omega))) ?_
 refine st (v:=.int .i64 (((((i + j) / 2 ^ 1) + 1):Nat):Int)) (x_assign (.tmp rfl rfl)) ?_
 refine c_nil (n_block ?_)
 refine n_then ⟨_,_,rfl,?_,(((i + j) / 2 ^ 1) + 1),j,hρ13,hρ14,hρ15,hρ16,rfl,hρ18,(by omega),(by omega),((bsGo_yes (by omega) (by rw [lessAt_some hx30]; exact hc46)).trans hgo),((hs45.p1).p1),rfl⟩
 omega
 have hp46:¬ (((f e28 t):Int) < 0):=of_decide_eq_false hc46
 refine c_cond_f (t:=false) (.tmp rfl (cVb hc46)) rfl ?_
 refine c_region (st (v:=.int .i64 ((((i + j) / 2 ^ 1):Nat):Int)) (x_move (.tmp rfl rfl)) ?_)
 refine st (v:=.int .i64 ((((i + j) / 2 ^ 1):Nat):Int)) (x_assign (.tmp rfl rfl)) ?_
 refine c_nil (n_block ?_)
 refine n_then ⟨_,_,rfl,?_,i,((i + j) / 2 ^ 1),hρ13,hρ14,hρ15,hρ16,hρ17,rfl,(by omega),(by omega),((bsGo_no (by omega) (by rw [lessAt_some hx30]; exact hc46)).trans hgo),((hs45.p1).p1),rfl⟩
 omega
 have hp20:¬ ((((i:Nat):Int):Int) < ((j:Nat):Int)):=of_decide_eq_false hc20
 refine c_cond_f (t:=false) (.tmp rfl (cVb hc20)) rfl ?_
 refine c_exit (x_then (x_then (x_here (n_then (c_seq (s_region (L:=obj g4 34 (clViewID t)::row 37 4 v_x x.length c_x::L) (L':=obj g4 34 (clViewID t)::row 37 4 v_x x.length c_x::L) none [(0,true),(1,true),(2,true),(3,true),(4,true),(5,true),(6,true),(7,true),(8,true),(9,true),(10,true),(11,false),(12,true),(13,true),(14,true),(15,true)] mixed hs19 (fun u hu => hu) (by kernel_rfl) ?_))))))
 intro w47 hs48
 refine s_st (k:=0) (v:=.int .i64 ((i:Nat):Int)) rfl (fun w hs => (x_move (.tmp rfl hρ17))) ?_
 refine s_st (k:=1) (v:=.int .i64 ((i:Nat):Int)) rfl (fun w hs => (x_move (.tmp rfl hρ17))) ?_
 refine s_st (k:=2) (v:=.int .i64 ((x.length:Nat):Int)) rfl (fun w hs => (x_move (.tmp rfl hρ16))) ?_
 refine s_st (k:=3) (v:=.bool (decide ((((i:Nat):Int):Int) < ((x.length:Nat):Int)))) rfl (fun w hs => (x_lss (k:=.i64) (a:=((i:Nat):Int)) (b:=((x.length:Nat):Int)) (.tmp rfl rfl) (.tmp rfl rfl))) ?_
 refine s_st (k:=4) (v:=.bool (decide ((((i:Nat):Int):Int) < ((x.length:Nat):Int)))) rfl (fun w hs => (x_move (.tmp rfl rfl))) ?_
 rcases Bool.eq_false_or_eq_true (decide ((((i:Nat):Int):Int) < ((x.length:Nat):Int))) with hc49 | hc49
 have hp49:(((i:Nat):Int):Int) < ((x.length:Nat):Int):=of_decide_eq_true hc49
 refine s_yes (k:=5) (v:=.func (.func f_f) #[] cap_f) rfl (yk 39 true rfl rfl hc49) (fun w hs => (x_move (.tmp rfl hρ14))) ?_
 refine s_yes (k:=6) (v:=v_x) rfl (yk 39 true rfl rfl hc49) (fun w hs => (x_move (.tmp rfl hρ13))) ?_
 refine s_yes (k:=7) (v:=.int .i64 ((i:Nat):Int)) rfl (yk 39 true rfl rfl hc49) (fun w hs => (x_move (.tmp rfl hρ17))) ?_
 obtain ⟨g50,c51,hv52⟩:=ok_x.pos (by omega)
 obtain ⟨e53,cs54,hx55,hr56,hsub57⟩:=Kn.rows_get (i:=i) hk_x (by omega)
 obtain ⟨A63,n64,c65,rfl,b58,⟨b59,b60⟩,⟨b61,b62⟩,hl66⟩:=hr56
 have:=hl66.len; have:n64 * 32 ≤ 140737488351232:=hl66.bnd; have:=hl66.le
 refine s_yes (k:=8) (v:=.pointer (some ⟨g50,(i * 4),none⟩)) rfl (yk 39 true rfl rfl hc49) (fun w hs => (ixo40 (.tmp rfl hv52) rfl (i:=((i:Nat):Int)) (.tmp rfl rfl) (by omega) (by omega) (by omega))) ?_
 refine s_yes (k:=9) (v:=.agg #[.int .u64 ((e53.V.N:Nat):Int),.int .i64 e53.V.P,.int .i64 e53.Floor,.slice A63 n64 c65]) rfl (yk 39 true rfl rfl hc49) (fun w hs => (ld37 (cs:=[.int .u64 ((e53.V.N:Nat):Int),.int .i64 e53.V.P,.int .i64 e53.Floor,.slice A63 n64 c65]) (.tmp rfl rfl) ((hs.rowAt 1 rfl hv52 (i * 4) hsub57).sub 0 rfl) rfl)) ?_
 refine s_yes (k:=10) (v:=.agg #[.int .u64 ((t.N:Nat):Int),.int .i64 t.P]) rfl (yk 39 true rfl rfl hc49) (fun w hs => (ld34 (cs:=[.int .u64 ((t.N:Nat):Int),.int .i64 t.P]) (.tmp rfl hρ15) (hs.at_ 0 rfl (0) rfl) rfl)) ?_
 refine s_eff (k:=11) rfl ?_
 refine g_yes (yk 39 true rfl rfl hc49) ?_
 have hr67:kState.rep H e53 [.int .u64 ((e53.V.N:Nat):Int),.int .i64 e53.V.P,.int .i64 e53.Floor,.slice A63 n64 c65]:=⟨A63,n64,c65,rfl,b58,⟨b59,b60⟩,⟨b61,b62⟩,hl66⟩
 have hr68:kViewID.rep H t [.int .u64 ((t.N:Nat):Int),.int .i64 t.P]:=⟨rfl,b1,⟨b2,b3⟩⟩
 refine st_cc cb_f (.tmp rfl rfl) (evs2 (.tmp rfl rfl) (.tmp rfl rfl)) rfl (h_f hs48 e53 hr67 t hr68) ?_
 rintro e w69 ⟨rfl,hs70⟩
 refine ⟨_,rfl,?_⟩
 refine s_on (S':=fun u => St H u (obj g4 34 (clViewID t)::row 37 4 v_x x.length c_x::L)) (fun u hu => hu) hs70 ?_
 refine s_yes (k:=12) (v:=.bool (decide (((f e53 t):Int) = 0))) rfl (yk 39 true rfl rfl hc49) (fun w hs => (x_eql (k:=.i64) (a:=(f e53 t)) (b:=0) (.tmp rfl rfl) .const)) ?_
 refine s_st (k:=13) (v:=.bool (decide (((f e53 t):Int) = 0))) rfl (fun w hs => (x_pick_t (.tmp rfl (cVb hc49)) (.tmp rfl rfl))) ?_
 refine s_st (k:=14) (v:=.int .i64 ((i:Nat):Int)) rfl (fun w hs => (x_assign (.tmp rfl rfl))) ?_
 refine s_st (k:=15) (v:=.bool (decide (((f e53 t):Int) = 0))) rfl (fun w hs => (x_assign (.tmp rfl rfl))) ?_
 refine s_nil ?_
 refine n_then (c_ret (leave_ret (res_two (v:=.int .i64 ((i:Nat):Int)) (u:=.bool (decide (((f e53 t):Int) = 0))) rfl (.mk rfl rfl) (.mk rfl rfl)) ?_))
 have hb:bsIx f x t = i:=by unfold bsIx; rw [← hgo,bsGo_end (by omega)]
 have hok:bsOk f x t = (decide (((f e53 t):Int) = 0)):=bsOk_some hb hx55
 rw [hok,hb]
 exact ⟨rfl,hs70.drop⟩
 have hp49:¬ ((((i:Nat):Int):Int) < ((x.length:Nat):Int)):=of_decide_eq_false hc49
 refine s_no (k:=5) rfl (yk 39 false rfl rfl hc49) rfl ?_
 refine s_no (k:=6) rfl (yk 39 false rfl rfl hc49) rfl ?_
 refine s_no (k:=7) rfl (yk 39 false rfl rfl hc49) rfl ?_
 refine s_no (k:=8) rfl (yk 39 false rfl rfl hc49) rfl ?_
 refine s_no (k:=9) rfl (yk 39 false rfl rfl hc49) rfl ?_
 refine s_no (k:=10) rfl (yk 39 false rfl rfl hc49) rfl ?_
 refine s_eff (k:=11) rfl ?_
 refine g_no (yk 39 false rfl rfl hc49) rfl ?_
 refine s_on (S':=fun u => St H u (obj g4 34 (clViewID t)::row 37 4 v_x x.length c_x::L)) (fun u hu => hu) hs48 ?_
 refine s_no (k:=12) rfl (yk 39 false rfl rfl hc49) rfl ?_
 refine s_st (k:=13) (v:=.bool false) rfl (fun w hs => (x_pick_f (.tmp rfl (cVb hc49)) .const)) ?_
 refine s_st (k:=14) (v:=.int .i64 ((i:Nat):Int)) rfl (fun w hs => (x_assign (.tmp rfl rfl))) ?_
 refine s_st (k:=15) (v:=.bool false) rfl (fun w hs => (x_assign (.tmp rfl rfl))) ?_
 refine s_nil ?_
 refine n_then (c_ret (leave_ret (res_two (v:=.int .i64 ((i:Nat):Int)) (u:=.bool false) rfl (.mk rfl rfl) (.mk rfl rfl)) ?_))
 have hb:bsIx f x t = i:=by unfold bsIx; rw [← hgo,bsGo_end (by omega)]
 have hok:=bsOk_none hb (by omega)
 rw [hok,hb]
 exact ⟨rfl,hs48.drop⟩
set_option maxHeartbeats 8000000 in
theorem delete_state {H:Hp} {w:World} {L:List Res} {v_s:Value} {c_s:List Value} {s:(List GState)} (hs:St H w (row 37 4 v_s s.length c_s::L)) (ok_s:RowOk kState.sz v_s s.length c_s) (hk_s:kState.toKn.rows H s c_s) {f_p:Nat} {cap_p:Array Value} (p:GState → Bool) (cb_p:Cb Tryd.prog f_p) (h_p:∀ {w:World} {L:List Res} (hs:St H w L) (x0_:GState) {k_x0_:List Value} (h_x0_:kState.rep H x0_ k_x0_),Calls Tryd.prog f_p (#[.agg k_x0_.toArray] ++ cap_p) w (fun e w' => e = .returned (.bool (p x0_))∧St H w' L)):Calls Tryd.prog 46 #[v_s,.func (.func f_p) #[] cap_p] w (fun e w' => ∃ (v0:Value) (cs0:List Value),e = .returned (v0)∧RowOk kState.sz v0 (s.filter (fun x => !p x)).length cs0∧kState.toKn.rows H (s.filter (fun x => !p x)) cs0∧St H w' (row 37 kState.sz v0 (s.filter (fun x => !p x)).length cs0::L)):=by
 have:s.length ≤ 9223372036854775807:=ok_s.2.1
 refine enter (args:=[v_s,.func (.func f_p) #[] cap_p]) (N:=42) Tryd.func46 rfl rfl rfl ?_
 refine c_seq (c_region (st (v:=.slice none 0 0) (x_assign .const) ?_))
 refine c_nil (n_then (c_seq (c_region (st (v:=v_s) (x_move (.tmp rfl rfl)) ?_))))
 refine st (v:=.func (.func f_p) #[] cap_p) (x_move (.tmp rfl rfl)) ?_
 refine st_c cb52 .func (evs2 (.tmp rfl rfl) (.tmp rfl rfl)) (index_row hs ok_s hk_s p cb_p h_p ) ?_
 rintro e w1 ⟨rfl,hs2⟩
 refine ⟨_,rfl,?_⟩
 refine st (v:=.int .i64 (idxP p s)) (x_assign (.tmp rfl rfl)) ?_
 refine c_nil (n_then (c_seq (c_seq (c_region (st (v:=.int .i64 (idxP p s)) (x_move (.tmp rfl rfl)) ?_)))))
 refine st (v:=.bool (decide (((idxP p s):Int) = (-1)))) (x_eql (k:=.i64) (a:=(idxP p s)) (b:=(-1)) (.tmp rfl rfl) .const) ?_
 refine c_nil (n_then ?_)
 rcases Bool.eq_false_or_eq_true (decide (((idxP p s):Int) = (-1))) with hc3 | hc3
 have hp3:((idxP p s):Int) = (-1):=of_decide_eq_true hc3
 refine c_cond_t (t:=true) (.tmp rfl (cVb hc3)) rfl ?_
 refine c_seq (c_region (st (v:=v_s) (x_move (.tmp rfl rfl)) ?_))
 refine st (v:=v_s) (x_assign (.tmp rfl rfl)) ?_
 refine c_nil (n_then (c_ret (r_then (leave_ret (res_one (v:=v_s) rfl (.mk rfl rfl)) ?_))))
 have hans:=del_none (p:=p) (s:=s) (by omega)
 rw [hans]
 exact ⟨v_s,c_s,rfl,ok_s,hk_s,hs2⟩
 have hp3:¬ (((idxP p s):Int) = (-1)):=of_decide_eq_false hc3
 refine c_cond_f (t:=false) (.tmp rfl (cVb hc3)) rfl ?_
 refine c_skip (n_then (c_seq (c_seq (c_region ?_))))
 obtain ⟨i0,hi0⟩:∃ i0:Nat,idxP p s = (i0:Int):=by have:=idxP_ge p s; exact ⟨(idxP p s).toNat,by omega⟩
 have hd:=del_start (p:=p) (s:=s) (by omega)
 rw [hi0,Int.toNat_natCast] at hd
 have hd2:=hd.2
 have hmx:=ok_s.2.1
 refine st (v:=.int .i64 ((i0:Nat):Int)) (x_move (.tmp rfl (congrArg (Value.int .i64) hi0))) ?_
 refine st (v:=.int .i64 (((i0 + 1):Nat):Int)) (x_add (k:=.i64) (a:=((i0:Nat):Int)) (b:=1) (.tmp rfl rfl) .const ((w64 (by omega) (by omega)).trans (by omega))) ?_
 refine st (v:=.int .i64 (((i0 + 1):Nat):Int)) (x_assign (.tmp rfl rfl)) ?_
 refine c_nil (n_then (c_block (c_loop (fun ρ w mm => ∃ (ys:List GState) (v_ys:Value) (c_ys:List Value) (i:Nat) (j:Nat),ρ 0 = v_ys∧ρ 1 = .func (.func f_p) #[] cap_p∧ρ 5 = .int .i64 ((i:Nat):Int)∧ρ 6 = .int .i64 ((j:Nat):Int)∧(RowOk kState.sz v_ys ys.length c_ys)∧(kState.toKn.rows H ys c_ys)∧(i < j)∧(j ≤ s.length)∧(ys.length = s.length)∧(ys.take i = (s.take j).filter (fun x => !p x))∧(ys.drop j = s.drop j)∧St H w (row 37 4 v_ys ys.length c_ys::L)∧mm = s.length - j) _ ⟨s,v_s,c_s,i0,(i0 + 1),rfl,rfl,(congrArg (Value.int .i64) hi0),rfl,ok_s,hk_s,(by omega),(by omega),rfl,hd.1,rfl,hs2,rfl⟩ ?_)))
 rintro ρ w mm ⟨ys,v_ys,c_ys,i,j,hρ5,hρ6,hρ7,hρ8,ok_ys,hk_ys,hij,hj,hl,hA,hB,hs9,rfl⟩
 refine c_seq (c_seq (c_region (st (v:=.int .i64 ((j:Nat):Int)) (x_move (.tmp rfl hρ8)) ?_)))
 refine st (v:=v_ys) (x_move (.tmp rfl hρ5)) ?_
 obtain ⟨A10,c11,hv12,hc13⟩:=ok_ys.slice
 refine st (v:=.int .i64 ((ys.length:Nat):Int)) (x_len (n:=ys.length) Tryd.underlying40 (.tmp rfl hv12)) ?_
 refine st (v:=.bool (decide ((((j:Nat):Int):Int) < ((ys.length:Nat):Int)))) (x_lss (k:=.i64) (a:=((j:Nat):Int)) (b:=((ys.length:Nat):Int)) (.tmp rfl rfl) (.tmp rfl rfl)) ?_
 refine c_nil (n_then ?_)
 rcases Bool.eq_false_or_eq_true (decide ((((j:Nat):Int):Int) < ((ys.length:Nat):Int))) with hc14 | hc14
 have hp14:(((j:Nat):Int):Int) < ((ys.length:Nat):Int):=of_decide_eq_true hc14
 refine c_cond_t (t:=true) (.tmp rfl (cVb hc14)) rfl ?_
 refine c_skip (n_then (c_seq (c_block (c_seq (c_region (st (v:=v_ys) (x_move (.tmp rfl hρ5)) ?_))))))
 refine st (v:=.int .i64 ((j:Nat):Int)) (x_move (.tmp rfl hρ8)) ?_
 obtain ⟨g15,c16,hv17⟩:=ok_ys.pos (by omega)
 obtain ⟨e18,cs19,hx20,hr21,hsub22⟩:=Kn.rows_get (i:=j) hk_ys (by omega)
 obtain ⟨A28,n29,c30,rfl,b23,⟨b24,b25⟩,⟨b26,b27⟩,hl31⟩:=hr21
 have:=hl31.len; have:n29 * 32 ≤ 140737488351232:=hl31.bnd; have:=hl31.le
 refine st (v:=.pointer (some ⟨g15,(j * 4),none⟩)) (ixo40 (.tmp rfl hv17) rfl (i:=((j:Nat):Int)) (.tmp rfl rfl) (by omega) (by omega) (by omega)) ?_
 refine st (v:=.agg #[.int .u64 ((e18.V.N:Nat):Int),.int .i64 e18.V.P,.int .i64 e18.Floor,.slice A28 n29 c30]) (ld37 (cs:=[.int .u64 ((e18.V.N:Nat):Int),.int .i64 e18.V.P,.int .i64 e18.Floor,.slice A28 n29 c30]) (.tmp rfl rfl) ((hs9.rowAt 0 rfl hv17 (j * 4) hsub22).sub 0 rfl) rfl) ?_
 refine st_m (al37 (cs:=[.int .u64 0,.int .i64 0,.int .i64 0,.slice none 0 0]) hs9 rfl) ?_
 rintro _ w33 ⟨g32,rfl,hs35⟩
 refine st_m0 (sto37 (cs':=[.int .u64 ((e18.V.N:Nat):Int),.int .i64 e18.V.P,.int .i64 e18.Floor,.slice A28 n29 c30]) (i:=0) hs35 (v:=.agg #[.int .u64 ((e18.V.N:Nat):Int),.int .i64 e18.V.P,.int .i64 e18.Floor,.slice A28 n29 c30]) (.tmp rfl rfl) (.tmp rfl rfl) rfl (Nat.le_of_ble_eq_true rfl) (oneA rfl) rfl) ?_
 rintro w36 hs38
 refine c_nil (n_then (c_seq (c_region (st (v:=.func (.func f_p) #[] cap_p) (x_move (.tmp rfl hρ6)) ?_))))
 refine st (v:=.agg #[.int .u64 ((e18.V.N:Nat):Int),.int .i64 e18.V.P,.int .i64 e18.Floor,.slice A28 n29 c30]) (ld37 (cs:=[.int .u64 ((e18.V.N:Nat):Int),.int .i64 e18.V.P,.int .i64 e18.Floor,.slice A28 n29 c30]) (.tmp rfl rfl) (hs38.at_ 0 rfl (0) rfl) rfl) ?_
 have hr39:kState.rep H e18 [.int .u64 ((e18.V.N:Nat):Int),.int .i64 e18.V.P,.int .i64 e18.Floor,.slice A28 n29 c30]:=⟨A28,n29,c30,rfl,b23,⟨b24,b25⟩,⟨b26,b27⟩,hl31⟩
 refine st_cc cb_p (.tmp rfl rfl) (evs1 (.tmp rfl rfl)) rfl (h_p hs38 e18 hr39) ?_
 rintro e w40 ⟨rfl,hs41⟩
 refine ⟨_,rfl,?_⟩
 refine st (v:=.bool (!(p e18))) (x_not (.tmp rfl rfl)) ?_
 refine c_nil (n_then ?_)
 rcases Bool.eq_false_or_eq_true (p e18) with hc42 | hc42
 refine c_cond_f (t:=false) (.tmp rfl (cVb (by rw [hc42]; rfl))) rfl ?_
 refine c_skip (n_block (n_then (c_region (st (v:=.int .i64 ((j:Nat):Int)) (x_move (.tmp rfl hρ8)) ?_))))
 refine st (v:=.int .i64 (((j + 1):Nat):Int)) (x_add (k:=.i64) (a:=((j:Nat):Int)) (b:=1) (.tmp rfl rfl) .const ((w64 (by omega) (by omega)).trans (by omega))) ?_
 refine st (v:=.int .i64 (((j + 1):Nat):Int)) (x_assign (.tmp rfl rfl)) ?_
 refine c_nil ?_
 have hnx:=del_skip hA hB hx20 hc42
 refine n_then ⟨_,_,rfl,?_,ys,v_ys,c_ys,i,(j + 1),hρ5,hρ6,hρ7,rfl,ok_ys,hk_ys,(by omega),(by omega),hl,hnx.1,hnx.2,hs41.drop,rfl⟩
 omega
 refine c_cond_t (t:=true) (.tmp rfl (cVb (by rw [hc42]; rfl))) rfl ?_
 refine c_seq (c_region (st (v:=v_ys) (x_move (.tmp rfl hρ5)) ?_))
 refine st (v:=.int .i64 ((i:Nat):Int)) (x_move (.tmp rfl hρ7)) ?_
 refine st (v:=.agg #[.int .u64 ((e18.V.N:Nat):Int),.int .i64 e18.V.P,.int .i64 e18.Floor,.slice A28 n29 c30]) (ld37 (cs:=[.int .u64 ((e18.V.N:Nat):Int),.int .i64 e18.V.P,.int .i64 e18.Floor,.slice A28 n29 c30]) (.tmp rfl rfl) (hs41.at_ 0 rfl (0) rfl) rfl) ?_
 obtain ⟨g43,c44,hv45⟩:=ok_ys.pos (by omega)
 obtain ⟨e46,cs47,hx48,hr49,hsub50⟩:=Kn.rows_get (i:=i) hk_ys (by omega)
 obtain ⟨A56,n57,c58,rfl,b51,⟨b52,b53⟩,⟨b54,b55⟩,hl59⟩:=hr49
 have:=hl59.len; have:n57 * 32 ≤ 140737488351232:=hl59.bnd; have:=hl59.le
 refine st (v:=.pointer (some ⟨g43,(i * 4),none⟩)) (ixo40 (.tmp rfl hv45) rfl (i:=((i:Nat):Int)) (.tmp rfl rfl) (by omega) (by omega) (by omega)) ?_
 have hs60:=hs41.p1
 have hl66:i * 4 + 4 ≤ c_ys.length:=by have h1:=(hk_ys).1; have h2:kState.sz = 4:=rfl; rw [h2] at h1; omega
 have hr65:kState.rep H e18 [.int .u64 ((e18.V.N:Nat):Int),.int .i64 e18.V.P,.int .i64 e18.Floor,.slice A28 n29 c30]:=⟨A28,n29,c30,rfl,b23,⟨b24,b25⟩,⟨b26,b27⟩,hl31⟩
 refine st_m0 (stor37 hs60 hv45 (i:=(i * 4)) (xs':=splice c_ys (i * 4) [.int .u64 ((e18.V.N:Nat):Int),.int .i64 e18.V.P,.int .i64 e18.Floor,.slice A28 n29 c30]) (.tmp rfl rfl) (u:=.agg #[.int .u64 ((e18.V.N:Nat):Int),.int .i64 e18.V.P,.int .i64 e18.Floor,.slice A28 n29 c30]) (.tmp rfl rfl) rfl (by omega) (oneA rfl) rfl) ?_
 rintro w61 hs62
 have hk64:=Kn.rows_set (d:=kState.toKn) hk_ys (i:=i) (by omega) hr65
 have ok63:=ok_ys.splice (i:=i * 4) (vs:=[.int .u64 ((e18.V.N:Nat):Int),.int .i64 e18.V.P,.int .i64 e18.Floor,.slice A28 n29 c30]) (by simpa using hl66)
 have hn67:(ys.set i e18).length = ys.length:=List.length_set
 have ok68:RowOk kState.sz v_ys (ys.set i e18).length (splice c_ys (i * 4) [.int .u64 ((e18.V.N:Nat):Int),.int .i64 e18.V.P,.int .i64 e18.Floor,.slice A28 n29 c30]):=by rw [hn67]; exact ok63
 have hs69:St H w61 (row 37 4 v_ys ((ys.set i e18).length) (splice c_ys (i * 4) [.int .u64 ((e18.V.N:Nat):Int),.int .i64 e18.V.P,.int .i64 e18.Floor,.slice A28 n29 c30])::obj g32 37 (clState e18 A28 n29 c30)::L):=by rw [hn67]; exact hs62
 refine c_nil (n_then (c_region (st (v:=.int .i64 ((i:Nat):Int)) (x_move (.tmp rfl hρ7)) ?_)))
 refine st (v:=.int .i64 (((i + 1):Nat):Int)) (x_add (k:=.i64) (a:=((i:Nat):Int)) (b:=1) (.tmp rfl rfl) .const ((w64 (by omega) (by omega)).trans (by omega))) ?_
 refine st (v:=.int .i64 (((i + 1):Nat):Int)) (x_assign (.tmp rfl rfl)) ?_
 refine c_nil (n_block (n_then (c_region (st (v:=.int .i64 ((j:Nat):Int)) (x_move (.tmp rfl hρ8)) ?_))))
 refine st (v:=.int .i64 (((j + 1):Nat):Int)) (x_add (k:=.i64) (a:=((j:Nat):Int)) (b:=1) (.tmp rfl rfl) .const ((w64 (by omega) (by omega)).trans (by omega))) ?_
 refine st (v:=.int .i64 (((j + 1):Nat):Int)) (x_assign (.tmp rfl rfl)) ?_
 refine c_nil ?_
 have hnx:=del_keep hA hB hx20 (by omega) hc42
 refine n_then ⟨_,_,rfl,?_,(ys.set i e18),v_ys,(splice c_ys (i * 4) [.int .u64 ((e18.V.N:Nat):Int),.int .i64 e18.V.P,.int .i64 e18.Floor,.slice A28 n29 c30]),(i + 1),(j + 1),hρ5,hρ6,rfl,rfl,ok68,hk64,(by omega),(by omega),(by rw [List.length_set]; exact hl),hnx.1,hnx.2,(hs69.p1).drop,rfl⟩
 omega
 have hp14:¬ ((((j:Nat):Int):Int) < ((ys.length:Nat):Int)):=of_decide_eq_false hc14
 refine c_cond_f (t:=false) (.tmp rfl (cVb hc14)) rfl ?_
 refine c_exit (x_then (x_then (x_here (n_then (c_seq (c_region ?_))))))
 obtain ⟨g70,cap71,rfl⟩:=ok_ys.pos (by omega)
 have hcl:c_ys.length = ys.length * 4:=ok_ys.1
 have hcp:ys.length ≤ cap71:=by obtain ⟨A,c,h1,h2⟩:=ok_ys.slice; injection h1 with _ _ h1; rw [h1]; exact h2
 skip
 refine st (v:=.slice (some ⟨g70,0,none⟩) ys.length cap71) (x_move (.tmp rfl hρ5)) ?_
 refine st (v:=.int .i64 ((i:Nat):Int)) (x_move (.tmp rfl hρ7)) ?_
 refine st (v:=.slice (cutA (some ⟨g70,0,none⟩) cap71 i kState.sz) (ys.length - i) (cap71 - i)) (sl_l (d:=kState) Tryd.underlying40 inf37 (a:=((i:Nat):Int)) (.tmp rfl rfl) (.tmp rfl rfl) (by omega) (by omega) (by omega)) ?_
 have hip:i * 4 + (ys.length - i) * 4 = ys.length * 4:=by rw [← Nat.add_mul]; congr 1; omega
 refine st_mv0 (m_clearRow (dn:=ys.length - i) Tryd.underlying40 inf37 rfl (by decide) hs9 rfl (.tmp rfl (congrArg (fun A => Value.slice A (ys.length - i) (cap71 - i)) (cutA_some (size:=4) (by omega)))) (by rw [hcl]; omega) (oneA rfl)) ?_
 rintro _ w72 hs73
 have hs73:St H _ (row 37 4 (.slice (some ⟨g70,0,none⟩) ys.length cap71) ys.length (splice c_ys (i * 4) ((List.replicate (ys.length - i) ([.int .u64 0,.int .i64 0,.int .i64 0,.slice none 0 0]:List Value)).flatten))::L):=hs73
 refine c_nil (n_then (c_seq (c_region (st (v:=.slice (some ⟨g70,0,none⟩) ys.length cap71) (x_move (.tmp rfl hρ5)) ?_))))
 refine st (v:=.int .i64 ((i:Nat):Int)) (x_move (.tmp rfl hρ7)) ?_
 refine st (v:=.slice (some ⟨g70,0,none⟩) i cap71) (sl_h (d:=kState) Tryd.underlying40 inf37 (a:=((i:Nat):Int)) (.tmp rfl rfl) (.tmp rfl rfl) (by omega) (by omega)) ?_
 have hs74:=hs73.shrink (k:=i) (by omega)
 rw [splice_take (by rw [hcl]; exact Nat.mul_le_mul_right _ (by omega))] at hs74
 have ok9:=ok_ys.shrink (k:=i) (by omega)
 refine st (v:=.slice (some ⟨g70,0,none⟩) i cap71) (x_assign (.tmp rfl rfl)) ?_
 refine c_nil (n_then (c_ret (leave_ret (res_one (v:=.slice (some ⟨g70,0,none⟩) i cap71) rfl (.mk rfl rfl)) ?_)))
 have hans:s.filter (fun x => !p x) = ys.take i:=by rw [hA,show j = s.length from by omega,List.take_length]
 have hl9:(ys.take i).length = i:=by rw [List.length_take]; omega
 have hs9:=hs74
 have hrw:=Kn.rows_take hk_ys i (by omega)
 rw [hans]
 rw [show ((.slice (some ⟨g70,0,none⟩) i cap71):Value) = .slice (some ⟨g70,0,none⟩) (ys.take i).length cap71 by rw [hl9]]
 exact ⟨_,_,rfl,by rw [hl9]; exact ok9,hrw,by rw [hl9]; exact hs9⟩
end Go.Proofs.YtcccaihjgoaehaaDoor

set_option linter.unusedVariables false
set_option linter.unusedSimpArgs false
namespace Go.Proofs.YtcccaihjgoaehaaDoor
open Go Go.FM Go.Proofs
attribute [local irreducible] bsIx bsOk stepC wpList wpQuiet wpS Code.wp Calls
set_option maxHeartbeats 8000000 in
theorem join_c {H:Hp} {w:World} {L:List Res} (hs:St H w (L)) (a:GState) {k_a:List Value} (h_a:kState.rep H a k_a) (v:GViewID) {k_v:List Value} (h_v:kViewID.rep H v k_v):Calls Tryd.prog 43 #[.agg k_a.toArray,.agg k_v.toArray] w (fun e w' => e = .returned (.int .i64 (vcmp a.V v))∧St H w' (L)):=by
 obtain ⟨A6,n7,c8,rfl,b1,⟨b2,b3⟩,⟨b4,b5⟩,hl9⟩:=h_a
 have:=hl9.len; have:n7 * 32 ≤ 140737488351232:=hl9.bnd; have:=hl9.le
 obtain ⟨rfl,b10,⟨b11,b12⟩⟩:=h_v
 refine enter (args:=[.agg #[.int .u64 ((a.V.N:Nat):Int),.int .i64 a.V.P,.int .i64 a.Floor,.slice A6 n7 c8],.agg #[.int .u64 ((v.N:Nat):Int),.int .i64 v.P]]) (N:=9) Tryd.func43 rfl rfl rfl ?_
 refine c_seq (c_region (st_m (m_box (cs:=[.int .u64 ((a.V.N:Nat):Int),.int .i64 a.V.P,.int .i64 a.Floor,.slice A6 n7 c8]) hs (v:=.agg #[.int .u64 ((a.V.N:Nat):Int),.int .i64 a.V.P,.int .i64 a.Floor,.slice A6 n7 c8]) (.tmp rfl rfl) rfl) ?_))
 rintro _ w14 ⟨g13,rfl,hs16⟩
 refine st_m (m_box (cs:=[.int .u64 ((v.N:Nat):Int),.int .i64 v.P]) hs16 (v:=.agg #[.int .u64 ((v.N:Nat):Int),.int .i64 v.P]) (.tmp rfl rfl) rfl) ?_
 rintro _ w18 ⟨g17,rfl,hs20⟩
 refine st (v:=.int .i64 0) (x_assign .const) ?_
 refine c_nil (n_then (c_seq (c_region (st (v:=.pointer (some ⟨g13,0 + 0,none⟩)) (fa37_0 (.tmp rfl rfl)) ?_))))
 refine st (v:=.agg #[.int .u64 ((a.V.N:Nat):Int),.int .i64 a.V.P]) (ld34 (cs:=[.int .u64 ((a.V.N:Nat):Int),.int .i64 a.V.P]) (.tmp rfl rfl) (hs20.at_ 1 rfl (0 + 0) rfl) rfl) ?_
 refine st (v:=.agg #[.int .u64 ((v.N:Nat):Int),.int .i64 v.P]) (ld34 (cs:=[.int .u64 ((v.N:Nat):Int),.int .i64 v.P]) (.tmp rfl rfl) (hs20.at_ 0 rfl (0) rfl) rfl) ?_
 refine st_c cb41 .func (evs2 (.tmp rfl rfl) (.tmp rfl rfl)) (compare_spec hs20 a.V.N a.V.P v.N v.P) ?_
 rintro e w21 ⟨rfl,hs22⟩
 refine ⟨_,rfl,?_⟩
 refine st (v:=.int .i64 (cmpV a.V.N a.V.P v.N v.P)) (x_assign (.tmp rfl rfl)) ?_
 refine c_nil (n_then (c_ret (leave_ret (res_one (v:=.int .i64 (cmpV a.V.N a.V.P v.N v.P)) rfl (.mk rfl rfl)) ?_)))
 exact ⟨rfl,hs22.drop.drop⟩
set_option maxHeartbeats 8000000 in
theorem join_p {H:Hp} {w:World} {L:List Res} (hs:St H w (L)) (s:GState) {k_s:List Value} (h_s:kState.rep H s k_s):Calls Tryd.prog 47 #[.agg k_s.toArray] w (fun e w' => e = .returned (.bool (decide (((s.V.N:Nat):Int) = 0)))∧St H w' (L)):=by
 obtain ⟨A6,n7,c8,rfl,b1,⟨b2,b3⟩,⟨b4,b5⟩,hl9⟩:=h_s
 have:=hl9.len; have:n7 * 32 ≤ 140737488351232:=hl9.bnd; have:=hl9.le
 refine enter (args:=[.agg #[.int .u64 ((s.V.N:Nat):Int),.int .i64 s.V.P,.int .i64 s.Floor,.slice A6 n7 c8]]) (N:=7) Tryd.func47 rfl rfl rfl ?_
 refine c_seq (c_region (st_m (m_box (cs:=[.int .u64 ((s.V.N:Nat):Int),.int .i64 s.V.P,.int .i64 s.Floor,.slice A6 n7 c8]) hs (v:=.agg #[.int .u64 ((s.V.N:Nat):Int),.int .i64 s.V.P,.int .i64 s.Floor,.slice A6 n7 c8]) (.tmp rfl rfl) rfl) ?_))
 rintro _ w11 ⟨g10,rfl,hs13⟩
 refine st (v:=.bool false) (x_assign .const) ?_
 refine c_nil (n_then (c_seq (c_region (st (v:=.pointer (some ⟨g10,0 + 0,none⟩)) (fa37_0 (.tmp rfl rfl)) ?_))))
 refine st (v:=.pointer (some ⟨g10,0 + 0 + 0,none⟩)) (fa34_0 (.tmp rfl rfl)) ?_
 refine st (v:=.int .u64 ((s.V.N:Nat):Int)) (ld32 (.tmp rfl rfl) (hs13.cell 0 rfl (0 + 0 + 0) rfl)) ?_
 refine st (v:=.bool (decide ((((s.V.N:Nat):Int):Int) = 0))) (x_eql (k:=.u64) (a:=((s.V.N:Nat):Int)) (b:=0) (.tmp rfl rfl) .const) ?_
 refine st (v:=.bool (decide ((((s.V.N:Nat):Int):Int) = 0))) (x_assign (.tmp rfl rfl)) ?_
 refine c_nil (n_then (c_ret (leave_ret (res_one (v:=.bool (decide ((((s.V.N:Nat):Int):Int) = 0))) rfl (.mk rfl rfl)) ?_)))
 exact ⟨rfl,hs13.drop⟩
set_option maxHeartbeats 8000000 in
theorem join_spec {H:Hp} {w:World} {L:List Res} (hs:St H w (L)) {A_l:Option Addr} {n_l c_l:Nat} (l:(List GState)) (h_l:Sl kState H A_l n_l c_l l) (hb:∀ s ∈ l,0 ≤ s.Floor∧s.Floor ≤ 1073741824):Calls Tryd.prog 38 #[.slice A_l n_l c_l] w (fun e w' => ∃ (v0:Value) (cs0:List Value),e = .returned (v0)∧RowOk kState.sz v0 (joinS l).length cs0∧kState.toKn.rows H (joinS l) cs0∧St H w' (row 37 kState.sz v0 (joinS l).length cs0::L)):=by
 have:=h_l.len; have:=h_l.le; have:n_l * 48 ≤ 140737488351232:=h_l.bnd
 refine enter (args:=[.slice A_l n_l c_l]) (N:=45) Tryd.func38 rfl rfl rfl ?_
 refine c_seq (c_region (st (v:=.slice none 0 0) (x_assign .const) ?_))
 refine c_nil (n_then (c_seq (c_region (st (v:=.slice none 0 0) (x_assign .const) ?_))))
 refine c_nil (n_then (c_seq (c_seq (c_region (st (v:=.slice A_l n_l c_l) (x_move (.tmp rfl rfl)) ?_)))))
 refine st (v:=.int .i64 ((n_l:Nat):Int)) (x_len (n:=n_l) Tryd.underlying40 (.tmp rfl rfl)) ?_
 refine st (v:=.int .i64 0) (x_move .const) ?_
 refine c_nil (n_then (c_block ?_))
 have hs2:=hs.krowNil 37 kState
 have:([]:List GState).length = 0:=rfl
 refine c_loop (fun ρ w mm => ∃ (out:List GState) (v_out:Value) (c_out:List Value) (i:Nat),ρ 3 = v_out∧ρ 8 = .slice A_l n_l c_l∧ρ 9 = .int .i64 ((n_l:Nat):Int)∧ρ 10 = .int .i64 ((i:Nat):Int)∧(RowOk kState.sz v_out out.length c_out)∧(kState.toKn.rows H out c_out)∧(i ≤ n_l)∧(out = cutTo l i)∧(out.length ≤ i)∧(∀ x ∈ out,x ∈ l)∧St H w (row 37 4 v_out out.length c_out::L)∧mm = n_l - i) _ ⟨([]:List GState),(.slice none 0 0),[],0,rfl,rfl,rfl,rfl,(RowOk.knil kState),(Kn.rows_nil _ _),(by omega),rfl,(by omega),(fun x hx => absurd hx List.not_mem_nil),hs2,rfl⟩ ?_
 rintro ρ w mm ⟨out,v_out,c_out,i,hρ4,hρ5,hρ6,hρ7,ok_out,hk_out,hi,hout,hol,hin,hs8,rfl⟩
 refine c_seq (c_region (st (v:=.bool (decide ((((i:Nat):Int):Int) < ((n_l:Nat):Int)))) (x_lss (k:=.i64) (a:=((i:Nat):Int)) (b:=((n_l:Nat):Int)) (.tmp rfl hρ7) (.tmp rfl hρ6)) ?_))
 refine c_nil (n_then (c_seq ?_))
 rcases Bool.eq_false_or_eq_true (decide ((((i:Nat):Int):Int) < ((n_l:Nat):Int))) with hc9 | hc9
 have hp9:(((i:Nat):Int):Int) < ((n_l:Nat):Int):=of_decide_eq_true hc9
 refine c_cond_t (t:=true) (.tmp rfl (cVb hc9)) rfl ?_
 refine c_skip (n_then (c_seq (c_block (c_seq (c_region ?_)))))
 obtain ⟨e10,b11,o12,cs13,hx14,hA15,hr16,hat17⟩:=h_l.get (i:=i) (by omega)
 obtain ⟨A23,n24,c25,rfl,b18,⟨b19,b20⟩,⟨b21,b22⟩,hl26⟩:=hr16
 have:=hl26.len; have:n24 * 32 ≤ 140737488351232:=hl26.bnd; have:=hl26.le
 have hat17x:∀ {w:World} {L:List Res},St H w L → At w ⟨b11,o12 + i * 4,none⟩ [.int .u64 ((e10.V.N:Nat):Int),.int .i64 e10.V.P,.int .i64 e10.Floor,.slice A23 n24 c25]:=fun h => hat17 h
 have:=hb e10 (List.mem_of_getElem? hx14)
 refine st (v:=.pointer (some ⟨b11,(o12 + i * 4),none⟩)) (ixo40 (.tmp rfl hρ5) hA15 (i:=((i:Nat):Int)) (.tmp rfl hρ7) (by omega) (by omega) (by omega)) ?_
 refine st (v:=.agg #[.int .u64 ((e10.V.N:Nat):Int),.int .i64 e10.V.P,.int .i64 e10.Floor,.slice A23 n24 c25]) (ld37 (cs:=[.int .u64 ((e10.V.N:Nat):Int),.int .i64 e10.V.P,.int .i64 e10.Floor,.slice A23 n24 c25]) (.tmp rfl rfl) ((hat17x hs8).sub 0 rfl) rfl) ?_
 refine st_m (al37 (cs:=[.int .u64 0,.int .i64 0,.int .i64 0,.slice none 0 0]) hs8 rfl) ?_
 rintro _ w28 ⟨g27,rfl,hs30⟩
 refine st_m0 (sto37 (cs':=[.int .u64 ((e10.V.N:Nat):Int),.int .i64 e10.V.P,.int .i64 e10.Floor,.slice A23 n24 c25]) (i:=0) hs30 (v:=.agg #[.int .u64 ((e10.V.N:Nat):Int),.int .i64 e10.V.P,.int .i64 e10.Floor,.slice A23 n24 c25]) (.tmp rfl rfl) (.tmp rfl rfl) rfl (Nat.le_of_ble_eq_true rfl) (oneA rfl) rfl) ?_
 rintro w31 hs33
 refine c_nil (n_then (c_seq (c_region (st (v:=v_out) (x_move (.tmp rfl hρ4)) ?_))))
 refine st (v:=.pointer (some ⟨g27,0 + 0,none⟩)) (fa37_0 (.tmp rfl rfl)) ?_
 refine st (v:=.agg #[.int .u64 ((e10.V.N:Nat):Int),.int .i64 e10.V.P]) (ld34 (cs:=[.int .u64 ((e10.V.N:Nat):Int),.int .i64 e10.V.P]) (.tmp rfl rfl) (hs33.at_ 0 rfl (0 + 0) rfl) rfl) ?_
 have hs34:=hs33.p1
 have hr35:kViewID.rep H e10.V [.int .u64 ((e10.V.N:Nat):Int),.int .i64 e10.V.P]:=⟨rfl,b18,⟨b19,b20⟩⟩
 refine st_c cb42 .func (evs3 (.tmp rfl rfl) (.tmp rfl rfl) .func) (binary_state hs34 ok_out hk_out e10.V hr35 (fun (y0:GState) (y1:GViewID) => (vcmp y0.V y1)) cb43 (fun {_} {_} hs y0 {_} h0 y1 {_} h1 => join_c hs y0 h0 y1 h1 ) (by omega)) ?_
 rintro e w36 ⟨rfl,hs37⟩
 refine ⟨_,rfl,?_⟩
 refine st (v:=.tuple #[.int .i64 ((bsIx (fun (y0:GState) (y1:GViewID) => (vcmp y0.V y1)) out e10.V:Nat):Int),.bool (bsOk (fun (y0:GState) (y1:GViewID) => (vcmp y0.V y1)) out e10.V)]) (x_move (.tmp rfl rfl)) ?_
 refine st (v:=.int .i64 ((bsIx (fun (y0:GState) (y1:GViewID) => (vcmp y0.V y1)) out e10.V:Nat):Int)) (x_extract (.tmp rfl rfl) (i:=0) rfl) ?_
 refine st (v:=.bool (bsOk (fun (y0:GState) (y1:GViewID) => (vcmp y0.V y1)) out e10.V)) (x_extract (.tmp rfl rfl) (i:=1) rfl) ?_
 refine st (v:=.int .i64 ((bsIx (fun (y0:GState) (y1:GViewID) => (vcmp y0.V y1)) out e10.V:Nat):Int)) (x_assign (.tmp rfl rfl)) ?_
 refine st (v:=.bool (bsOk (fun (y0:GState) (y1:GViewID) => (vcmp y0.V y1)) out e10.V)) (x_assign (.tmp rfl rfl)) ?_
 refine c_nil (n_then (c_block (c_seq (c_region ?_))))
 have hix:=bsIx_le (f:=(fun (y0:GState) (y1:GViewID) => (vcmp y0.V y1))) (x:=out) (t:=e10.V)
 refine st (v:=.bool (bsOk (fun (y0:GState) (y1:GViewID) => (vcmp y0.V y1)) out e10.V)) (x_move (.tmp rfl rfl)) ?_
 refine st (v:=.bool (!(bsOk (fun (y0:GState) (y1:GViewID) => (vcmp y0.V y1)) out e10.V))) (x_not (.tmp rfl rfl)) ?_
 refine st (v:=.bool (!(bsOk (fun (y0:GState) (y1:GViewID) => (vcmp y0.V y1)) out e10.V))) (x_assign (.tmp rfl rfl)) ?_
 refine c_nil (n_then ?_)
 rcases Bool.eq_false_or_eq_true (bsOk (fun (y0:GState) (y1:GViewID) => (vcmp y0.V y1)) out e10.V) with hc38 | hc38
 refine c_cond_f (t:=false) (.tmp rfl (cVb (by rw [hc38]; rfl))) rfl ?_
 refine c_seq (q_region mixed hs37 (by kernel_rfl) ?_)
 have hlt:=bsOk_lt hc38
 refine q_st (v:=.agg #[.int .u64 ((e10.V.N:Nat):Int),.int .i64 e10.V.P,.int .i64 e10.Floor,.slice A23 n24 c25]) (fun w hs => (ld37 (cs:=[.int .u64 ((e10.V.N:Nat):Int),.int .i64 e10.V.P,.int .i64 e10.Floor,.slice A23 n24 c25]) (.tmp rfl rfl) (hs.at_ 1 rfl (0) rfl) rfl)) ?_
 refine q_c (v:=.int .i64 (sEnd e10)) cb45 .func (evs1 (.tmp rfl rfl)) (fun w hs => end_spec hs e10 (k_s:=[.int .u64 ((e10.V.N:Nat):Int),.int .i64 e10.V.P,.int .i64 e10.Floor,.slice A23 n24 c25]) ⟨A23,n24,c25,rfl,b18,⟨b19,b20⟩,⟨b21,b22⟩,hl26⟩ (show (0:Int) ≤ e10.Floor from by omega) (show e10.Floor ≤ (1073741824:Int) from by omega)) ?_
 refine q_st (v:=v_out) (fun w hs => (x_move (.tmp rfl hρ4))) ?_
 refine q_st (v:=.int .i64 ((bsIx (fun (y0:GState) (y1:GViewID) => (vcmp y0.V y1)) out e10.V:Nat):Int)) (fun w hs => (x_move (.tmp rfl rfl))) ?_
 obtain ⟨g40,c41,hv42⟩:=ok_out.pos (by omega)
 obtain ⟨e43,cs44,hx45,hr46,hsub47⟩:=Kn.rows_get (i:=(bsIx (fun (y0:GState) (y1:GViewID) => (vcmp y0.V y1)) out e10.V)) hk_out (by omega)
 obtain ⟨A53,n54,c55,rfl,b48,⟨b49,b50⟩,⟨b51,b52⟩,hl56⟩:=hr46
 have:=hl56.len; have:n54 * 32 ≤ 140737488351232:=hl56.bnd; have:=hl56.le
 have:=hb e43 (hin e43 (List.mem_of_getElem? hx45))
 refine q_st (v:=.pointer (some ⟨g40,((bsIx (fun (y0:GState) (y1:GViewID) => (vcmp y0.V y1)) out e10.V) * 4),none⟩)) (fun w hs => (ixo40 (.tmp rfl hv42) rfl (i:=((bsIx (fun (y0:GState) (y1:GViewID) => (vcmp y0.V y1)) out e10.V:Nat):Int)) (.tmp rfl rfl) (by omega) (by omega) (by omega))) ?_
 refine q_st (v:=.agg #[.int .u64 ((e43.V.N:Nat):Int),.int .i64 e43.V.P,.int .i64 e43.Floor,.slice A53 n54 c55]) (fun w hs => (ld37 (cs:=[.int .u64 ((e43.V.N:Nat):Int),.int .i64 e43.V.P,.int .i64 e43.Floor,.slice A53 n54 c55]) (.tmp rfl rfl) ((hs.rowAt 0 rfl hv42 ((bsIx (fun (y0:GState) (y1:GViewID) => (vcmp y0.V y1)) out e10.V) * 4) hsub47).sub 0 rfl) rfl)) ?_
 refine q_c (v:=.int .i64 (sEnd e43)) cb45 .func (evs1 (.tmp rfl rfl)) (fun w hs => end_spec hs e43 (k_s:=[.int .u64 ((e43.V.N:Nat):Int),.int .i64 e43.V.P,.int .i64 e43.Floor,.slice A53 n54 c55]) ⟨A53,n54,c55,rfl,b48,⟨b49,b50⟩,⟨b51,b52⟩,hl56⟩ (show (0:Int) ≤ e43.Floor from by omega) (show e43.Floor ≤ (1073741824:Int) from by omega)) ?_
 refine q_st (v:=.bool (decide (((sEnd e43):Int) < (sEnd e10)))) (fun w hs => (x_gtr (k:=.i64) (a:=(sEnd e10)) (b:=(sEnd e43)) (.tmp rfl rfl) (.tmp rfl rfl))) ?_
 refine q_st (v:=.bool (decide (((sEnd e43):Int) < (sEnd e10)))) (fun w hs => (x_assign (.tmp rfl rfl))) ?_
 refine q_nil ?_
 intro w hs58
 refine n_then ?_
 rcases Bool.eq_false_or_eq_true (decide (((sEnd e43):Int) < (sEnd e10))) with hc59 | hc59
 have hp59:((sEnd e43):Int) < (sEnd e10):=of_decide_eq_true hc59
 refine c_cond_t (t:=true) (.tmp rfl (cVb hc59)) rfl ?_
 refine c_region (st (v:=v_out) (x_move (.tmp rfl hρ4)) ?_)
 refine st (v:=.int .i64 ((bsIx (fun (y0:GState) (y1:GViewID) => (vcmp y0.V y1)) out e10.V:Nat):Int)) (x_move (.tmp rfl rfl)) ?_
 refine st (v:=.agg #[.int .u64 ((e10.V.N:Nat):Int),.int .i64 e10.V.P,.int .i64 e10.Floor,.slice A23 n24 c25]) (ld37 (cs:=[.int .u64 ((e10.V.N:Nat):Int),.int .i64 e10.V.P,.int .i64 e10.Floor,.slice A23 n24 c25]) (.tmp rfl rfl) (hs58.at_ 1 rfl (0) rfl) rfl) ?_
 obtain ⟨g60,c61,hv62⟩:=ok_out.pos (by omega)
 refine st (v:=.pointer (some ⟨g60,((bsIx (fun (y0:GState) (y1:GViewID) => (vcmp y0.V y1)) out e10.V) * 4),none⟩)) (ixo40 (.tmp rfl hv62) rfl (i:=((bsIx (fun (y0:GState) (y1:GViewID) => (vcmp y0.V y1)) out e10.V:Nat):Int)) (.tmp rfl rfl) (by omega) (by omega) (by omega)) ?_
 have hl68:(bsIx (fun (y0:GState) (y1:GViewID) => (vcmp y0.V y1)) out e10.V) * 4 + 4 ≤ c_out.length:=by have h1:=(hk_out).1; have h2:kState.sz = 4:=rfl; rw [h2] at h1; omega
 have hr67:kState.rep H e10 [.int .u64 ((e10.V.N:Nat):Int),.int .i64 e10.V.P,.int .i64 e10.Floor,.slice A23 n24 c25]:=⟨A23,n24,c25,rfl,b18,⟨b19,b20⟩,⟨b21,b22⟩,hl26⟩
 refine st_m0 (stor37 hs58 hv62 (i:=((bsIx (fun (y0:GState) (y1:GViewID) => (vcmp y0.V y1)) out e10.V) * 4)) (xs':=splice c_out ((bsIx (fun (y0:GState) (y1:GViewID) => (vcmp y0.V y1)) out e10.V) * 4) [.int .u64 ((e10.V.N:Nat):Int),.int .i64 e10.V.P,.int .i64 e10.Floor,.slice A23 n24 c25]) (.tmp rfl rfl) (u:=.agg #[.int .u64 ((e10.V.N:Nat):Int),.int .i64 e10.V.P,.int .i64 e10.Floor,.slice A23 n24 c25]) (.tmp rfl rfl) rfl (by omega) (oneA rfl) rfl) ?_
 rintro w63 hs64
 have hk66:=Kn.rows_set (d:=kState.toKn) hk_out (i:=(bsIx (fun (y0:GState) (y1:GViewID) => (vcmp y0.V y1)) out e10.V)) (by omega) hr67
 have ok65:=ok_out.splice (i:=(bsIx (fun (y0:GState) (y1:GViewID) => (vcmp y0.V y1)) out e10.V) * 4) (vs:=[.int .u64 ((e10.V.N:Nat):Int),.int .i64 e10.V.P,.int .i64 e10.Floor,.slice A23 n24 c25]) (by simpa using hl68)
 have hn69:(out.set (bsIx (fun (y0:GState) (y1:GViewID) => (vcmp y0.V y1)) out e10.V) e10).length = out.length:=List.length_set
 have ok70:RowOk kState.sz v_out (out.set (bsIx (fun (y0:GState) (y1:GViewID) => (vcmp y0.V y1)) out e10.V) e10).length (splice c_out ((bsIx (fun (y0:GState) (y1:GViewID) => (vcmp y0.V y1)) out e10.V) * 4) [.int .u64 ((e10.V.N:Nat):Int),.int .i64 e10.V.P,.int .i64 e10.Floor,.slice A23 n24 c25]):=by rw [hn69]; exact ok65
 have hs71:St H w63 (row 37 4 v_out ((out.set (bsIx (fun (y0:GState) (y1:GViewID) => (vcmp y0.V y1)) out e10.V) e10).length) (splice c_out ((bsIx (fun (y0:GState) (y1:GViewID) => (vcmp y0.V y1)) out e10.V) * 4) [.int .u64 ((e10.V.N:Nat):Int),.int .i64 e10.V.P,.int .i64 e10.Floor,.slice A23 n24 c25])::obj g27 37 (clState e10 A23 n24 c25)::L):=by rw [hn69]; exact hs64
 refine c_nil (n_block (n_block (n_then (c_region (st (v:=.int .i64 (((i + 1):Nat):Int)) (x_add (k:=.i64) (a:=((i:Nat):Int)) (b:=1) (.tmp rfl hρ7) .const ((w64 (by omega) (by omega)).trans (by omega))) ?_)))))
 refine st (v:=.int .i64 (((i + 1):Nat):Int)) (x_move (.tmp rfl rfl)) ?_
 refine c_nil ?_
 have hN:(out.set (bsIx (fun (y0:GState) (y1:GViewID) => (vcmp y0.V y1)) out e10.V) e10) = cutTo l (i + 1):=by rw [cutTo_next hx14,← hout,stepC_set hc38 hx45 hp59]
 refine n_then ⟨_,_,rfl,?_,(out.set (bsIx (fun (y0:GState) (y1:GViewID) => (vcmp y0.V y1)) out e10.V) e10),v_out,(splice c_out ((bsIx (fun (y0:GState) (y1:GViewID) => (vcmp y0.V y1)) out e10.V) * 4) [.int .u64 ((e10.V.N:Nat):Int),.int .i64 e10.V.P,.int .i64 e10.Floor,.slice A23 n24 c25]),(i + 1),hρ4,hρ5,hρ6,rfl,ok70,hk66,(by omega),hN,(by rw [hN]; exact cutTo_length _ _),(by rw [hN]; exact cutTo_mem _ _),(hs71.p1).drop,rfl⟩
 omega
 have hp59:¬ (((sEnd e43):Int) < (sEnd e10)):=of_decide_eq_false hc59
 refine c_cond_f (t:=false) (.tmp rfl (cVb hc59)) rfl ?_
 refine c_skip (n_block (n_block (n_then (c_region (st (v:=.int .i64 (((i + 1):Nat):Int)) (x_add (k:=.i64) (a:=((i:Nat):Int)) (b:=1) (.tmp rfl hρ7) .const ((w64 (by omega) (by omega)).trans (by omega))) ?_)))))
 refine st (v:=.int .i64 (((i + 1):Nat):Int)) (x_move (.tmp rfl rfl)) ?_
 refine c_nil ?_
 have hN:out = cutTo l (i + 1):=by rw [cutTo_next hx14,← hout,stepC_stay hc38 hx45 hp59]
 refine n_then ⟨_,_,rfl,?_,out,v_out,c_out,(i + 1),hρ4,hρ5,hρ6,rfl,ok_out,hk_out,(by omega),hN,(by rw [hN]; exact cutTo_length _ _),(by rw [hN]; exact cutTo_mem _ _),(hs58.p1).drop,rfl⟩
 omega
 refine c_cond_t (t:=true) (.tmp rfl (cVb (by rw [hc38]; rfl))) rfl ?_
 refine c_region (st (v:=v_out) (x_move (.tmp rfl hρ4)) ?_)
 refine st (v:=.int .i64 ((bsIx (fun (y0:GState) (y1:GViewID) => (vcmp y0.V y1)) out e10.V:Nat):Int)) (x_move (.tmp rfl rfl)) ?_
 refine st (v:=.agg #[.int .u64 ((e10.V.N:Nat):Int),.int .i64 e10.V.P,.int .i64 e10.Floor,.slice A23 n24 c25]) (ld37 (cs:=[.int .u64 ((e10.V.N:Nat):Int),.int .i64 e10.V.P,.int .i64 e10.Floor,.slice A23 n24 c25]) (.tmp rfl rfl) (hs37.at_ 1 rfl (0) rfl) rfl) ?_
 refine st_m (m_lit (n:=1) (ps:=[(0,.agg #[.int .u64 ((e10.V.N:Nat):Int),.int .i64 e10.V.P,.int .i64 e10.Floor,.slice A23 n24 c25])]) (cs:=[.int .u64 ((e10.V.N:Nat):Int),.int .i64 e10.V.P,.int .i64 e10.Floor,.slice A23 n24 c25]) Tryd.underlying40 inf37 (.cons (.tmp rfl rfl) Evp.nil) (by decide) (by decide) rfl rfl hs37) ?_
 rintro _ w73 ⟨g72,rfl,hs75⟩
 have hs76:=hs75.p1
 refine st_c cb44 .func (evs3 (.tmp rfl rfl) (.tmp rfl rfl) (.tmp rfl rfl)) (insert_state hs76 ok_out hk_out (bsIx (fun (y0:GState) (y1:GViewID) => (vcmp y0.V y1)) out e10.V) (k_v:=[.int .u64 ((e10.V.N:Nat):Int),.int .i64 e10.V.P,.int .i64 e10.Floor,.slice A23 n24 c25]) (v:=e10) ⟨A23,n24,c25,rfl,b18,⟨b19,b20⟩,⟨b21,b22⟩,hl26⟩ (by omega) (by omega)) ?_
 rintro e w77 ⟨v79,cs82,rfl,ok80,hk83,hs78⟩
 refine ⟨_,rfl,?_⟩
 refine st (v:=v79) (x_assign (.tmp rfl rfl)) ?_
 refine c_nil (n_block (n_block (n_then (c_region (st (v:=.int .i64 (((i + 1):Nat):Int)) (x_add (k:=.i64) (a:=((i:Nat):Int)) (b:=1) (.tmp rfl hρ7) .const ((w64 (by omega) (by omega)).trans (by omega))) ?_)))))
 refine st (v:=.int .i64 (((i + 1):Nat):Int)) (x_move (.tmp rfl rfl)) ?_
 refine c_nil ?_
 have hN:(out.take (bsIx (fun (y0:GState) (y1:GViewID) => (vcmp y0.V y1)) out e10.V) ++ [e10] ++ out.drop (bsIx (fun (y0:GState) (y1:GViewID) => (vcmp y0.V y1)) out e10.V)) = cutTo l (i + 1):=by rw [cutTo_next hx14,← hout,stepC_ins hc38]
 refine n_then ⟨_,_,rfl,?_,(out.take (bsIx (fun (y0:GState) (y1:GViewID) => (vcmp y0.V y1)) out e10.V) ++ [e10] ++ out.drop (bsIx (fun (y0:GState) (y1:GViewID) => (vcmp y0.V y1)) out e10.V)),v79,cs82,(i + 1),rfl,hρ5,hρ6,rfl,ok80,hk83,(by omega),hN,(by rw [hN]; exact cutTo_length _ _),(by rw [hN]; exact cutTo_mem _ _),(hs78.p1).drop,rfl⟩
 omega
 have hp9:¬ ((((i:Nat):Int):Int) < ((n_l:Nat):Int)):=of_decide_eq_false hc9
 refine c_cond_f (t:=false) (.tmp rfl (cVb hc9)) rfl ?_
 refine c_exit (x_then (x_then (x_here (n_then (c_seq (c_region (st (v:=v_out) (x_move (.tmp rfl hρ4)) ?_)))))))
 refine st_c cb46 .func (evs2 (.tmp rfl rfl) .func) (delete_state hs8 ok_out hk_out (fun (y0:GState) => (decide (((y0.V.N:Nat):Int) = 0))) cb47 (fun {_} {_} hs y0 {_} h0 => join_p hs y0 h0 ) ) ?_
 rintro e w84 ⟨v86,cs89,rfl,ok87,hk90,hs85⟩
 refine ⟨_,rfl,?_⟩
 refine st (v:=v86) (x_assign (.tmp rfl rfl)) ?_
 refine c_nil (n_then (c_ret (leave_ret (res_one (v:=v86) rfl (.mk rfl rfl)) ?_)))
 have hans:joinC l = (out.filter (fun x => !(fun (y0:GState) => (decide (((y0.V.N:Nat):Int) = 0))) x)):=by unfold joinC; rw [hout,show i = l.length from by omega]
 rw [← joinC_eq,hans]
 exact ⟨v86,cs89,rfl,ok87,hk90,hs85⟩
end Go.Proofs.YtcccaihjgoaehaaDoor

set_option linter.unusedVariables false
set_option linter.unusedSimpArgs false
namespace Go.Proofs.YtcccaihjgoaehaaDoor
open Go Go.FM Go.Proofs
attribute [local irreducible] wpList wpQuiet wpS Code.wp Calls
set_option maxHeartbeats 8000000 in
theorem prom_X {H:Hp} {w:World} {L:List Res} {g_m m_n m_self m_high:Nat} {m_cur:GView} {m_prom:GViewID} {m_jl:List GState} {m_os:List (GViewID × GViewID)} {A_m:Option Addr} {jn_m jc_m:Nat} {m_prop:Option GProp} {pv_m:Value} (hs:St H w (obj g_m 78 ((.int .i64 ((m_n:Nat):Int))::(.int .i64 ((m_self:Nat):Int))::(.int .u64 ((m_cur.ID.N:Nat):Int))::(.int .i64 m_cur.ID.P)::(.int .u16 ((m_cur.Set:Nat):Int))::(.int .u64 ((m_prom.N:Nat):Int))::(.int .i64 m_prom.P)::(.int .u64 ((m_high:Nat):Int))::pv_m::(.slice A_m jn_m jc_m)::oCells m_os)::L)) (ok_m:MemB H m_n m_self m_cur m_prom m_high A_m jn_m jc_m m_jl m_os):Calls Tryd.prog 19 #[.pointer (some ⟨g_m,0,none⟩)] w (fun e w' => ∃ (cs0:List Value),e = .returned (.agg cs0.toArray)∧kViewID.rep H (m_prom) cs0∧St H w' (obj g_m 78 ((.int .i64 ((m_n:Nat):Int))::(.int .i64 ((m_self:Nat):Int))::(.int .u64 ((m_cur.ID.N:Nat):Int))::(.int .i64 m_cur.ID.P)::(.int .u16 ((m_cur.Set:Nat):Int))::(.int .u64 ((m_prom.N:Nat):Int))::(.int .i64 m_prom.P)::(.int .u64 ((m_high:Nat):Int))::pv_m::(.slice A_m jn_m jc_m)::oCells m_os)::L)):=by
 have hn1_m:1 ≤ m_n:=ok_m.n1
 have hn16_m:m_n ≤ 16:=ok_m.n16
 have hsf_m:m_self < m_n:=ok_m.self
 have hol_m:m_os.length = 16:=ok_m.len
 have hhi_m:m_high < 18446744073709551616:=ok_m.high
 refine enter (args:=[.pointer (some ⟨g_m,0,none⟩)]) (N:=10) Tryd.func19 rfl rfl rfl ?_
 refine c_seq (c_region (st_m (al34 (cs:=[.int .u64 0,.int .i64 0]) hs rfl) ?_))
 rintro _ w2 ⟨g1,rfl,hs4⟩
 refine c_nil (n_then (c_seq (c_seq (c_region (st (v:=.pointer (some ⟨g_m,0,none⟩)) (x_move (.tmp rfl rfl)) ?_)))))
 refine st (v:=.bool false) (x_eqlP Tryd.underlying23 (.tmp rfl rfl) .const rfl) ?_
 refine c_nil (n_then (c_cond_f (t:=false) (.tmp rfl rfl) rfl ?_))
 refine c_skip (n_then (c_seq (c_region (st (v:=.pointer (some ⟨g_m,0,none⟩)) (x_move (.tmp rfl rfl)) ?_))))
 refine st (v:=.pointer (some ⟨g_m,0,none⟩)) (x_nilCheck (.tmp rfl rfl)) ?_
 refine st (v:=.pointer (some ⟨g_m,0 + 5,none⟩)) (fa78_3 (.tmp rfl rfl)) ?_
 refine st (v:=.agg #[.int .u64 ((m_prom.N:Nat):Int),.int .i64 m_prom.P]) (ld34 (cs:=[.int .u64 ((m_prom.N:Nat):Int),.int .i64 m_prom.P]) (.tmp rfl rfl) (hs4.at_ 1 rfl (0 + 5) rfl) rfl) ?_
 refine st_m0 (sto34 (cs':=[.int .u64 ((m_prom.N:Nat):Int),.int .i64 m_prom.P]) (i:=0) hs4 (v:=.agg #[.int .u64 ((m_prom.N:Nat):Int),.int .i64 m_prom.P]) (.tmp rfl rfl) (.tmp rfl rfl) rfl (Nat.le_of_ble_eq_true rfl) (oneA rfl) rfl) ?_
 rintro w5 hs7
 refine c_nil (n_then (c_ret (leave_ret (res_one (v:=.agg #[.int .u64 ((m_prom.N:Nat):Int),.int .i64 m_prom.P]) rfl (.mkCell rfl rfl (lv34 (cs:=[.int .u64 ((m_prom.N:Nat):Int),.int .i64 m_prom.P]) (hs7.at_ 0 rfl 0 rfl) rfl))) ?_)))
 exact ⟨[.int .u64 ((m_prom.N:Nat):Int),.int .i64 m_prom.P],rfl,⟨rfl,ok_m.prom.n,ok_m.prom.p⟩,hs7.drop⟩
set_option maxHeartbeats 8000000 in
theorem cur_X {H:Hp} {w:World} {L:List Res} {g_m m_n m_self m_high:Nat} {m_cur:GView} {m_prom:GViewID} {m_jl:List GState} {m_os:List (GViewID × GViewID)} {A_m:Option Addr} {jn_m jc_m:Nat} {m_prop:Option GProp} {pv_m:Value} (hs:St H w (obj g_m 78 ((.int .i64 ((m_n:Nat):Int))::(.int .i64 ((m_self:Nat):Int))::(.int .u64 ((m_cur.ID.N:Nat):Int))::(.int .i64 m_cur.ID.P)::(.int .u16 ((m_cur.Set:Nat):Int))::(.int .u64 ((m_prom.N:Nat):Int))::(.int .i64 m_prom.P)::(.int .u64 ((m_high:Nat):Int))::pv_m::(.slice A_m jn_m jc_m)::oCells m_os)::L)) (ok_m:MemB H m_n m_self m_cur m_prom m_high A_m jn_m jc_m m_jl m_os):Calls Tryd.prog 14 #[.pointer (some ⟨g_m,0,none⟩)] w (fun e w' => ∃ (cs0:List Value),e = .returned (.agg cs0.toArray)∧kView.rep H (m_cur) cs0∧St H w' (obj g_m 78 ((.int .i64 ((m_n:Nat):Int))::(.int .i64 ((m_self:Nat):Int))::(.int .u64 ((m_cur.ID.N:Nat):Int))::(.int .i64 m_cur.ID.P)::(.int .u16 ((m_cur.Set:Nat):Int))::(.int .u64 ((m_prom.N:Nat):Int))::(.int .i64 m_prom.P)::(.int .u64 ((m_high:Nat):Int))::pv_m::(.slice A_m jn_m jc_m)::oCells m_os)::L)):=by
 have hn1_m:1 ≤ m_n:=ok_m.n1
 have hn16_m:m_n ≤ 16:=ok_m.n16
 have hsf_m:m_self < m_n:=ok_m.self
 have hol_m:m_os.length = 16:=ok_m.len
 have hhi_m:m_high < 18446744073709551616:=ok_m.high
 refine enter (args:=[.pointer (some ⟨g_m,0,none⟩)]) (N:=10) Tryd.func14 rfl rfl rfl ?_
 refine c_seq (c_region (st_m (al39 (cs:=[.int .u64 0,.int .i64 0,.int .u16 0]) hs rfl) ?_))
 rintro _ w2 ⟨g1,rfl,hs4⟩
 refine c_nil (n_then (c_seq (c_seq (c_region (st (v:=.pointer (some ⟨g_m,0,none⟩)) (x_move (.tmp rfl rfl)) ?_)))))
 refine st (v:=.bool false) (x_eqlP Tryd.underlying23 (.tmp rfl rfl) .const rfl) ?_
 refine c_nil (n_then (c_cond_f (t:=false) (.tmp rfl rfl) rfl ?_))
 refine c_skip (n_then (c_seq (c_region (st (v:=.pointer (some ⟨g_m,0,none⟩)) (x_move (.tmp rfl rfl)) ?_))))
 refine st (v:=.pointer (some ⟨g_m,0,none⟩)) (x_nilCheck (.tmp rfl rfl)) ?_
 refine st (v:=.pointer (some ⟨g_m,0 + 2,none⟩)) (fa78_2 (.tmp rfl rfl)) ?_
 refine st (v:=.agg #[.int .u64 ((m_cur.ID.N:Nat):Int),.int .i64 m_cur.ID.P,.int .u16 ((m_cur.Set:Nat):Int)]) (ld39 (cs:=[.int .u64 ((m_cur.ID.N:Nat):Int),.int .i64 m_cur.ID.P,.int .u16 ((m_cur.Set:Nat):Int)]) (.tmp rfl rfl) (hs4.at_ 1 rfl (0 + 2) rfl) rfl) ?_
 refine st_m0 (sto39 (cs':=[.int .u64 ((m_cur.ID.N:Nat):Int),.int .i64 m_cur.ID.P,.int .u16 ((m_cur.Set:Nat):Int)]) (i:=0) hs4 (v:=.agg #[.int .u64 ((m_cur.ID.N:Nat):Int),.int .i64 m_cur.ID.P,.int .u16 ((m_cur.Set:Nat):Int)]) (.tmp rfl rfl) (.tmp rfl rfl) rfl (Nat.le_of_ble_eq_true rfl) (oneA rfl) rfl) ?_
 rintro w5 hs7
 refine c_nil (n_then (c_ret (leave_ret (res_one (v:=.agg #[.int .u64 ((m_cur.ID.N:Nat):Int),.int .i64 m_cur.ID.P,.int .u16 ((m_cur.Set:Nat):Int)]) rfl (.mkCell rfl rfl (lv39 (cs:=[.int .u64 ((m_cur.ID.N:Nat):Int),.int .i64 m_cur.ID.P,.int .u16 ((m_cur.Set:Nat):Int)]) (hs7.at_ 0 rfl 0 rfl) rfl))) ?_)))
 exact ⟨[.int .u64 ((m_cur.ID.N:Nat):Int),.int .i64 m_cur.ID.P,.int .u16 ((m_cur.Set:Nat):Int)],rfl,⟨rfl,ok_m.cur.n,ok_m.cur.p,ok_m.set⟩,hs7.drop⟩
set_option maxHeartbeats 8000000 in
theorem opn_X {H:Hp} {w:World} {L:List Res} {g_m m_n m_self m_high:Nat} {m_cur:GView} {m_prom:GViewID} {m_jl:List GState} {m_os:List (GViewID × GViewID)} {A_m:Option Addr} {jn_m jc_m:Nat} {m_prop:Option GProp} {pv_m:Value} (hs:St H w (obj g_m 78 ((.int .i64 ((m_n:Nat):Int))::(.int .i64 ((m_self:Nat):Int))::(.int .u64 ((m_cur.ID.N:Nat):Int))::(.int .i64 m_cur.ID.P)::(.int .u16 ((m_cur.Set:Nat):Int))::(.int .u64 ((m_prom.N:Nat):Int))::(.int .i64 m_prom.P)::(.int .u64 ((m_high:Nat):Int))::pv_m::(.slice A_m jn_m jc_m)::oCells m_os)::L)) (ok_m:MemB H m_n m_self m_cur m_prom m_high A_m jn_m jc_m m_jl m_os):Calls Tryd.prog 15 #[.pointer (some ⟨g_m,0,none⟩)] w (fun e w' => e = .returned (.bool (MB.opn (MB.mk m_n m_self m_cur m_prom m_high m_prop m_jl m_os)))∧St H w' (obj g_m 78 ((.int .i64 ((m_n:Nat):Int))::(.int .i64 ((m_self:Nat):Int))::(.int .u64 ((m_cur.ID.N:Nat):Int))::(.int .i64 m_cur.ID.P)::(.int .u16 ((m_cur.Set:Nat):Int))::(.int .u64 ((m_prom.N:Nat):Int))::(.int .i64 m_prom.P)::(.int .u64 ((m_high:Nat):Int))::pv_m::(.slice A_m jn_m jc_m)::oCells m_os)::L)):=by
 have hn1_m:1 ≤ m_n:=ok_m.n1
 have hn16_m:m_n ≤ 16:=ok_m.n16
 have hsf_m:m_self < m_n:=ok_m.self
 have hol_m:m_os.length = 16:=ok_m.len
 have hhi_m:m_high < 18446744073709551616:=ok_m.high
 refine enter (args:=[.pointer (some ⟨g_m,0,none⟩)]) (N:=26) Tryd.func15 rfl rfl rfl ?_
 refine c_seq (c_region (st (v:=.bool false) (x_assign .const) ?_))
 refine c_nil (n_then (c_seq (q_region mixed hs (by kernel_rfl) ?_)))
 refine q_st (v:=.pointer (some ⟨g_m,0,none⟩)) (fun w hs => (x_move (.tmp rfl rfl))) ?_
 refine q_st (v:=.bool true) (fun w hs => (x_neqP Tryd.underlying23 (.tmp rfl rfl) .const rfl)) ?_
 refine q_st (v:=.bool true) (fun w hs => (x_move (.tmp rfl rfl))) ?_
 refine q_yes (yl (dj:=5) (b:=true) rfl rfl rfl) ?_
 refine q_st (v:=.pointer (some ⟨g_m,0,none⟩)) (fun w hs => (x_move (.tmp rfl rfl))) ?_
 refine q_yes (yl (dj:=5) (b:=true) rfl rfl rfl) ?_
 refine q_st (v:=.pointer (some ⟨g_m,0,none⟩)) (fun w hs => (x_nilCheck (.tmp rfl rfl))) ?_
 refine q_yes (yl (dj:=5) (b:=true) rfl rfl rfl) ?_
 refine q_st (v:=.pointer (some ⟨g_m,0 + 2,none⟩)) (fun w hs => (fa78_2 (.tmp rfl rfl))) ?_
 refine q_yes (yl (dj:=5) (b:=true) rfl rfl rfl) ?_
 refine q_st (v:=.pointer (some ⟨g_m,0 + 2 + 0,none⟩)) (fun w hs => (fa39_0 (.tmp rfl rfl))) ?_
 refine q_yes (yl (dj:=5) (b:=true) rfl rfl rfl) ?_
 refine q_st (v:=.pointer (some ⟨g_m,0 + 2 + 0 + 0,none⟩)) (fun w hs => (fa34_0 (.tmp rfl rfl))) ?_
 refine q_yes (yl (dj:=5) (b:=true) rfl rfl rfl) ?_
 refine q_st (v:=.int .u64 ((m_cur.ID.N:Nat):Int)) (fun w hs => (ld32 (.tmp rfl rfl) (hs.cell 0 rfl (0 + 2 + 0 + 0) rfl))) ?_
 refine q_yes (yl (dj:=5) (b:=true) rfl rfl rfl) ?_
 refine q_st (v:=.bool (decide ((0:Int) < ((m_cur.ID.N:Nat):Int)))) (fun w hs => (x_gtr (k:=.u64) (a:=((m_cur.ID.N:Nat):Int)) (b:=0) (.tmp rfl rfl) .const)) ?_
 refine q_st (v:=.bool (decide ((0:Int) < ((m_cur.ID.N:Nat):Int)))) (fun w hs => (x_pick_t (.tmp rfl rfl) (.tmp rfl rfl))) ?_
 refine q_st (v:=.bool (decide ((0:Int) < ((m_cur.ID.N:Nat):Int)))) (fun w hs => (x_move (.tmp rfl rfl))) ?_
 refine jq 11 (fun ρ => ρ 25 = .bool ((decide ((0:Int) < ((m_cur.ID.N:Nat):Int))) && (decide (m_cur.ID = m_prom)))∧ρ 2 = .bool false∧True) ?_ ?_
 rcases Bool.eq_false_or_eq_true (decide ((0:Int) < ((m_cur.ID.N:Nat):Int))) with hc1 | hc1
 have hp1:(0:Int) < ((m_cur.ID.N:Nat):Int):=of_decide_eq_true hc1
 refine q_yes (yk 14 true rfl rfl hc1) ?_
 refine q_st (v:=.pointer (some ⟨g_m,0,none⟩)) (fun w hs => (x_move (.tmp rfl rfl))) ?_
 refine q_yes (yk 14 true rfl rfl hc1) ?_
 refine q_st (v:=.pointer (some ⟨g_m,0,none⟩)) (fun w hs => (x_nilCheck (.tmp rfl rfl))) ?_
 refine q_yes (yk 14 true rfl rfl hc1) ?_
 refine q_st (v:=.pointer (some ⟨g_m,0 + 2,none⟩)) (fun w hs => (fa78_2 (.tmp rfl rfl))) ?_
 refine q_yes (yk 14 true rfl rfl hc1) ?_
 refine q_st (v:=.pointer (some ⟨g_m,0 + 2 + 0,none⟩)) (fun w hs => (fa39_0 (.tmp rfl rfl))) ?_
 refine q_yes (yk 14 true rfl rfl hc1) ?_
 refine q_st (v:=.agg #[.int .u64 ((m_cur.ID.N:Nat):Int),.int .i64 m_cur.ID.P]) (fun w hs => (ld34 (cs:=[.int .u64 ((m_cur.ID.N:Nat):Int),.int .i64 m_cur.ID.P]) (.tmp rfl rfl) (hs.at_ 0 rfl (0 + 2 + 0) rfl) rfl)) ?_
 refine q_yes (yk 14 true rfl rfl hc1) ?_
 refine q_st (v:=.pointer (some ⟨g_m,0,none⟩)) (fun w hs => (x_move (.tmp rfl rfl))) ?_
 refine q_yes (yk 14 true rfl rfl hc1) ?_
 refine q_st (v:=.pointer (some ⟨g_m,0,none⟩)) (fun w hs => (x_nilCheck (.tmp rfl rfl))) ?_
 refine q_yes (yk 14 true rfl rfl hc1) ?_
 refine q_st (v:=.pointer (some ⟨g_m,0 + 5,none⟩)) (fun w hs => (fa78_3 (.tmp rfl rfl))) ?_
 refine q_yes (yk 14 true rfl rfl hc1) ?_
 refine q_st (v:=.agg #[.int .u64 ((m_prom.N:Nat):Int),.int .i64 m_prom.P]) (fun w hs => (ld34 (cs:=[.int .u64 ((m_prom.N:Nat):Int),.int .i64 m_prom.P]) (.tmp rfl rfl) (hs.at_ 0 rfl (0 + 5) rfl) rfl)) ?_
 refine q_yes (yk 14 true rfl rfl hc1) ?_
 refine q_st (v:=.bool ((((m_cur.ID.N:Nat):Int) == ((m_prom.N:Nat):Int)) && ((m_cur.ID.P == m_prom.P) && true))) (fun w hs => (x_eqlA eqg34 (.tmp rfl rfl) (.tmp rfl rfl) (fun d => eqs34 (d + 98) _ ((m_cur.ID.N:Nat):Int) ((m_prom.N:Nat):Int) m_cur.ID.P m_prom.P))) ?_
 refine q_st (v:=.bool (decide (m_cur.ID = m_prom))) (fun w hs => (x_pick_t (.tmp rfl (cVb hc1)) (.tmp rfl (cVb (GViewID.beq_dec m_cur.ID m_prom))))) ?_
 exact jq_end ⟨(cVb (jand_t hc1)),rfl,True.intro⟩
 have hp1:¬ ((0:Int) < ((m_cur.ID.N:Nat):Int)):=of_decide_eq_false hc1
 refine q_no (yk 14 false rfl rfl hc1) rfl ?_
 refine q_no (yk 14 false rfl rfl hc1) rfl ?_
 refine q_no (yk 14 false rfl rfl hc1) rfl ?_
 refine q_no (yk 14 false rfl rfl hc1) rfl ?_
 refine q_no (yk 14 false rfl rfl hc1) rfl ?_
 refine q_no (yk 14 false rfl rfl hc1) rfl ?_
 refine q_no (yk 14 false rfl rfl hc1) rfl ?_
 refine q_no (yk 14 false rfl rfl hc1) rfl ?_
 refine q_no (yk 14 false rfl rfl hc1) rfl ?_
 refine q_no (yk 14 false rfl rfl hc1) rfl ?_
 refine q_st (v:=.bool false) (fun w hs => (x_pick_f (.tmp rfl (cVb hc1)) .const)) ?_
 exact jq_end ⟨(cVb (jand_f hc1)),rfl,True.intro⟩
 rintro ρ ⟨hρ2,hρ3,_⟩
 refine q_st (v:=.bool ((decide ((0:Int) < ((m_cur.ID.N:Nat):Int))) && (decide (m_cur.ID = m_prom)))) (fun w hs => (x_assign (.tmp rfl hρ2))) ?_
 refine q_nil ?_
 intro w hs5
 refine n_then (c_ret (leave_ret (res_one (v:=.bool ((decide ((0:Int) < ((m_cur.ID.N:Nat):Int))) && (decide (m_cur.ID = m_prom)))) rfl (.mk rfl rfl)) ?_))
 have hans6:(MB.opn (MB.mk m_n m_self m_cur m_prom m_high m_prop m_jl m_os)) = ((decide ((0:Int) < ((m_cur.ID.N:Nat):Int))) && (decide (m_cur.ID = m_prom))):=opn_is _
 rw [hans6]
 exact ⟨rfl,hs5⟩
end Go.Proofs.YtcccaihjgoaehaaDoor
