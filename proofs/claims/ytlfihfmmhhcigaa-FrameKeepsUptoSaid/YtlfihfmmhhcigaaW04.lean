/- Steps of the proofs over the functions of this seat, printed by a program (gen.py) and checked by Lean. -/
import Derived.Test.YtlfihfmmhhcigaaW02
import Derived.Test.YtlfihfmmhhcigaaW00
import Derived.Test.YtlfihfmmhhcigaaW01
import Derived.Test.YtlfihfmmhhcigaaW03
set_option linter.unusedVariables false
set_option linter.unusedSimpArgs false
namespace Go.Proofs.Ytlfihfmmhhcigaa
open Go Go.FM Go.Proofs
attribute [local irreducible] wpList wpQuiet wpS Code.wp Calls
set_option maxHeartbeats 8000000 in
theorem fail_own {H:Hp} {w:World} {L:List Res} {g:Nat} {A:Option Addr} {n c:Nat} {b:Bool} (hs:St H w (obj g 98 [.slice A n c,.bool b]::L)):Calls Try.prog 60 #[.pointer (some ⟨g,0,none⟩)] w (fun e w' => (∃ u,e = .returned u)∧St H w' (obj g 98 [.slice A n c,.bool true]::L)):=by
 refine enter (args:=[.pointer (some ⟨g,0,none⟩)]) (N:=7) Try.func60 rfl rfl rfl ?_
 refine c_seq (c_region (st (v:=.pointer (some ⟨g,0,none⟩)) (x_move (.tmp rfl rfl)) ?_))
 refine st (v:=.bool true) (x_neqP Try.underlying67 (.tmp rfl rfl) .const rfl) ?_
 refine c_nil (n_then (c_cond_t (t:=true) (.tmp rfl rfl) rfl ?_))
 refine c_region (st (v:=.pointer (some ⟨g,0,none⟩)) (x_move (.tmp rfl rfl)) ?_)
 refine st (v:=.pointer (some ⟨g,0,none⟩)) (x_nilCheck (.tmp rfl rfl)) ?_
 refine st (v:=.pointer (some ⟨g,0 + 1,none⟩)) (fa98_1 (.tmp rfl rfl)) ?_
 refine st_m0 (sto4 (cs':=[.slice A n c,.bool true]) (i:=0 + 1) hs (v:=.bool true) (.tmp rfl rfl) .const rfl (Nat.le_of_ble_eq_true rfl) one1 rfl) ?_
 rintro w1 hs3
 refine c_nil (leave_end (res_none rfl) ?_)
 exact ⟨⟨_,rfl⟩,hs3⟩
set_option maxHeartbeats 8000000 in
theorem int_own {H:Hp} {w:World} {L:List Res} {g:Nat} {A:Option Addr} {n c:Nat} {bs:List Nat} (hp:Bs H A n c bs) (b:Bool) (most:Int) (hm1:-9223372036854775808 ≤ most) (hm2:most ≤ 9223372036854775807) (hs:St H w (obj g 98 [.slice A n c,.bool b]::L)):Calls Try.prog 33 #[.pointer (some ⟨g,0,none⟩),.int .i64 most] w (fun e w' => ∃ A' n' c',e = .returned (.int .i64 (((rdI bs b most).1:Nat):Int))∧Bs H A' n' c' (rdI bs b most).2.1∧St H w' (obj g 98 [.slice A' n' c',.bool (rdI bs b most).2.2]::L)):=by
 refine enter (args:=[.pointer (some ⟨g,0,none⟩),.int .i64 most]) (N:=30) Try.func33 rfl rfl rfl ?_
 have hlt:=rdU_lt bs b
 refine c_seq (c_region (st (v:=.int .i64 0) (x_assign .const) ?_))
 refine c_nil (n_then (c_seq (c_region (st (v:=.pointer (some ⟨g,0,none⟩)) (x_move (.tmp rfl rfl)) ?_))))
 refine st_c cb36 .func (evs1 (.tmp rfl rfl)) (uint_own hp b hs) ?_
 rintro e w4 ⟨A1,n2,c3,rfl,hp5,hs6⟩
 refine ⟨_,rfl,?_⟩
 refine st (v:=.int .u64 (((rdU bs b).1:Nat):Int)) (x_assign (.tmp rfl rfl)) ?_
 refine c_nil (n_then (c_seq (c_seq (c_region (st (v:=.pointer (some ⟨g,0,none⟩)) (x_move (.tmp rfl rfl)) ?_)))))
 refine st (v:=.bool false) (x_eqlP Try.underlying67 (.tmp rfl rfl) .const rfl) ?_
 refine st (v:=.bool false) (x_move (.tmp rfl rfl)) ?_
 refine g_yes (yl (dj:=10) (b:=false) rfl rfl rfl) ?_
 refine st (v:=.pointer (some ⟨g,0,none⟩)) (x_move (.tmp rfl rfl)) ?_
 refine g_yes (yl (dj:=10) (b:=false) rfl rfl rfl) ?_
 refine st (v:=.pointer (some ⟨g,0,none⟩)) (x_nilCheck (.tmp rfl rfl)) ?_
 refine g_yes (yl (dj:=10) (b:=false) rfl rfl rfl) ?_
 refine st (v:=.pointer (some ⟨g,0 + 1,none⟩)) (fa98_1 (.tmp rfl rfl)) ?_
 refine g_yes (yl (dj:=10) (b:=false) rfl rfl rfl) ?_
 refine st (v:=.bool ((rdU bs b).2.2)) (ld4 (.tmp rfl rfl) (hs6.cell 0 rfl (0 + 1) rfl)) ?_
 refine st (v:=.bool ((rdU bs b).2.2)) (x_pick_f (.tmp rfl rfl) (.tmp rfl rfl)) ?_
 refine st (v:=.bool ((rdU bs b).2.2)) (x_move (.tmp rfl rfl)) ?_
 rcases Bool.eq_false_or_eq_true ((rdU bs b).2.2) with hc7 | hc7
 refine g_no (yk 16 true rfl rfl hc7) rfl ?_
 refine g_no (yk 16 true rfl rfl hc7) rfl ?_
 refine st (v:=.bool true) (x_pick_t (.tmp rfl (cVb hc7)) .const) ?_
 refine st (v:=.bool true) (x_move (.tmp rfl rfl)) ?_
 refine g_no (yl (dj:=20) (b:=true) rfl rfl rfl) rfl ?_
 refine g_no (yl (dj:=20) (b:=true) rfl rfl rfl) rfl ?_
 refine g_no (yl (dj:=20) (b:=true) rfl rfl rfl) rfl ?_
 refine g_no (yl (dj:=20) (b:=true) rfl rfl rfl) rfl ?_
 refine st (v:=.bool true) (x_pick_t (.tmp rfl rfl) .const) ?_
 refine c_nil (n_then (c_cond_t (t:=true) (.tmp rfl rfl) rfl ?_))
 refine c_seq (c_region (st (v:=.pointer (some ⟨g,0,none⟩)) (x_move (.tmp rfl rfl)) ?_))
 refine st_c cb60 .func (evs1 (.tmp rfl rfl)) (fail_own (b:=((rdU bs b).2.2)) hs6) ?_
 rintro e w8 ⟨⟨u10,rfl⟩,hs9⟩
 refine ⟨_,rfl,?_⟩
 refine c_nil (n_then (c_seq (c_region (st (v:=.int .i64 0) (x_assign .const) ?_))))
 refine c_nil (n_then (c_ret (r_then (leave_ret (res_one (v:=.int .i64 0) rfl (.mk rfl rfl)) ?_))))
 rw [rdI_bad (by first | (left; assumption) | (right; left; omega) | (right; right; omega))]
 exact ⟨_,_,_,rfl,hp5,hs9⟩
 refine g_yes (yk 16 false rfl rfl hc7) ?_
 refine st (v:=.int .i64 most) (x_move (.tmp rfl rfl)) ?_
 refine g_yes (yk 16 false rfl rfl hc7) ?_
 refine st (v:=.bool (decide ((most:Int) < 0))) (x_lss (k:=.i64) (a:=most) (b:=0) (.tmp rfl rfl) .const) ?_
 refine st (v:=.bool (decide ((most:Int) < 0))) (x_pick_f (.tmp rfl (cVb hc7)) (.tmp rfl rfl)) ?_
 refine st (v:=.bool (decide ((most:Int) < 0))) (x_move (.tmp rfl rfl)) ?_
 rcases Bool.eq_false_or_eq_true (decide ((most:Int) < 0)) with hc11 | hc11
 have hp11:(most:Int) < 0:=of_decide_eq_true hc11
 refine g_no (yk 20 true rfl rfl hc11) rfl ?_
 refine g_no (yk 20 true rfl rfl hc11) rfl ?_
 refine g_no (yk 20 true rfl rfl hc11) rfl ?_
 refine g_no (yk 20 true rfl rfl hc11) rfl ?_
 refine st (v:=.bool true) (x_pick_t (.tmp rfl (cVb hc11)) .const) ?_
 refine c_nil (n_then (c_cond_t (t:=true) (.tmp rfl rfl) rfl ?_))
 refine c_seq (c_region (st (v:=.pointer (some ⟨g,0,none⟩)) (x_move (.tmp rfl rfl)) ?_))
 refine st_c cb60 .func (evs1 (.tmp rfl rfl)) (fail_own (b:=((rdU bs b).2.2)) hs6) ?_
 rintro e w12 ⟨⟨u14,rfl⟩,hs13⟩
 refine ⟨_,rfl,?_⟩
 refine c_nil (n_then (c_seq (c_region (st (v:=.int .i64 0) (x_assign .const) ?_))))
 refine c_nil (n_then (c_ret (r_then (leave_ret (res_one (v:=.int .i64 0) rfl (.mk rfl rfl)) ?_))))
 rw [rdI_bad (by first | (left; assumption) | (right; left; omega) | (right; right; omega))]
 exact ⟨_,_,_,rfl,hp5,hs13⟩
 have hp11:¬ ((most:Int) < 0):=of_decide_eq_false hc11
 refine g_yes (yk 20 false rfl rfl hc11) ?_
 refine st (v:=.int .u64 (((rdU bs b).1:Nat):Int)) (x_move (.tmp rfl rfl)) ?_
 refine g_yes (yk 20 false rfl rfl hc11) ?_
 refine st (v:=.int .i64 most) (x_move (.tmp rfl rfl)) ?_
 refine g_yes (yk 20 false rfl rfl hc11) ?_
 refine st (v:=.int .u64 (((most % 18446744073709551616).toNat:Nat):Int)) (x_conv (k:=.i64) (a:=most) Try.underlying3 Try.underlying22 (.tmp rfl rfl) (wrapU _ rfl _)) ?_
 refine g_yes (yk 20 false rfl rfl hc11) ?_
 refine st (v:=.bool (decide (((((most % 18446744073709551616).toNat:Nat):Int):Int) < (((rdU bs b).1:Nat):Int)))) (x_gtr (k:=.u64) (a:=(((rdU bs b).1:Nat):Int)) (b:=(((most % 18446744073709551616).toNat:Nat):Int)) (.tmp rfl rfl) (.tmp rfl rfl)) ?_
 refine st (v:=.bool (decide (((((most % 18446744073709551616).toNat:Nat):Int):Int) < (((rdU bs b).1:Nat):Int)))) (x_pick_f (.tmp rfl (cVb hc11)) (.tmp rfl rfl)) ?_
 refine c_nil (n_then ?_)
 rcases Bool.eq_false_or_eq_true (decide (((((most % 18446744073709551616).toNat:Nat):Int):Int) < (((rdU bs b).1:Nat):Int))) with hc15 | hc15
 have hp15:((((most % 18446744073709551616).toNat:Nat):Int):Int) < (((rdU bs b).1:Nat):Int):=of_decide_eq_true hc15
 refine c_cond_t (t:=true) (.tmp rfl (cVb hc15)) rfl ?_
 refine c_seq (c_region (st (v:=.pointer (some ⟨g,0,none⟩)) (x_move (.tmp rfl rfl)) ?_))
 refine st_c cb60 .func (evs1 (.tmp rfl rfl)) (fail_own (b:=((rdU bs b).2.2)) hs6) ?_
 rintro e w16 ⟨⟨u18,rfl⟩,hs17⟩
 refine ⟨_,rfl,?_⟩
 refine c_nil (n_then (c_seq (c_region (st (v:=.int .i64 0) (x_assign .const) ?_))))
 refine c_nil (n_then (c_ret (r_then (leave_ret (res_one (v:=.int .i64 0) rfl (.mk rfl rfl)) ?_))))
 rw [rdI_bad (by first | (left; assumption) | (right; left; omega) | (right; right; omega))]
 exact ⟨_,_,_,rfl,hp5,hs17⟩
 have hp15:¬ (((((most % 18446744073709551616).toNat:Nat):Int):Int) < (((rdU bs b).1:Nat):Int)):=of_decide_eq_false hc15
 refine c_cond_f (t:=false) (.tmp rfl (cVb hc15)) rfl ?_
 refine c_skip (n_then (c_seq (c_region (st (v:=.int .u64 (((rdU bs b).1:Nat):Int)) (x_move (.tmp rfl rfl)) ?_))))
 refine st (v:=.int .i64 (((rdU bs b).1:Nat):Int)) (x_conv (k:=.u64) (a:=(((rdU bs b).1:Nat):Int)) Try.underlying22 Try.underlying3 (.tmp rfl rfl) (w64 (by omega) (by omega))) ?_
 refine st (v:=.int .i64 (((rdU bs b).1:Nat):Int)) (x_assign (.tmp rfl rfl)) ?_
 refine c_nil (n_then (c_ret (leave_ret (res_one (v:=.int .i64 (((rdU bs b).1:Nat):Int)) rfl (.mk rfl rfl)) ?_)))
 rw [rdI_good hc7 (by omega) (by omega)]
 have hs9:=hs6
 rw [hc7] at hs9
 exact ⟨_,_,_,rfl,hp5,hs9⟩
set_option maxHeartbeats 8000000 in
theorem bytes_own {H:Hp} {w:World} {L:List Res} {g:Nat} {A:Option Addr} {n c:Nat} {bs:List Nat} (hp:Bs H A n c bs) (hn:n ≤ 140737488355320) (b:Bool) (most:Int) (hm1:-9223372036854775808 ≤ most) (hm2:most ≤ 9223372036854775807) (hs:St H w (obj g 98 [.slice A n c,.bool b]::L)):Calls Try.prog 38 #[.pointer (some ⟨g,0,none⟩),.int .i64 most] w (fun e w' => ∃ v A' n' c',e = .returned v∧RowOk 1 v (rdB bs b most).1.length ((rdB bs b most).1.map encB)∧Bs H A' n' c' (rdB bs b most).2.1∧St H w' (row 5 1 v (rdB bs b most).1.length ((rdB bs b most).1.map encB)::obj g 98 [.slice A' n' c',.bool (rdB bs b most).2.2]::L)):=by
 refine enter (args:=[.pointer (some ⟨g,0,none⟩),.int .i64 most]) (N:=46) Try.func38 rfl rfl rfl ?_
 have hlen:=hp.len
 have hrl:=rdI_len bs b most
 have hri:=rdI_le bs b most hm2
 refine c_seq (c_region (st (v:=.slice none 0 0) (x_assign .const) ?_))
 refine c_nil (n_then (c_seq (c_region (st (v:=.pointer (some ⟨g,0,none⟩)) (x_move (.tmp rfl rfl)) ?_))))
 refine st (v:=.int .i64 most) (x_move (.tmp rfl rfl)) ?_
 refine st_c cb33 .func (evs2 (.tmp rfl rfl) (.tmp rfl rfl)) (int_own hp b most (by omega) (by omega) hs) ?_
 rintro e w4 ⟨A1,n2,c3,rfl,hp5,hs6⟩
 refine ⟨_,rfl,?_⟩
 refine st (v:=.int .i64 (((rdI bs b most).1:Nat):Int)) (x_assign (.tmp rfl rfl)) ?_
 refine c_nil (n_then (c_seq (c_seq (c_region (st (v:=.pointer (some ⟨g,0,none⟩)) (x_move (.tmp rfl rfl)) ?_)))))
 refine st (v:=.bool false) (x_eqlP Try.underlying67 (.tmp rfl rfl) .const rfl) ?_
 refine st (v:=.bool false) (x_move (.tmp rfl rfl)) ?_
 refine g_yes (yl (dj:=12) (b:=false) rfl rfl rfl) ?_
 refine st (v:=.pointer (some ⟨g,0,none⟩)) (x_move (.tmp rfl rfl)) ?_
 refine g_yes (yl (dj:=12) (b:=false) rfl rfl rfl) ?_
 refine st (v:=.pointer (some ⟨g,0,none⟩)) (x_nilCheck (.tmp rfl rfl)) ?_
 refine g_yes (yl (dj:=12) (b:=false) rfl rfl rfl) ?_
 refine st (v:=.pointer (some ⟨g,0 + 1,none⟩)) (fa98_1 (.tmp rfl rfl)) ?_
 refine g_yes (yl (dj:=12) (b:=false) rfl rfl rfl) ?_
 refine st (v:=.bool ((rdI bs b most).2.2)) (ld4 (.tmp rfl rfl) (hs6.cell 0 rfl (0 + 1) rfl)) ?_
 refine st (v:=.bool ((rdI bs b most).2.2)) (x_pick_f (.tmp rfl rfl) (.tmp rfl rfl)) ?_
 refine c_nil (n_then ?_)
 rcases Bool.eq_false_or_eq_true ((rdI bs b most).2.2) with hc7 | hc7
 refine c_cond_t (t:=true) (.tmp rfl (cVb hc7)) rfl ?_
 refine c_seq (c_region (st (v:=.slice none 0 0) (x_assign .const) ?_))
 refine c_nil (n_then (c_ret (r_then (leave_ret (res_one (v:=.slice none 0 0) rfl (.mk rfl rfl)) ?_))))
 rw [rdB_bad (by first | (left; assumption) | (right; omega))]
 have hs9:=hs6
 rw [hc7] at hs9
 exact ⟨_,_,_,_,rfl,RowOk.nil 1,hp5,hs9.rowNil 5 1⟩
 refine c_cond_f (t:=false) (.tmp rfl (cVb hc7)) rfl ?_
 refine c_skip (n_then (c_seq (c_seq (c_region ?_))))
 have hl8:=hp5.len
 refine st (v:=.int .i64 (((rdI bs b most).1:Nat):Int)) (x_move (.tmp rfl rfl)) ?_
 refine st (v:=.pointer (some ⟨g,0,none⟩)) (x_move (.tmp rfl rfl)) ?_
 refine st (v:=.pointer (some ⟨g,0,none⟩)) (x_nilCheck (.tmp rfl rfl)) ?_
 refine st (v:=.pointer (some ⟨g,0 + 0,none⟩)) (fa98_0 (.tmp rfl rfl)) ?_
 refine st (v:=.slice A1 n2 c3) (ld33 (.tmp rfl rfl) (hs6.cell 0 rfl (0 + 0) rfl)) ?_
 refine st (v:=.int .i64 ((n2:Nat):Int)) (x_len (n:=n2) Try.underlying33 (.tmp rfl rfl)) ?_
 refine st (v:=.bool (decide ((((n2:Nat):Int):Int) < (((rdI bs b most).1:Nat):Int)))) (x_gtr (k:=.i64) (a:=(((rdI bs b most).1:Nat):Int)) (b:=((n2:Nat):Int)) (.tmp rfl rfl) (.tmp rfl rfl)) ?_
 refine c_nil (n_then ?_)
 rcases Bool.eq_false_or_eq_true (decide ((((n2:Nat):Int):Int) < (((rdI bs b most).1:Nat):Int))) with hc8 | hc8
 have hp8:(((n2:Nat):Int):Int) < (((rdI bs b most).1:Nat):Int):=of_decide_eq_true hc8
 refine c_cond_t (t:=true) (.tmp rfl (cVb hc8)) rfl ?_
 refine c_seq (c_region (st (v:=.pointer (some ⟨g,0,none⟩)) (x_move (.tmp rfl rfl)) ?_))
 refine st (v:=.pointer (some ⟨g,0,none⟩)) (x_nilCheck (.tmp rfl rfl)) ?_
 refine st (v:=.pointer (some ⟨g,0 + 1,none⟩)) (fa98_1 (.tmp rfl rfl)) ?_
 refine st_m0 (sto4 (cs':=[.slice A1 n2 c3,.bool true]) (i:=0 + 1) hs6 (v:=.bool true) (.tmp rfl rfl) .const rfl (Nat.le_of_ble_eq_true rfl) one1 rfl) ?_
 rintro w9 hs11
 refine c_nil (n_then (c_seq (c_region (st (v:=.slice none 0 0) (x_assign .const) ?_))))
 refine c_nil (n_then (c_ret (r_then (leave_ret (res_one (v:=.slice none 0 0) rfl (.mk rfl rfl)) ?_))))
 rw [rdB_bad (by first | (left; assumption) | (right; omega))]
 have hs9:=hs11
 exact ⟨_,_,_,_,rfl,RowOk.nil 1,hp5,hs9.rowNil 5 1⟩
 have hp8:¬ ((((n2:Nat):Int):Int) < (((rdI bs b most).1:Nat):Int)):=of_decide_eq_false hc8
 refine c_cond_f (t:=false) (.tmp rfl (cVb hc8)) rfl ?_
 refine c_skip (n_then (c_seq (c_region (st (v:=.pointer (some ⟨g,0,none⟩)) (x_move (.tmp rfl rfl)) ?_))))
 refine st (v:=.pointer (some ⟨g,0,none⟩)) (x_nilCheck (.tmp rfl rfl)) ?_
 refine st (v:=.pointer (some ⟨g,0 + 0,none⟩)) (fa98_0 (.tmp rfl rfl)) ?_
 refine st (v:=.slice A1 n2 c3) (ld33 (.tmp rfl rfl) (hs6.cell 0 rfl (0 + 0) rfl)) ?_
 refine st (v:=.int .i64 (((rdI bs b most).1:Nat):Int)) (x_move (.tmp rfl rfl)) ?_
 refine st (v:=.int .i64 (((rdI bs b most).1:Nat):Int)) (x_move (.tmp rfl rfl)) ?_
 have:=hp5.le
 refine st (v:=.slice A1 ((rdI bs b most).1) ((rdI bs b most).1)) (bs_hm Try.underlying33 inf5 (a:=(((rdI bs b most).1:Nat):Int)) (.tmp rfl rfl) (.tmp rfl rfl) (.tmp rfl rfl) (by omega) (by omega)) ?_
 refine st_m (m_appNil Try.underlying33 inf5 hs6 .const (.tmp rfl rfl) (hp5.takeC (k:=((rdI bs b most).1)) (by omega)) (by omega)) ?_
 rintro v12 w13 ⟨ok14,hs15⟩
 refine st (v:=v12) (x_assign (.tmp rfl rfl)) ?_
 refine c_nil (n_then (c_seq (c_region (st (v:=.pointer (some ⟨g,0,none⟩)) (x_move (.tmp rfl rfl)) ?_))))
 refine st (v:=.pointer (some ⟨g,0,none⟩)) (x_move (.tmp rfl rfl)) ?_
 refine st (v:=.pointer (some ⟨g,0,none⟩)) (x_nilCheck (.tmp rfl rfl)) ?_
 refine st (v:=.pointer (some ⟨g,0 + 0,none⟩)) (fa98_0 (.tmp rfl rfl)) ?_
 refine st (v:=.slice A1 n2 c3) (ld33 (.tmp rfl rfl) (hs15.cell 1 rfl (0 + 0) rfl)) ?_
 refine st (v:=.int .i64 (((rdI bs b most).1:Nat):Int)) (x_move (.tmp rfl rfl)) ?_
 have:=hp5.le
 refine st (v:=.slice (cutA A1 c3 ((rdI bs b most).1) 1) (n2 - ((rdI bs b most).1)) (c3 - ((rdI bs b most).1))) (bs_l Try.underlying33 inf5 (a:=(((rdI bs b most).1:Nat):Int)) (.tmp rfl rfl) (.tmp rfl rfl) (by omega) (by omega) (by omega)) ?_
 refine st (v:=.pointer (some ⟨g,0,none⟩)) (x_nilCheck (.tmp rfl rfl)) ?_
 refine st (v:=.pointer (some ⟨g,0 + 0,none⟩)) (fa98_0 (.tmp rfl rfl)) ?_
 have hs17:=hs15.p1
 refine st_m0 (sto33 (cs':=[.slice (cutA A1 c3 ((rdI bs b most).1) 1) (n2 - ((rdI bs b most).1)) (c3 - ((rdI bs b most).1)),.bool ((rdI bs b most).2.2)]) (i:=0 + 0) hs17 (v:=.slice (cutA A1 c3 ((rdI bs b most).1) 1) (n2 - ((rdI bs b most).1)) (c3 - ((rdI bs b most).1))) (.tmp rfl rfl) (.tmp rfl rfl) rfl (Nat.le_of_ble_eq_true rfl) one1 rfl) ?_
 rintro w18 hs20
 refine c_nil (n_then (c_seq (c_region (st (v:=v12) (x_move (.tmp rfl rfl)) ?_))))
 refine st (v:=v12) (x_assign (.tmp rfl rfl)) ?_
 refine c_nil (n_then (c_ret (leave_ret (res_one (v:=v12) rfl (.mk rfl rfl)) ?_)))
 rw [rdB_good hc7 (by omega)]
 have hs9:=(hs20.p1)
 rw [hc7] at hs9
 have hl9:((rdI bs b most).2.1.take (rdI bs b most).1).length = (rdI bs b most).1:=by rw [List.length_take]; omega
 rw [hl9]
 exact ⟨_,_,_,_,rfl,ok14,(hp5.drop (k:=((rdI bs b most).1)) (by omega)),hs9⟩
end Go.Proofs.Ytlfihfmmhhcigaa

set_option linter.unusedVariables false
set_option linter.unusedSimpArgs false
namespace Go.Proofs.Ytlfihfmmhhcigaa
open Go Go.FM Go.Proofs
attribute [local irreducible] wpList wpQuiet wpS Code.wp Calls
end Go.Proofs.Ytlfihfmmhhcigaa

set_option linter.unusedVariables false
set_option linter.unusedSimpArgs false
namespace Go.Proofs.Ytlfihfmmhhcigaa
open Go Go.FM Go.Proofs
attribute [local irreducible] wpList wpQuiet wpS Code.wp Calls
set_option maxHeartbeats 8000000 in
theorem end_spec {H:Hp} {w:World} {L:List Res} (hs:St H w (L)) (s:GState) {k_s:List Value} (h_s:kState.rep H s k_s) (hF1:0 ≤ s.Floor) (hF2:s.Floor ≤ 1073741824):Calls Try.prog 63 #[.agg k_s.toArray] w (fun e w' => e = .returned (.int .i64 (sEnd s))∧St H w' (L)):=by
 obtain ⟨A6,n7,c8,rfl,b1,⟨b2,b3⟩,⟨b4,b5⟩,hl9⟩:=h_s
 have:=hl9.len; have:n7 * 32 ≤ 140737488351232:=hl9.bnd; have:=hl9.le
 refine enter (args:=[.agg #[.int .u64 ((s.V.N:Nat):Int),.int .i64 s.V.P,.int .i64 s.Floor,.slice A6 n7 c8]]) (N:=9) Try.func63 rfl rfl rfl ?_
 refine c_seq (c_region (st_m (m_box (cs:=[.int .u64 ((s.V.N:Nat):Int),.int .i64 s.V.P,.int .i64 s.Floor,.slice A6 n7 c8]) hs (v:=.agg #[.int .u64 ((s.V.N:Nat):Int),.int .i64 s.V.P,.int .i64 s.Floor,.slice A6 n7 c8]) (.tmp rfl rfl) rfl) ?_))
 rintro _ w11 ⟨g10,rfl,hs13⟩
 refine st (v:=.int .i64 0) (x_assign .const) ?_
 refine c_nil (n_then (c_seq (c_region (st (v:=.pointer (some ⟨g10,0 + 2,none⟩)) (fa52_1 (.tmp rfl rfl)) ?_))))
 refine st (v:=.int .i64 s.Floor) (ld3 (.tmp rfl rfl) (hs13.cell 0 rfl (0 + 2) rfl)) ?_
 refine st (v:=.pointer (some ⟨g10,0 + 3,none⟩)) (fa52_2 (.tmp rfl rfl)) ?_
 refine st (v:=.slice A6 n7 c8) (ld28 (.tmp rfl rfl) (hs13.cell 0 rfl (0 + 3) rfl)) ?_
 refine st (v:=.int .i64 ((n7:Nat):Int)) (x_len (n:=n7) Try.underlying28 (.tmp rfl rfl)) ?_
 refine st (v:=.int .i64 (s.Floor + ((n7:Nat):Int))) (x_add (k:=.i64) (a:=s.Floor) (b:=((n7:Nat):Int)) (.tmp rfl rfl) (.tmp rfl rfl) (w64 (by omega) (by omega))) ?_
 refine st (v:=.int .i64 (s.Floor + ((n7:Nat):Int))) (x_assign (.tmp rfl rfl)) ?_
 refine c_nil (n_then (c_ret (leave_ret (res_one (v:=.int .i64 (s.Floor + ((n7:Nat):Int))) rfl (.mk rfl rfl)) ?_)))
 have hans14:sEnd s = (s.Floor + ((n7:Nat):Int)):=by unfold sEnd; omega
 rw [hans14]
 exact ⟨rfl,hs13.drop⟩
set_option maxHeartbeats 8000000 in
theorem items_spec {H:Hp} {w:World} {L:List Res} (hs:St H w (L)) {A_a:Option Addr} {n_a c_a:Nat} (a:(List GItem)) (h_a:Sl kItem H A_a n_a c_a a) {A_b:Option Addr} {n_b c_b:Nat} (b:(List GItem)) (h_b:Sl kItem H A_b n_b c_b b):Calls Try.prog 30 #[.slice A_a n_a c_a,.slice A_b n_b c_b] w (fun e w' => e = .returned (.bool (decide (a = b)))∧St H w' (L)):=by
 have:=h_a.len; have:=h_a.le; have:n_a * 32 ≤ 140737488351232:=h_a.bnd
 have:=h_b.len; have:=h_b.le; have:n_b * 32 ≤ 140737488351232:=h_b.bnd
 refine enter (args:=[.slice A_a n_a c_a,.slice A_b n_b c_b]) (N:=43) Try.func30 rfl rfl rfl ?_
 refine c_seq (c_region (st (v:=.bool false) (x_assign .const) ?_))
 refine c_nil (n_then (c_seq (c_seq (c_region (st (v:=.slice A_a n_a c_a) (x_move (.tmp rfl rfl)) ?_)))))
 refine st (v:=.int .i64 ((n_a:Nat):Int)) (x_len (n:=n_a) Try.underlying28 (.tmp rfl rfl)) ?_
 refine st (v:=.slice A_b n_b c_b) (x_move (.tmp rfl rfl)) ?_
 refine st (v:=.int .i64 ((n_b:Nat):Int)) (x_len (n:=n_b) Try.underlying28 (.tmp rfl rfl)) ?_
 refine st (v:=.bool (decide ((((n_a:Nat):Int):Int) ≠ ((n_b:Nat):Int)))) (x_neq (k:=.i64) (a:=((n_a:Nat):Int)) (b:=((n_b:Nat):Int)) (.tmp rfl rfl) (.tmp rfl rfl)) ?_
 refine c_nil (n_then ?_)
 rcases Bool.eq_false_or_eq_true (decide ((((n_a:Nat):Int):Int) ≠ ((n_b:Nat):Int))) with hc1 | hc1
 have hp1:(((n_a:Nat):Int):Int) ≠ ((n_b:Nat):Int):=of_decide_eq_true hc1
 refine c_cond_t (t:=true) (.tmp rfl (cVb hc1)) rfl ?_
 refine c_seq (c_region (st (v:=.bool false) (x_assign .const) ?_))
 refine c_nil (n_then (c_ret (r_then (leave_ret (res_one (v:=.bool false) rfl (.mk rfl rfl)) ?_))))
 have hans2:decide (a = b) = false:=lists_ne_len (by omega)
 rw [hans2]
 exact ⟨rfl,hs⟩
 have hp1:¬ ((((n_a:Nat):Int):Int) ≠ ((n_b:Nat):Int)):=of_decide_eq_false hc1
 refine c_cond_f (t:=false) (.tmp rfl (cVb hc1)) rfl ?_
 refine c_skip (n_then (c_seq (c_seq (c_region (st (v:=.int .i64 0) (x_assign .const) ?_)))))
 refine c_nil (n_then (c_block (c_loop (fun ρ w mm => ∃ (i:Nat),ρ 0 = .slice A_a n_a c_a∧ρ 1 = .slice A_b n_b c_b∧ρ 5 = .int .i64 ((i:Nat):Int)∧(i ≤ n_a)∧(a.take i = b.take i)∧St H w (L)∧mm = n_a - i) _ ⟨0,rfl,rfl,rfl,(by omega),rfl,hs,rfl⟩ ?_)))
 rintro ρ w mm ⟨i,hρ4,hρ5,hρ6,hi,ht,hs7,rfl⟩
 refine c_seq (c_seq (c_region (st (v:=.int .i64 ((i:Nat):Int)) (x_move (.tmp rfl hρ6)) ?_)))
 refine st (v:=.slice A_a n_a c_a) (x_move (.tmp rfl hρ4)) ?_
 refine st (v:=.int .i64 ((n_a:Nat):Int)) (x_len (n:=n_a) Try.underlying28 (.tmp rfl rfl)) ?_
 refine st (v:=.bool (decide ((((i:Nat):Int):Int) < ((n_a:Nat):Int)))) (x_lss (k:=.i64) (a:=((i:Nat):Int)) (b:=((n_a:Nat):Int)) (.tmp rfl rfl) (.tmp rfl rfl)) ?_
 refine c_nil (n_then ?_)
 rcases Bool.eq_false_or_eq_true (decide ((((i:Nat):Int):Int) < ((n_a:Nat):Int))) with hc8 | hc8
 have hp8:(((i:Nat):Int):Int) < ((n_a:Nat):Int):=of_decide_eq_true hc8
 refine c_cond_t (t:=true) (.tmp rfl (cVb hc8)) rfl ?_
 refine c_skip (n_then (c_seq (c_block (c_seq (q_region mixed hs7 (by kernel_rfl) ?_)))))
 refine q_st (v:=.slice A_a n_a c_a) (fun w hs => (x_move (.tmp rfl hρ4))) ?_
 refine q_st (v:=.int .i64 ((i:Nat):Int)) (fun w hs => (x_move (.tmp rfl hρ6))) ?_
 obtain ⟨e9,b10,o11,cs12,hx13,hA14,hr15,hat16⟩:=h_a.get (i:=i) (by omega)
 obtain ⟨A19,n20,c21,rfl,⟨b17,b18⟩,hy22⟩:=hr15
 have:=hy22.len; have:=hy22.bnd; have:=hy22.le
 have hat16x:∀ {w:World} {L:List Res},St H w L → At w ⟨b10,o11 + i * 2,none⟩ [.int .i64 e9.From,.slice A19 n20 c21]:=fun h => hat16 h
 refine q_st (v:=.pointer (some ⟨b10,(o11 + i * 2),none⟩)) (fun w hs => (ixo28 (.tmp rfl rfl) hA14 (i:=((i:Nat):Int)) (.tmp rfl rfl) (by omega) (by omega) (by omega))) ?_
 refine q_st (v:=.pointer (some ⟨b10,(o11 + i * 2) + 0,none⟩)) (fun w hs => (fa49_0 (.tmp rfl rfl))) ?_
 refine q_st (v:=.int .i64 e9.From) (fun w hs => (ld3 (.tmp rfl rfl) ((hat16x hs).cell 0 rfl))) ?_
 refine q_st (v:=.slice A_b n_b c_b) (fun w hs => (x_move (.tmp rfl hρ5))) ?_
 refine q_st (v:=.int .i64 ((i:Nat):Int)) (fun w hs => (x_move (.tmp rfl hρ6))) ?_
 obtain ⟨e23,b24,o25,cs26,hx27,hA28,hr29,hat30⟩:=h_b.get (i:=i) (by omega)
 obtain ⟨A33,n34,c35,rfl,⟨b31,b32⟩,hy36⟩:=hr29
 have:=hy36.len; have:=hy36.bnd; have:=hy36.le
 have hat30x:∀ {w:World} {L:List Res},St H w L → At w ⟨b24,o25 + i * 2,none⟩ [.int .i64 e23.From,.slice A33 n34 c35]:=fun h => hat30 h
 refine q_st (v:=.pointer (some ⟨b24,(o25 + i * 2),none⟩)) (fun w hs => (ixo28 (.tmp rfl rfl) hA28 (i:=((i:Nat):Int)) (.tmp rfl rfl) (by omega) (by omega) (by omega))) ?_
 refine q_st (v:=.pointer (some ⟨b24,(o25 + i * 2) + 0,none⟩)) (fun w hs => (fa49_0 (.tmp rfl rfl))) ?_
 refine q_st (v:=.int .i64 e23.From) (fun w hs => (ld3 (.tmp rfl rfl) ((hat30x hs).cell 0 rfl))) ?_
 refine q_st (v:=.bool (decide ((e9.From:Int) ≠ e23.From))) (fun w hs => (x_neq (k:=.i64) (a:=e9.From) (b:=e23.From) (.tmp rfl rfl) (.tmp rfl rfl))) ?_
 refine q_st (v:=.bool (decide ((e9.From:Int) ≠ e23.From))) (fun w hs => (x_move (.tmp rfl rfl))) ?_
 rcases Bool.eq_false_or_eq_true (decide ((e9.From:Int) ≠ e23.From)) with hc37 | hc37
 have hp37:(e9.From:Int) ≠ e23.From:=of_decide_eq_true hc37
 refine q_no (yk 28 true rfl rfl hc37) rfl ?_
 refine q_no (yk 28 true rfl rfl hc37) rfl ?_
 refine q_no (yk 28 true rfl rfl hc37) rfl ?_
 refine q_no (yk 28 true rfl rfl hc37) rfl ?_
 refine q_no (yk 28 true rfl rfl hc37) rfl ?_
 refine q_no (yk 28 true rfl rfl hc37) rfl ?_
 refine q_no (yk 28 true rfl rfl hc37) rfl ?_
 refine q_no (yk 28 true rfl rfl hc37) rfl ?_
 refine q_no (yk 28 true rfl rfl hc37) rfl ?_
 refine q_no (yk 28 true rfl rfl hc37) rfl ?_
 refine q_no (yk 28 true rfl rfl hc37) rfl ?_
 refine q_no (yk 28 true rfl rfl hc37) rfl ?_
 refine q_no (yk 28 true rfl rfl hc37) rfl ?_
 refine q_st (v:=.bool true) (fun w hs => (x_pick_t (.tmp rfl (cVb hc37)) .const)) ?_
 refine q_nil ?_
 intro w hs38
 refine n_then (c_cond_t (t:=true) (.tmp rfl rfl) rfl ?_)
 refine c_seq (c_region (st (v:=.bool false) (x_assign .const) ?_))
 refine c_nil (n_then (c_ret (r_block (r_then (r_then (r_block (r_then (leave_ret (res_one (v:=.bool false) rfl (.mk rfl rfl)) ?_))))))))
 have hans39:decide (a = b) = false:=lists_ne_at hx13 hx27 (item_ne_from (by omega))
 rw [hans39]
 exact ⟨rfl,hs38⟩
 have hp37:¬ ((e9.From:Int) ≠ e23.From):=of_decide_eq_false hc37
 refine q_yes (yk 28 false rfl rfl hc37) ?_
 refine q_st (v:=.slice A_a n_a c_a) (fun w hs => (x_move (.tmp rfl hρ4))) ?_
 refine q_yes (yk 28 false rfl rfl hc37) ?_
 refine q_st (v:=.int .i64 ((i:Nat):Int)) (fun w hs => (x_move (.tmp rfl hρ6))) ?_
 refine q_yes (yk 28 false rfl rfl hc37) ?_
 refine q_st (v:=.pointer (some ⟨b10,(o11 + i * 2),none⟩)) (fun w hs => (ixo28 (.tmp rfl rfl) hA14 (i:=((i:Nat):Int)) (.tmp rfl rfl) (by omega) (by omega) (by omega))) ?_
 refine q_yes (yk 28 false rfl rfl hc37) ?_
 refine q_st (v:=.pointer (some ⟨b10,(o11 + i * 2) + 1,none⟩)) (fun w hs => (fa49_1 (.tmp rfl rfl))) ?_
 refine q_yes (yk 28 false rfl rfl hc37) ?_
 refine q_st (v:=.slice A19 n20 c21) (fun w hs => (ld33 (.tmp rfl rfl) ((hat16x hs).cell 1 rfl))) ?_
 refine q_yes (yk 28 false rfl rfl hc37) ?_
 refine q_st (v:=.string (bstr e9.M)) (fun w hs => (hy22.toBs.str Try.underlying33 Try.underlying5 Try.underlying9 hs (.tmp rfl rfl))) ?_
 refine q_yes (yk 28 false rfl rfl hc37) ?_
 refine q_st (v:=.slice A_b n_b c_b) (fun w hs => (x_move (.tmp rfl hρ5))) ?_
 refine q_yes (yk 28 false rfl rfl hc37) ?_
 refine q_st (v:=.int .i64 ((i:Nat):Int)) (fun w hs => (x_move (.tmp rfl hρ6))) ?_
 refine q_yes (yk 28 false rfl rfl hc37) ?_
 refine q_st (v:=.pointer (some ⟨b24,(o25 + i * 2),none⟩)) (fun w hs => (ixo28 (.tmp rfl rfl) hA28 (i:=((i:Nat):Int)) (.tmp rfl rfl) (by omega) (by omega) (by omega))) ?_
 refine q_yes (yk 28 false rfl rfl hc37) ?_
 refine q_st (v:=.pointer (some ⟨b24,(o25 + i * 2) + 1,none⟩)) (fun w hs => (fa49_1 (.tmp rfl rfl))) ?_
 refine q_yes (yk 28 false rfl rfl hc37) ?_
 refine q_st (v:=.slice A33 n34 c35) (fun w hs => (ld33 (.tmp rfl rfl) ((hat30x hs).cell 1 rfl))) ?_
 refine q_yes (yk 28 false rfl rfl hc37) ?_
 refine q_st (v:=.string (bstr e23.M)) (fun w hs => (hy36.toBs.str Try.underlying33 Try.underlying5 Try.underlying9 hs (.tmp rfl rfl))) ?_
 refine q_yes (yk 28 false rfl rfl hc37) ?_
 refine q_st (v:=.bool (!decide ((bstr e9.M) = (bstr e23.M)))) (fun w hs => (x_neqS (.tmp rfl rfl) (.tmp rfl rfl))) ?_
 refine q_st (v:=.bool (!decide ((bstr e9.M) = (bstr e23.M)))) (fun w hs => (x_pick_f (.tmp rfl (cVb hc37)) (.tmp rfl rfl))) ?_
 refine q_nil ?_
 intro w hs40
 refine n_then ?_
 rcases Bool.eq_false_or_eq_true (decide ((bstr e9.M) = (bstr e23.M))) with hc41 | hc41
 have hp41:(bstr e9.M) = (bstr e23.M):=of_decide_eq_true hc41
 refine c_cond_f (t:=false) (.tmp rfl (cVb (by rw [hc41]; rfl))) rfl ?_
 refine c_skip (n_block (n_then (c_region (st (v:=.int .i64 ((i:Nat):Int)) (x_move (.tmp rfl hρ6)) ?_))))
 refine st (v:=.int .i64 (((i + 1):Nat):Int)) (x_add (k:=.i64) (a:=((i:Nat):Int)) (b:=1) (.tmp rfl rfl) .const ((w64 (by omega) (by omega)).trans (by omega))) ?_
 refine st (v:=.int .i64 (((i + 1):Nat):Int)) (x_assign (.tmp rfl rfl)) ?_
 refine c_nil ?_
 refine n_then ⟨_,_,rfl,?_,(i + 1),hρ4,hρ5,rfl,(by omega),(take_eq_next ht hx13 hx27 (item_eq (by omega) hp41 hy22.lt hy36.lt)),hs40,rfl⟩
 omega
 have hp41:¬ ((bstr e9.M) = (bstr e23.M)):=of_decide_eq_false hc41
 refine c_cond_t (t:=true) (.tmp rfl (cVb (by rw [hc41]; rfl))) rfl ?_
 refine c_seq (c_region (st (v:=.bool false) (x_assign .const) ?_))
 refine c_nil (n_then (c_ret (r_block (r_then (r_then (r_block (r_then (leave_ret (res_one (v:=.bool false) rfl (.mk rfl rfl)) ?_))))))))
 have hans42:decide (a = b) = false:=lists_ne_at hx13 hx27 (item_ne_m hp41)
 rw [hans42]
 exact ⟨rfl,hs40⟩
 have hp8:¬ ((((i:Nat):Int):Int) < ((n_a:Nat):Int)):=of_decide_eq_false hc8
 refine c_cond_f (t:=false) (.tmp rfl (cVb hc8)) rfl ?_
 refine c_exit (x_then (x_then (x_here (n_then (c_seq (c_region (st (v:=.bool true) (x_assign .const) ?_)))))))
 refine c_nil (n_then (c_ret (leave_ret (res_one (v:=.bool true) rfl (.mk rfl rfl)) ?_)))
 have hans43:decide (a = b) = true:=lists_eq ht (by omega) (by omega)
 rw [hans43]
 exact ⟨rfl,hs7⟩
set_option maxHeartbeats 8000000 in
theorem same_spec {H:Hp} {w:World} {L:List Res} (hs:St H w (L)) {A_a:Option Addr} {n_a c_a:Nat} (a:(List GState)) (h_a:Sl kState H A_a n_a c_a a) {A_b:Option Addr} {n_b c_b:Nat} (b:(List GState)) (h_b:Sl kState H A_b n_b c_b b):Calls Try.prog 29 #[.slice A_a n_a c_a,.slice A_b n_b c_b] w (fun e w' => e = .returned (.bool (decide (a = b)))∧St H w' (L)):=by
 have:=h_a.len; have:=h_a.le; have:n_a * 48 ≤ 140737488351232:=h_a.bnd
 have:=h_b.len; have:=h_b.le; have:n_b * 48 ≤ 140737488351232:=h_b.bnd
 refine enter (args:=[.slice A_a n_a c_a,.slice A_b n_b c_b]) (N:=55) Try.func29 rfl rfl rfl ?_
 refine c_seq (c_region (st (v:=.bool false) (x_assign .const) ?_))
 refine c_nil (n_then (c_seq (c_seq (c_region (st (v:=.slice A_a n_a c_a) (x_move (.tmp rfl rfl)) ?_)))))
 refine st (v:=.int .i64 ((n_a:Nat):Int)) (x_len (n:=n_a) Try.underlying26 (.tmp rfl rfl)) ?_
 refine st (v:=.slice A_b n_b c_b) (x_move (.tmp rfl rfl)) ?_
 refine st (v:=.int .i64 ((n_b:Nat):Int)) (x_len (n:=n_b) Try.underlying26 (.tmp rfl rfl)) ?_
 refine st (v:=.bool (decide ((((n_a:Nat):Int):Int) ≠ ((n_b:Nat):Int)))) (x_neq (k:=.i64) (a:=((n_a:Nat):Int)) (b:=((n_b:Nat):Int)) (.tmp rfl rfl) (.tmp rfl rfl)) ?_
 refine c_nil (n_then ?_)
 rcases Bool.eq_false_or_eq_true (decide ((((n_a:Nat):Int):Int) ≠ ((n_b:Nat):Int))) with hc1 | hc1
 have hp1:(((n_a:Nat):Int):Int) ≠ ((n_b:Nat):Int):=of_decide_eq_true hc1
 refine c_cond_t (t:=true) (.tmp rfl (cVb hc1)) rfl ?_
 refine c_seq (c_region (st (v:=.bool false) (x_assign .const) ?_))
 refine c_nil (n_then (c_ret (r_then (leave_ret (res_one (v:=.bool false) rfl (.mk rfl rfl)) ?_))))
 have hans2:decide (a = b) = false:=lists_ne_len (by omega)
 rw [hans2]
 exact ⟨rfl,hs⟩
 have hp1:¬ ((((n_a:Nat):Int):Int) ≠ ((n_b:Nat):Int)):=of_decide_eq_false hc1
 refine c_cond_f (t:=false) (.tmp rfl (cVb hc1)) rfl ?_
 refine c_skip (n_then (c_seq (c_seq (c_region (st (v:=.int .i64 0) (x_assign .const) ?_)))))
 refine c_nil (n_then (c_block (c_loop (fun ρ w mm => ∃ (i:Nat),ρ 0 = .slice A_a n_a c_a∧ρ 1 = .slice A_b n_b c_b∧ρ 5 = .int .i64 ((i:Nat):Int)∧(i ≤ n_a)∧(a.take i = b.take i)∧St H w (L)∧mm = n_a - i) _ ⟨0,rfl,rfl,rfl,(by omega),rfl,hs,rfl⟩ ?_)))
 rintro ρ w mm ⟨i,hρ4,hρ5,hρ6,hi,ht,hs7,rfl⟩
 refine c_seq (c_seq (c_region (st (v:=.int .i64 ((i:Nat):Int)) (x_move (.tmp rfl hρ6)) ?_)))
 refine st (v:=.slice A_a n_a c_a) (x_move (.tmp rfl hρ4)) ?_
 refine st (v:=.int .i64 ((n_a:Nat):Int)) (x_len (n:=n_a) Try.underlying26 (.tmp rfl rfl)) ?_
 refine st (v:=.bool (decide ((((i:Nat):Int):Int) < ((n_a:Nat):Int)))) (x_lss (k:=.i64) (a:=((i:Nat):Int)) (b:=((n_a:Nat):Int)) (.tmp rfl rfl) (.tmp rfl rfl)) ?_
 refine c_nil (n_then ?_)
 rcases Bool.eq_false_or_eq_true (decide ((((i:Nat):Int):Int) < ((n_a:Nat):Int))) with hc8 | hc8
 have hp8:(((i:Nat):Int):Int) < ((n_a:Nat):Int):=of_decide_eq_true hc8
 refine c_cond_t (t:=true) (.tmp rfl (cVb hc8)) rfl ?_
 refine c_skip (n_then (c_seq (c_block (c_seq (q_region mixed hs7 (by kernel_rfl) ?_)))))
 refine q_st (v:=.slice A_a n_a c_a) (fun w hs => (x_move (.tmp rfl hρ4))) ?_
 refine q_st (v:=.int .i64 ((i:Nat):Int)) (fun w hs => (x_move (.tmp rfl hρ6))) ?_
 obtain ⟨e9,b10,o11,cs12,hx13,hA14,hr15,hat16⟩:=h_a.get (i:=i) (by omega)
 obtain ⟨A22,n23,c24,rfl,b17,⟨b18,b19⟩,⟨b20,b21⟩,hl25⟩:=hr15
 have:=hl25.len; have:n23 * 32 ≤ 140737488351232:=hl25.bnd; have:=hl25.le
 have hat16x:∀ {w:World} {L:List Res},St H w L → At w ⟨b10,o11 + i * 4,none⟩ [.int .u64 ((e9.V.N:Nat):Int),.int .i64 e9.V.P,.int .i64 e9.Floor,.slice A22 n23 c24]:=fun h => hat16 h
 refine q_st (v:=.pointer (some ⟨b10,(o11 + i * 4),none⟩)) (fun w hs => (ixo26 (.tmp rfl rfl) hA14 (i:=((i:Nat):Int)) (.tmp rfl rfl) (by omega) (by omega) (by omega))) ?_
 refine q_st (v:=.pointer (some ⟨b10,(o11 + i * 4) + 0,none⟩)) (fun w hs => (fa52_0 (.tmp rfl rfl))) ?_
 refine q_st (v:=.agg #[.int .u64 ((e9.V.N:Nat):Int),.int .i64 e9.V.P]) (fun w hs => (ld24 (cs:=[.int .u64 ((e9.V.N:Nat):Int),.int .i64 e9.V.P]) (.tmp rfl rfl) ((hat16x hs).sub 0 rfl) rfl)) ?_
 refine q_st (v:=.slice A_b n_b c_b) (fun w hs => (x_move (.tmp rfl hρ5))) ?_
 refine q_st (v:=.int .i64 ((i:Nat):Int)) (fun w hs => (x_move (.tmp rfl hρ6))) ?_
 obtain ⟨e26,b27,o28,cs29,hx30,hA31,hr32,hat33⟩:=h_b.get (i:=i) (by omega)
 obtain ⟨A39,n40,c41,rfl,b34,⟨b35,b36⟩,⟨b37,b38⟩,hl42⟩:=hr32
 have:=hl42.len; have:n40 * 32 ≤ 140737488351232:=hl42.bnd; have:=hl42.le
 have hat33x:∀ {w:World} {L:List Res},St H w L → At w ⟨b27,o28 + i * 4,none⟩ [.int .u64 ((e26.V.N:Nat):Int),.int .i64 e26.V.P,.int .i64 e26.Floor,.slice A39 n40 c41]:=fun h => hat33 h
 refine q_st (v:=.pointer (some ⟨b27,(o28 + i * 4),none⟩)) (fun w hs => (ixo26 (.tmp rfl rfl) hA31 (i:=((i:Nat):Int)) (.tmp rfl rfl) (by omega) (by omega) (by omega))) ?_
 refine q_st (v:=.pointer (some ⟨b27,(o28 + i * 4) + 0,none⟩)) (fun w hs => (fa52_0 (.tmp rfl rfl))) ?_
 refine q_st (v:=.agg #[.int .u64 ((e26.V.N:Nat):Int),.int .i64 e26.V.P]) (fun w hs => (ld24 (cs:=[.int .u64 ((e26.V.N:Nat):Int),.int .i64 e26.V.P]) (.tmp rfl rfl) ((hat33x hs).sub 0 rfl) rfl)) ?_
 refine q_st (v:=.bool (!((((e9.V.N:Nat):Int) == ((e26.V.N:Nat):Int)) && ((e9.V.P == e26.V.P) && true)))) (fun w hs => (x_neqA eqg24 (.tmp rfl rfl) (.tmp rfl rfl) (fun d => eqs24 (d + 98) _ ((e9.V.N:Nat):Int) ((e26.V.N:Nat):Int) e9.V.P e26.V.P))) ?_
 refine q_st (v:=.bool (!(decide (e9.V = e26.V)))) (fun w hs => (x_move (.tmp rfl (congrArg (fun z => Value.bool (!z)) (GViewID.beq_dec e9.V e26.V))))) ?_
 rcases Bool.eq_false_or_eq_true (decide (e9.V = e26.V)) with hc43 | hc43
 have hp43:e9.V = e26.V:=of_decide_eq_true hc43
 refine q_yes (yl (dj:=28) (b:=false) rfl rfl (cVb (by rw [hc43]; rfl))) ?_
 refine q_st (v:=.slice A_a n_a c_a) (fun w hs => (x_move (.tmp rfl hρ4))) ?_
 refine q_yes (yl (dj:=28) (b:=false) rfl rfl (cVb (by rw [hc43]; rfl))) ?_
 refine q_st (v:=.int .i64 ((i:Nat):Int)) (fun w hs => (x_move (.tmp rfl hρ6))) ?_
 refine q_yes (yl (dj:=28) (b:=false) rfl rfl (cVb (by rw [hc43]; rfl))) ?_
 refine q_st (v:=.pointer (some ⟨b10,(o11 + i * 4),none⟩)) (fun w hs => (ixo26 (.tmp rfl rfl) hA14 (i:=((i:Nat):Int)) (.tmp rfl rfl) (by omega) (by omega) (by omega))) ?_
 refine q_yes (yl (dj:=28) (b:=false) rfl rfl (cVb (by rw [hc43]; rfl))) ?_
 refine q_st (v:=.pointer (some ⟨b10,(o11 + i * 4) + 2,none⟩)) (fun w hs => (fa52_1 (.tmp rfl rfl))) ?_
 refine q_yes (yl (dj:=28) (b:=false) rfl rfl (cVb (by rw [hc43]; rfl))) ?_
 refine q_st (v:=.int .i64 e9.Floor) (fun w hs => (ld3 (.tmp rfl rfl) ((hat16x hs).cell 2 rfl))) ?_
 refine q_yes (yl (dj:=28) (b:=false) rfl rfl (cVb (by rw [hc43]; rfl))) ?_
 refine q_st (v:=.slice A_b n_b c_b) (fun w hs => (x_move (.tmp rfl hρ5))) ?_
 refine q_yes (yl (dj:=28) (b:=false) rfl rfl (cVb (by rw [hc43]; rfl))) ?_
 refine q_st (v:=.int .i64 ((i:Nat):Int)) (fun w hs => (x_move (.tmp rfl hρ6))) ?_
 refine q_yes (yl (dj:=28) (b:=false) rfl rfl (cVb (by rw [hc43]; rfl))) ?_
 refine q_st (v:=.pointer (some ⟨b27,(o28 + i * 4),none⟩)) (fun w hs => (ixo26 (.tmp rfl rfl) hA31 (i:=((i:Nat):Int)) (.tmp rfl rfl) (by omega) (by omega) (by omega))) ?_
 refine q_yes (yl (dj:=28) (b:=false) rfl rfl (cVb (by rw [hc43]; rfl))) ?_
 refine q_st (v:=.pointer (some ⟨b27,(o28 + i * 4) + 2,none⟩)) (fun w hs => (fa52_1 (.tmp rfl rfl))) ?_
 refine q_yes (yl (dj:=28) (b:=false) rfl rfl (cVb (by rw [hc43]; rfl))) ?_
 refine q_st (v:=.int .i64 e26.Floor) (fun w hs => (ld3 (.tmp rfl rfl) ((hat33x hs).cell 2 rfl))) ?_
 refine q_yes (yl (dj:=28) (b:=false) rfl rfl (cVb (by rw [hc43]; rfl))) ?_
 refine q_st (v:=.bool (decide ((e9.Floor:Int) ≠ e26.Floor))) (fun w hs => (x_neq (k:=.i64) (a:=e9.Floor) (b:=e26.Floor) (.tmp rfl rfl) (.tmp rfl rfl))) ?_
 refine q_st (v:=.bool (decide ((e9.Floor:Int) ≠ e26.Floor))) (fun w hs => (x_pick_f (.tmp rfl (cVb (by rw [hc43]; rfl))) (.tmp rfl rfl))) ?_
 refine q_st (v:=.bool (decide ((e9.Floor:Int) ≠ e26.Floor))) (fun w hs => (x_move (.tmp rfl rfl))) ?_
 rcases Bool.eq_false_or_eq_true (decide ((e9.Floor:Int) ≠ e26.Floor)) with hc44 | hc44
 have hp44:(e9.Floor:Int) ≠ e26.Floor:=of_decide_eq_true hc44
 refine q_no (yk 41 true rfl rfl hc44) rfl ?_
 refine q_no (yk 41 true rfl rfl hc44) rfl ?_
 refine q_no (yk 41 true rfl rfl hc44) rfl ?_
 refine q_no (yk 41 true rfl rfl hc44) rfl ?_
 refine q_no (yk 41 true rfl rfl hc44) rfl ?_
 refine q_no (yk 41 true rfl rfl hc44) rfl ?_
 refine q_no (yk 41 true rfl rfl hc44) rfl ?_
 refine q_no (yk 41 true rfl rfl hc44) rfl ?_
 refine q_no (yk 41 true rfl rfl hc44) rfl ?_
 refine q_no (yk 41 true rfl rfl hc44) rfl ?_
 refine q_no (yk 41 true rfl rfl hc44) rfl ?_
 refine q_no (yk 41 true rfl rfl hc44) rfl ?_
 refine q_st (v:=.bool true) (fun w hs => (x_pick_t (.tmp rfl (cVb hc44)) .const)) ?_
 refine q_nil ?_
 intro w hs45
 refine n_then (c_cond_t (t:=true) (.tmp rfl rfl) rfl ?_)
 refine c_seq (c_region (st (v:=.bool false) (x_assign .const) ?_))
 refine c_nil (n_then (c_ret (r_block (r_then (r_then (r_block (r_then (leave_ret (res_one (v:=.bool false) rfl (.mk rfl rfl)) ?_))))))))
 have hans46:decide (a = b) = false:=lists_ne_at hx13 hx30 (state_ne (fun h => absurd h.2.1 (by omega)))
 rw [hans46]
 exact ⟨rfl,hs45⟩
 have hp44:¬ ((e9.Floor:Int) ≠ e26.Floor):=of_decide_eq_false hc44
 refine q_yes (yk 41 false rfl rfl hc44) ?_
 refine q_st (v:=.slice A_a n_a c_a) (fun w hs => (x_move (.tmp rfl hρ4))) ?_
 refine q_yes (yk 41 false rfl rfl hc44) ?_
 refine q_st (v:=.int .i64 ((i:Nat):Int)) (fun w hs => (x_move (.tmp rfl hρ6))) ?_
 refine q_yes (yk 41 false rfl rfl hc44) ?_
 refine q_st (v:=.pointer (some ⟨b10,(o11 + i * 4),none⟩)) (fun w hs => (ixo26 (.tmp rfl rfl) hA14 (i:=((i:Nat):Int)) (.tmp rfl rfl) (by omega) (by omega) (by omega))) ?_
 refine q_yes (yk 41 false rfl rfl hc44) ?_
 refine q_st (v:=.pointer (some ⟨b10,(o11 + i * 4) + 3,none⟩)) (fun w hs => (fa52_2 (.tmp rfl rfl))) ?_
 refine q_yes (yk 41 false rfl rfl hc44) ?_
 refine q_st (v:=.slice A22 n23 c24) (fun w hs => (ld28 (.tmp rfl rfl) ((hat16x hs).cell 3 rfl))) ?_
 refine q_yes (yk 41 false rfl rfl hc44) ?_
 refine q_st (v:=.slice A_b n_b c_b) (fun w hs => (x_move (.tmp rfl hρ5))) ?_
 refine q_yes (yk 41 false rfl rfl hc44) ?_
 refine q_st (v:=.int .i64 ((i:Nat):Int)) (fun w hs => (x_move (.tmp rfl hρ6))) ?_
 refine q_yes (yk 41 false rfl rfl hc44) ?_
 refine q_st (v:=.pointer (some ⟨b27,(o28 + i * 4),none⟩)) (fun w hs => (ixo26 (.tmp rfl rfl) hA31 (i:=((i:Nat):Int)) (.tmp rfl rfl) (by omega) (by omega) (by omega))) ?_
 refine q_yes (yk 41 false rfl rfl hc44) ?_
 refine q_st (v:=.pointer (some ⟨b27,(o28 + i * 4) + 3,none⟩)) (fun w hs => (fa52_2 (.tmp rfl rfl))) ?_
 refine q_yes (yk 41 false rfl rfl hc44) ?_
 refine q_st (v:=.slice A39 n40 c41) (fun w hs => (ld28 (.tmp rfl rfl) ((hat33x hs).cell 3 rfl))) ?_
 refine q_yes (yk 41 false rfl rfl hc44) ?_
 refine q_c (v:=.bool (decide (e9.Items = e26.Items))) cb30 .func (evs2 (.tmp rfl rfl) (.tmp rfl rfl)) (fun w hs => items_spec hs e9.Items hl25 e26.Items hl42 ) ?_
 refine q_yes (yk 41 false rfl rfl hc44) ?_
 refine q_st (v:=.bool (!(decide (e9.Items = e26.Items)))) (fun w hs => (x_not (.tmp rfl rfl))) ?_
 refine q_st (v:=.bool (!(decide (e9.Items = e26.Items)))) (fun w hs => (x_pick_f (.tmp rfl (cVb hc44)) (.tmp rfl rfl))) ?_
 refine q_nil ?_
 intro w hs47
 refine n_then ?_
 rcases Bool.eq_false_or_eq_true (decide (e9.Items = e26.Items)) with hc48 | hc48
 refine c_cond_f (t:=false) (.tmp rfl (cVb (by rw [hc48]; rfl))) rfl ?_
 refine c_skip (n_block (n_then (c_region (st (v:=.int .i64 ((i:Nat):Int)) (x_move (.tmp rfl hρ6)) ?_))))
 refine st (v:=.int .i64 (((i + 1):Nat):Int)) (x_add (k:=.i64) (a:=((i:Nat):Int)) (b:=1) (.tmp rfl rfl) .const ((w64 (by omega) (by omega)).trans (by omega))) ?_
 refine st (v:=.int .i64 (((i + 1):Nat):Int)) (x_assign (.tmp rfl rfl)) ?_
 refine c_nil ?_
 refine n_then ⟨_,_,rfl,?_,(i + 1),hρ4,hρ5,rfl,(by omega),(take_eq_next ht hx13 hx30 (state_eq hp43 (by omega) hc48)),hs47,rfl⟩
 omega
 refine c_cond_t (t:=true) (.tmp rfl (cVb (by rw [hc48]; rfl))) rfl ?_
 refine c_seq (c_region (st (v:=.bool false) (x_assign .const) ?_))
 refine c_nil (n_then (c_ret (r_block (r_then (r_then (r_block (r_then (leave_ret (res_one (v:=.bool false) rfl (.mk rfl rfl)) ?_))))))))
 have hans49:decide (a = b) = false:=lists_ne_at hx13 hx30 (state_ne (fun h => of_decide_eq_false hc48 h.2.2))
 rw [hans49]
 exact ⟨rfl,hs47⟩
 have hp43:¬ (e9.V = e26.V):=of_decide_eq_false hc43
 refine q_no (yl (dj:=28) (b:=true) rfl rfl (cVb (by rw [hc43]; rfl))) rfl ?_
 refine q_no (yl (dj:=28) (b:=true) rfl rfl (cVb (by rw [hc43]; rfl))) rfl ?_
 refine q_no (yl (dj:=28) (b:=true) rfl rfl (cVb (by rw [hc43]; rfl))) rfl ?_
 refine q_no (yl (dj:=28) (b:=true) rfl rfl (cVb (by rw [hc43]; rfl))) rfl ?_
 refine q_no (yl (dj:=28) (b:=true) rfl rfl (cVb (by rw [hc43]; rfl))) rfl ?_
 refine q_no (yl (dj:=28) (b:=true) rfl rfl (cVb (by rw [hc43]; rfl))) rfl ?_
 refine q_no (yl (dj:=28) (b:=true) rfl rfl (cVb (by rw [hc43]; rfl))) rfl ?_
 refine q_no (yl (dj:=28) (b:=true) rfl rfl (cVb (by rw [hc43]; rfl))) rfl ?_
 refine q_no (yl (dj:=28) (b:=true) rfl rfl (cVb (by rw [hc43]; rfl))) rfl ?_
 refine q_no (yl (dj:=28) (b:=true) rfl rfl (cVb (by rw [hc43]; rfl))) rfl ?_
 refine q_no (yl (dj:=28) (b:=true) rfl rfl (cVb (by rw [hc43]; rfl))) rfl ?_
 refine q_st (v:=.bool true) (fun w hs => (x_pick_t (.tmp rfl (cVb (by rw [hc43]; rfl))) .const)) ?_
 refine q_st (v:=.bool true) (fun w hs => (x_move (.tmp rfl rfl))) ?_
 refine q_no (yl (dj:=41) (b:=true) rfl rfl rfl) rfl ?_
 refine q_no (yl (dj:=41) (b:=true) rfl rfl rfl) rfl ?_
 refine q_no (yl (dj:=41) (b:=true) rfl rfl rfl) rfl ?_
 refine q_no (yl (dj:=41) (b:=true) rfl rfl rfl) rfl ?_
 refine q_no (yl (dj:=41) (b:=true) rfl rfl rfl) rfl ?_
 refine q_no (yl (dj:=41) (b:=true) rfl rfl rfl) rfl ?_
 refine q_no (yl (dj:=41) (b:=true) rfl rfl rfl) rfl ?_
 refine q_no (yl (dj:=41) (b:=true) rfl rfl rfl) rfl ?_
 refine q_no (yl (dj:=41) (b:=true) rfl rfl rfl) rfl ?_
 refine q_no (yl (dj:=41) (b:=true) rfl rfl rfl) rfl ?_
 refine q_no (yl (dj:=41) (b:=true) rfl rfl rfl) rfl ?_
 refine q_no (yl (dj:=41) (b:=true) rfl rfl rfl) rfl ?_
 refine q_st (v:=.bool true) (fun w hs => (x_pick_t (.tmp rfl rfl) .const)) ?_
 refine q_nil ?_
 intro w hs50
 refine n_then (c_cond_t (t:=true) (.tmp rfl rfl) rfl ?_)
 refine c_seq (c_region (st (v:=.bool false) (x_assign .const) ?_))
 refine c_nil (n_then (c_ret (r_block (r_then (r_then (r_block (r_then (leave_ret (res_one (v:=.bool false) rfl (.mk rfl rfl)) ?_))))))))
 have hans51:decide (a = b) = false:=lists_ne_at hx13 hx30 (state_ne (fun h => hp43 h.1))
 rw [hans51]
 exact ⟨rfl,hs50⟩
 have hp8:¬ ((((i:Nat):Int):Int) < ((n_a:Nat):Int)):=of_decide_eq_false hc8
 refine c_cond_f (t:=false) (.tmp rfl (cVb hc8)) rfl ?_
 refine c_exit (x_then (x_then (x_here (n_then (c_seq (c_region (st (v:=.bool true) (x_assign .const) ?_)))))))
 refine c_nil (n_then (c_ret (leave_ret (res_one (v:=.bool true) rfl (.mk rfl rfl)) ?_)))
 have hans52:decide (a = b) = true:=lists_eq ht (by omega) (by omega)
 rw [hans52]
 exact ⟨rfl,hs7⟩
end Go.Proofs.Ytlfihfmmhhcigaa

set_option linter.unusedVariables false
set_option linter.unusedSimpArgs false
namespace Go.Proofs.Ytlfihfmmhhcigaa
open Go Go.FM Go.Proofs
attribute [local irreducible] wpList wpQuiet wpS Code.wp Calls
set_option maxHeartbeats 8000000 in
theorem form_p {H:Hp} {w:World} {L:List Res} (hs:St H w (L)) (x:GItem) {k_x:List Value} (h_x:kItem.rep H x k_x):Calls Try.prog 65 #[.agg k_x.toArray] w (fun e w' => e = .returned (.bool (badFrom x))∧St H w' (L)):=by
 obtain ⟨A3,n4,c5,rfl,⟨b1,b2⟩,hy6⟩:=h_x
 have:=hy6.len; have:=hy6.bnd; have:=hy6.le
 refine enter (args:=[.agg #[.int .i64 x.From,.slice A3 n4 c5]]) (N:=11) Try.func65 rfl rfl rfl ?_
 refine c_seq (c_region (st_m (m_box (cs:=[.int .i64 x.From,.slice A3 n4 c5]) hs (v:=.agg #[.int .i64 x.From,.slice A3 n4 c5]) (.tmp rfl rfl) rfl) ?_))
 rintro _ w8 ⟨g7,rfl,hs10⟩
 refine st (v:=.bool false) (x_assign .const) ?_
 refine c_nil (n_then (c_seq (c_region (st (v:=.pointer (some ⟨g7,0 + 0,none⟩)) (fa49_0 (.tmp rfl rfl)) ?_))))
 refine st (v:=.int .i64 x.From) (ld3 (.tmp rfl rfl) (hs10.cell 0 rfl (0 + 0) rfl)) ?_
 refine st (v:=.bool (decide ((x.From:Int) < 0))) (x_lss (k:=.i64) (a:=x.From) (b:=0) (.tmp rfl rfl) .const) ?_
 refine st (v:=.bool (decide ((x.From:Int) < 0))) (x_move (.tmp rfl rfl)) ?_
 rcases Bool.eq_false_or_eq_true (decide ((x.From:Int) < 0)) with hc11 | hc11
 have hp11:(x.From:Int) < 0:=of_decide_eq_true hc11
 refine g_no (yk 6 true rfl rfl hc11) rfl ?_
 refine g_no (yk 6 true rfl rfl hc11) rfl ?_
 refine g_no (yk 6 true rfl rfl hc11) rfl ?_
 refine st (v:=.bool true) (x_pick_t (.tmp rfl (cVb hc11)) .const) ?_
 refine st (v:=.bool true) (x_assign (.tmp rfl rfl)) ?_
 refine c_nil (n_then (c_ret (leave_ret (res_one (v:=.bool true) rfl (.mk rfl rfl)) ?_)))
 have hans12:(badFrom x) = true:=by unfold badFrom; first | exact decide_eq_true (by omega) | exact decide_eq_decide.2 (by omega)
 rw [hans12]
 exact ⟨rfl,hs10.drop⟩
 have hp11:¬ ((x.From:Int) < 0):=of_decide_eq_false hc11
 refine g_yes (yk 6 false rfl rfl hc11) ?_
 refine st (v:=.pointer (some ⟨g7,0 + 0,none⟩)) (fa49_0 (.tmp rfl rfl)) ?_
 refine g_yes (yk 6 false rfl rfl hc11) ?_
 refine st (v:=.int .i64 x.From) (ld3 (.tmp rfl rfl) (hs10.cell 0 rfl (0 + 0) rfl)) ?_
 refine g_yes (yk 6 false rfl rfl hc11) ?_
 refine st (v:=.bool (decide ((16:Int) ≤ x.From))) (x_geq (k:=.i64) (a:=x.From) (b:=16) (.tmp rfl rfl) .const) ?_
 refine st (v:=.bool (decide ((16:Int) ≤ x.From))) (x_pick_f (.tmp rfl (cVb hc11)) (.tmp rfl rfl)) ?_
 refine st (v:=.bool (decide ((16:Int) ≤ x.From))) (x_assign (.tmp rfl rfl)) ?_
 refine c_nil (n_then (c_ret (leave_ret (res_one (v:=.bool (decide ((16:Int) ≤ x.From))) rfl (.mk rfl rfl)) ?_)))
 have hans13:(badFrom x) = (decide ((16:Int) ≤ x.From)):=by unfold badFrom; first | exact decide_eq_true (by omega) | exact decide_eq_decide.2 (by omega)
 rw [hans13]
 exact ⟨rfl,hs10.drop⟩
set_option maxHeartbeats 8000000 in
theorem index_item {H:Hp} {w:World} {L:List Res} (hs:St H w (L)) {A_l:Option Addr} {n_l c_l:Nat} (l:(List GItem)) (h_l:Sl kItem H A_l n_l c_l l) {f_p:Nat} {cap_p:Array Value} (p:GItem → Bool) (cb_p:Cb Try.prog f_p) (h_p:∀ {w:World} {L:List Res} (hs:St H w L) (x0_:GItem) {k_x0_:List Value} (h_x0_:kItem.rep H x0_ k_x0_),Calls Try.prog f_p (#[.agg k_x0_.toArray] ++ cap_p) w (fun e w' => e = .returned (.bool (p x0_))∧St H w' L)):Calls Try.prog 66 #[.slice A_l n_l c_l,.func (.func f_p) #[] cap_p] w (fun e w' => e = .returned (.int .i64 (idxP p l))∧St H w' (L)):=by
 have:=h_l.len; have:=h_l.le; have:n_l * 32 ≤ 140737488351232:=h_l.bnd
 refine enter (args:=[.slice A_l n_l c_l,.func (.func f_p) #[] cap_p]) (N:=19) Try.func66 rfl rfl rfl ?_
 refine c_seq (c_region (st (v:=.int .i64 0) (x_assign .const) ?_))
 refine c_nil (n_then (c_seq (c_seq (c_region (st (v:=.slice A_l n_l c_l) (x_move (.tmp rfl rfl)) ?_)))))
 refine st (v:=.int .i64 ((n_l:Nat):Int)) (x_len (n:=n_l) Try.underlying28 (.tmp rfl rfl)) ?_
 refine st (v:=.int .i64 0) (x_move .const) ?_
 refine c_nil (n_then (c_block (c_loop (fun ρ w mm => ∃ (i:Nat),ρ 0 = .slice A_l n_l c_l∧ρ 1 = .func (.func f_p) #[] cap_p∧ρ 7 = .int .i64 ((n_l:Nat):Int)∧ρ 8 = .int .i64 ((i:Nat):Int)∧(i ≤ n_l)∧(∀ (j:Nat) (y:GItem),j < i → l[j]? = some y → p y = false)∧St H w (L)∧mm = n_l - i) _ ⟨0,rfl,rfl,rfl,rfl,(by omega),(fun j y h _ => absurd h (Nat.not_lt_zero _)),hs,rfl⟩ ?_)))
 rintro ρ w mm ⟨i,hρ2,hρ3,hρ4,hρ5,hi,ha,hs6,rfl⟩
 refine c_seq (c_region (st (v:=.bool (decide ((((i:Nat):Int):Int) < ((n_l:Nat):Int)))) (x_lss (k:=.i64) (a:=((i:Nat):Int)) (b:=((n_l:Nat):Int)) (.tmp rfl hρ5) (.tmp rfl hρ4)) ?_))
 refine c_nil (n_then (c_seq ?_))
 rcases Bool.eq_false_or_eq_true (decide ((((i:Nat):Int):Int) < ((n_l:Nat):Int))) with hc7 | hc7
 have hp7:(((i:Nat):Int):Int) < ((n_l:Nat):Int):=of_decide_eq_true hc7
 refine c_cond_t (t:=true) (.tmp rfl (cVb hc7)) rfl ?_
 refine c_skip (n_then (c_seq (c_block (c_seq (c_region (st (v:=.int .i64 ((i:Nat):Int)) (x_move (.tmp rfl hρ5)) ?_))))))
 refine st (v:=.int .i64 ((i:Nat):Int)) (x_assign (.tmp rfl rfl)) ?_
 refine c_nil (n_then (c_seq (c_region (st (v:=.func (.func f_p) #[] cap_p) (x_move (.tmp rfl hρ3)) ?_))))
 refine st (v:=.slice A_l n_l c_l) (x_move (.tmp rfl hρ2)) ?_
 refine st (v:=.int .i64 ((i:Nat):Int)) (x_move (.tmp rfl rfl)) ?_
 obtain ⟨e8,b9,o10,cs11,hx12,hA13,hr14,hat15⟩:=h_l.get (i:=i) (by omega)
 obtain ⟨A18,n19,c20,rfl,⟨b16,b17⟩,hy21⟩:=hr14
 have:=hy21.len; have:=hy21.bnd; have:=hy21.le
 have hat15x:∀ {w:World} {L:List Res},St H w L → At w ⟨b9,o10 + i * 2,none⟩ [.int .i64 e8.From,.slice A18 n19 c20]:=fun h => hat15 h
 refine st (v:=.pointer (some ⟨b9,(o10 + i * 2),none⟩)) (ixo28 (.tmp rfl rfl) hA13 (i:=((i:Nat):Int)) (.tmp rfl rfl) (by omega) (by omega) (by omega)) ?_
 refine st (v:=.agg #[.int .i64 e8.From,.slice A18 n19 c20]) (ld49 (cs:=[.int .i64 e8.From,.slice A18 n19 c20]) (.tmp rfl rfl) ((hat15x hs6).sub 0 rfl) rfl) ?_
 have hr22:kItem.rep H e8 [.int .i64 e8.From,.slice A18 n19 c20]:=⟨A18,n19,c20,rfl,⟨b16,b17⟩,hy21⟩
 refine st_cc cb_p (.tmp rfl rfl) (evs1 (.tmp rfl rfl)) rfl (h_p hs6 e8 hr22) ?_
 rintro e w23 ⟨rfl,hs24⟩
 refine ⟨_,rfl,?_⟩
 refine c_nil (n_then ?_)
 rcases Bool.eq_false_or_eq_true (p e8) with hc25 | hc25
 refine c_cond_t (t:=true) (.tmp rfl (cVb hc25)) rfl ?_
 refine c_seq (c_region (st (v:=.int .i64 ((i:Nat):Int)) (x_move (.tmp rfl rfl)) ?_))
 refine st (v:=.int .i64 ((i:Nat):Int)) (x_assign (.tmp rfl rfl)) ?_
 refine c_nil (n_then (c_ret (r_block (r_then (r_then (r_block (r_then (leave_ret (res_one (v:=.int .i64 ((i:Nat):Int)) rfl (.mk rfl rfl)) ?_))))))))
 have hans26:idxP p l = ((i:Nat):Int):=idxP_at p l i _ hx12 hc25 ha
 rw [hans26]
 exact ⟨rfl,hs24⟩
 refine c_cond_f (t:=false) (.tmp rfl (cVb hc25)) rfl ?_
 refine c_skip (n_block (n_then (c_region (st (v:=.int .i64 (((i + 1):Nat):Int)) (x_add (k:=.i64) (a:=((i:Nat):Int)) (b:=1) (.tmp rfl hρ5) .const ((w64 (by omega) (by omega)).trans (by omega))) ?_))))
 refine st (v:=.int .i64 (((i + 1):Nat):Int)) (x_move (.tmp rfl rfl)) ?_
 refine c_nil ?_
 refine n_then ⟨_,_,rfl,?_,(i + 1),hρ2,hρ3,hρ4,rfl,(by omega),(before_next ha hx12 hc25),hs24,rfl⟩
 omega
 have hp7:¬ ((((i:Nat):Int):Int) < ((n_l:Nat):Int)):=of_decide_eq_false hc7
 refine c_cond_f (t:=false) (.tmp rfl (cVb hc7)) rfl ?_
 refine c_exit (x_then (x_then (x_here (n_then (c_seq (c_region (st (v:=.int .i64 (-1)) (x_assign .const) ?_)))))))
 refine c_nil (n_then (c_ret (leave_ret (res_one (v:=.int .i64 (-1)) rfl (.mk rfl rfl)) ?_)))
 have hans27:idxP p l = -1:=idxP_none p l (fun j y hy => ha j y (by have:=(List.getElem?_eq_some_iff.1 hy).1; omega) hy)
 rw [hans27]
 exact ⟨rfl,hs6⟩
set_option maxHeartbeats 8000000 in
theorem contains_item {H:Hp} {w:World} {L:List Res} (hs:St H w (L)) {A_l:Option Addr} {n_l c_l:Nat} (l:(List GItem)) (h_l:Sl kItem H A_l n_l c_l l) {f_p:Nat} {cap_p:Array Value} (p:GItem → Bool) (cb_p:Cb Try.prog f_p) (h_p:∀ {w:World} {L:List Res} (hs:St H w L) (x0_:GItem) {k_x0_:List Value} (h_x0_:kItem.rep H x0_ k_x0_),Calls Try.prog f_p (#[.agg k_x0_.toArray] ++ cap_p) w (fun e w' => e = .returned (.bool (p x0_))∧St H w' L)):Calls Try.prog 64 #[.slice A_l n_l c_l,.func (.func f_p) #[] cap_p] w (fun e w' => e = .returned (.bool (l.any p))∧St H w' (L)):=by
 have:=h_l.len; have:=h_l.le; have:n_l * 32 ≤ 140737488351232:=h_l.bnd
 refine enter (args:=[.slice A_l n_l c_l,.func (.func f_p) #[] cap_p]) (N:=9) Try.func64 rfl rfl rfl ?_
 refine c_seq (c_region (st (v:=.bool false) (x_assign .const) ?_))
 refine c_nil (n_then (c_seq (c_region (st (v:=.slice A_l n_l c_l) (x_move (.tmp rfl rfl)) ?_))))
 refine st (v:=.func (.func f_p) #[] cap_p) (x_move (.tmp rfl rfl)) ?_
 refine st_c cb66 .func (evs2 (.tmp rfl rfl) (.tmp rfl rfl)) (index_item hs l h_l p cb_p h_p ) ?_
 rintro e w1 ⟨rfl,hs2⟩
 refine ⟨_,rfl,?_⟩
 refine st (v:=.bool (decide ((0:Int) ≤ (idxP p l)))) (x_geq (k:=.i64) (a:=(idxP p l)) (b:=0) (.tmp rfl rfl) .const) ?_
 refine st (v:=.bool (decide ((0:Int) ≤ (idxP p l)))) (x_assign (.tmp rfl rfl)) ?_
 refine c_nil (n_then (c_ret (leave_ret (res_one (v:=.bool (decide ((0:Int) ≤ (idxP p l)))) rfl (.mk rfl rfl)) ?_)))
 have hans3:(l.any p) = (decide ((0:Int) ≤ (idxP p l))):=(idxP_any p l).symm
 rw [hans3]
 exact ⟨rfl,hs2⟩
set_option maxHeartbeats 8000000 in
theorem cform_spec {H:Hp} {w:World} {L:List Res} (hs:St H w (L)) (s:GState) {k_s:List Value} (h_s:kState.rep H s k_s):Calls Try.prog 57 #[.agg k_s.toArray] w (fun e w' => e = .returned (.bool (sForm s))∧St H w' (L)):=by
 obtain ⟨A6,n7,c8,rfl,b1,⟨b2,b3⟩,⟨b4,b5⟩,hl9⟩:=h_s
 have:=hl9.len; have:n7 * 32 ≤ 140737488351232:=hl9.bnd; have:=hl9.le
 refine enter (args:=[.agg #[.int .u64 ((s.V.N:Nat):Int),.int .i64 s.V.P,.int .i64 s.Floor,.slice A6 n7 c8]]) (N:=32) Try.func57 rfl rfl rfl ?_
 have hE:sEnd s = s.Floor + (s.Items.length:Int):=rfl
 refine c_seq (c_region (st_m (m_box (cs:=[.int .u64 ((s.V.N:Nat):Int),.int .i64 s.V.P,.int .i64 s.Floor,.slice A6 n7 c8]) hs (v:=.agg #[.int .u64 ((s.V.N:Nat):Int),.int .i64 s.V.P,.int .i64 s.Floor,.slice A6 n7 c8]) (.tmp rfl rfl) rfl) ?_))
 rintro _ w11 ⟨g10,rfl,hs13⟩
 refine st (v:=.bool false) (x_assign .const) ?_
 refine c_nil (n_then (c_seq (c_seq (c_region (st (v:=.pointer (some ⟨g10,0 + 0,none⟩)) (fa52_0 (.tmp rfl rfl)) ?_)))))
 refine st (v:=.agg #[.int .u64 ((s.V.N:Nat):Int),.int .i64 s.V.P]) (ld24 (cs:=[.int .u64 ((s.V.N:Nat):Int),.int .i64 s.V.P]) (.tmp rfl rfl) (hs13.at_ 0 rfl (0 + 0) rfl) rfl) ?_
 refine st_c cb61 .func (evs1 (.tmp rfl rfl)) (form_spec hs13 s.V.N s.V.P) ?_
 rintro e w14 ⟨rfl,hs15⟩
 refine ⟨_,rfl,?_⟩
 refine st (v:=.bool (!(formV s.V.N s.V.P))) (x_not (.tmp rfl rfl)) ?_
 refine st (v:=.bool (!(formV s.V.N s.V.P))) (x_move (.tmp rfl rfl)) ?_
 rcases Bool.eq_false_or_eq_true (formV s.V.N s.V.P) with hc16 | hc16
 refine g_yes (yl (dj:=7) (b:=false) rfl rfl (cVb (by rw [hc16]; rfl))) ?_
 refine st (v:=.pointer (some ⟨g10,0 + 2,none⟩)) (fa52_1 (.tmp rfl rfl)) ?_
 refine g_yes (yl (dj:=7) (b:=false) rfl rfl (cVb (by rw [hc16]; rfl))) ?_
 refine st (v:=.int .i64 s.Floor) (ld3 (.tmp rfl rfl) (hs15.cell 0 rfl (0 + 2) rfl)) ?_
 refine g_yes (yl (dj:=7) (b:=false) rfl rfl (cVb (by rw [hc16]; rfl))) ?_
 refine st (v:=.bool (decide ((s.Floor:Int) < 0))) (x_lss (k:=.i64) (a:=s.Floor) (b:=0) (.tmp rfl rfl) .const) ?_
 refine st (v:=.bool (decide ((s.Floor:Int) < 0))) (x_pick_f (.tmp rfl (cVb (by rw [hc16]; rfl))) (.tmp rfl rfl)) ?_
 refine st (v:=.bool (decide ((s.Floor:Int) < 0))) (x_move (.tmp rfl rfl)) ?_
 rcases Bool.eq_false_or_eq_true (decide ((s.Floor:Int) < 0)) with hc17 | hc17
 have hp17:(s.Floor:Int) < 0:=of_decide_eq_true hc17
 refine g_no (yk 12 true rfl rfl hc17) rfl ?_
 refine g_no (yk 12 true rfl rfl hc17) rfl ?_
 refine g_no (yk 12 true rfl rfl hc17) rfl ?_
 refine st (v:=.bool true) (x_pick_t (.tmp rfl (cVb hc17)) .const) ?_
 refine st (v:=.bool true) (x_move (.tmp rfl rfl)) ?_
 refine g_no (yl (dj:=17) (b:=true) rfl rfl rfl) rfl ?_
 refine g_no (yl (dj:=17) (b:=true) rfl rfl rfl) rfl ?_
 refine g_no (yl (dj:=17) (b:=true) rfl rfl rfl) rfl ?_
 refine g_no (yl (dj:=17) (b:=true) rfl rfl rfl) rfl ?_
 refine g_no (yl (dj:=17) (b:=true) rfl rfl rfl) rfl ?_
 refine g_no0 (yn (dj:=22) rfl rfl) ?_
 refine g_no0 (yn (dj:=22) rfl rfl) ?_
 refine g_no0 (yn (dj:=22) rfl rfl) ?_
 refine g_no (yl (dj:=17) (b:=true) rfl rfl rfl) rfl ?_
 refine st (v:=.bool true) (x_pick_t (.tmp rfl rfl) .const) ?_
 refine c_nil (n_then (c_cond_t (t:=true) (.tmp rfl rfl) rfl ?_))
 refine c_seq (c_region (st (v:=.bool false) (x_assign .const) ?_))
 refine c_nil (n_then (c_ret (r_then (leave_ret (res_one (v:=.bool false) rfl (.mk rfl rfl)) ?_))))
 have hans18:sForm s = false:=sForm_false (by first | (left; assumption) | (right; omega))
 rw [hans18]
 exact ⟨rfl,hs15.drop⟩
 have hp17:¬ ((s.Floor:Int) < 0):=of_decide_eq_false hc17
 refine g_yes (yk 12 false rfl rfl hc17) ?_
 refine st (v:=.pointer (some ⟨g10,0 + 2,none⟩)) (fa52_1 (.tmp rfl rfl)) ?_
 refine g_yes (yk 12 false rfl rfl hc17) ?_
 refine st (v:=.int .i64 s.Floor) (ld3 (.tmp rfl rfl) (hs15.cell 0 rfl (0 + 2) rfl)) ?_
 refine g_yes (yk 12 false rfl rfl hc17) ?_
 refine st (v:=.bool (decide ((1073741824:Int) < s.Floor))) (x_gtr (k:=.i64) (a:=s.Floor) (b:=1073741824) (.tmp rfl rfl) .const) ?_
 refine st (v:=.bool (decide ((1073741824:Int) < s.Floor))) (x_pick_f (.tmp rfl (cVb hc17)) (.tmp rfl rfl)) ?_
 refine st (v:=.bool (decide ((1073741824:Int) < s.Floor))) (x_move (.tmp rfl rfl)) ?_
 rcases Bool.eq_false_or_eq_true (decide ((1073741824:Int) < s.Floor)) with hc19 | hc19
 have hp19:(1073741824:Int) < s.Floor:=of_decide_eq_true hc19
 refine g_no (yk 17 true rfl rfl hc19) rfl ?_
 refine g_no (yk 17 true rfl rfl hc19) rfl ?_
 refine g_no (yk 17 true rfl rfl hc19) rfl ?_
 refine g_no (yk 17 true rfl rfl hc19) rfl ?_
 refine g_no (yk 17 true rfl rfl hc19) rfl ?_
 refine g_no0 (yn (dj:=22) rfl rfl) ?_
 refine g_no0 (yn (dj:=22) rfl rfl) ?_
 refine g_no0 (yn (dj:=22) rfl rfl) ?_
 refine g_no (yk 17 true rfl rfl hc19) rfl ?_
 refine st (v:=.bool true) (x_pick_t (.tmp rfl (cVb hc19)) .const) ?_
 refine c_nil (n_then (c_cond_t (t:=true) (.tmp rfl rfl) rfl ?_))
 refine c_seq (c_region (st (v:=.bool false) (x_assign .const) ?_))
 refine c_nil (n_then (c_ret (r_then (leave_ret (res_one (v:=.bool false) rfl (.mk rfl rfl)) ?_))))
 have hans20:sForm s = false:=sForm_false (by first | (left; assumption) | (right; omega))
 rw [hans20]
 exact ⟨rfl,hs15.drop⟩
 have hp19:¬ ((1073741824:Int) < s.Floor):=of_decide_eq_false hc19
 refine g_yes (yk 17 false rfl rfl hc19) ?_
 refine st (v:=.pointer (some ⟨g10,0 + 0,none⟩)) (fa52_0 (.tmp rfl rfl)) ?_
 refine g_yes (yk 17 false rfl rfl hc19) ?_
 refine st (v:=.pointer (some ⟨g10,0 + 0 + 0,none⟩)) (fa24_0 (.tmp rfl rfl)) ?_
 refine g_yes (yk 17 false rfl rfl hc19) ?_
 refine st (v:=.int .u64 ((s.V.N:Nat):Int)) (ld22 (.tmp rfl rfl) (hs15.cell 0 rfl (0 + 0 + 0) rfl)) ?_
 refine g_yes (yk 17 false rfl rfl hc19) ?_
 refine st (v:=.bool (decide ((((s.V.N:Nat):Int):Int) = 0))) (x_eql (k:=.u64) (a:=((s.V.N:Nat):Int)) (b:=0) (.tmp rfl rfl) .const) ?_
 refine g_yes (yk 17 false rfl rfl hc19) ?_
 refine st (v:=.bool (decide ((((s.V.N:Nat):Int):Int) = 0))) (x_move (.tmp rfl rfl)) ?_
 rcases Bool.eq_false_or_eq_true (decide ((((s.V.N:Nat):Int):Int) = 0)) with hc21 | hc21
 have hp21:(((s.V.N:Nat):Int):Int) = 0:=of_decide_eq_true hc21
 refine g_yes (yk 22 true rfl rfl hc21) ?_
 refine st (v:=.agg #[.int .u64 ((s.V.N:Nat):Int),.int .i64 s.V.P,.int .i64 s.Floor,.slice A6 n7 c8]) (ld52 (cs:=[.int .u64 ((s.V.N:Nat):Int),.int .i64 s.V.P,.int .i64 s.Floor,.slice A6 n7 c8]) (.tmp rfl rfl) (hs15.at_ 0 rfl (0) rfl) rfl) ?_
 refine g_yes (yk 22 true rfl rfl hc21) ?_
 have hr22:kState.rep H s [.int .u64 ((s.V.N:Nat):Int),.int .i64 s.V.P,.int .i64 s.Floor,.slice A6 n7 c8]:=⟨A6,n7,c8,rfl,b1,⟨b2,b3⟩,⟨b4,b5⟩,hl9⟩
 refine st_c cb63 .func (evs1 (.tmp rfl rfl)) (end_spec hs15 s hr22 (show (0:Int) ≤ s.Floor from by omega) (show s.Floor ≤ (1073741824:Int) from by omega)) ?_
 rintro e w23 ⟨rfl,hs24⟩
 refine ⟨_,rfl,?_⟩
 refine g_yes (yk 22 true rfl rfl hc21) ?_
 refine st (v:=.bool (decide ((0:Int) < (sEnd s)))) (x_gtr (k:=.i64) (a:=(sEnd s)) (b:=0) (.tmp rfl rfl) .const) ?_
 refine g_yes (yk 17 false rfl rfl hc19) ?_
 refine st (v:=.bool (decide ((0:Int) < (sEnd s)))) (x_pick_t (.tmp rfl (cVb hc21)) (.tmp rfl rfl)) ?_
 refine st (v:=.bool (decide ((0:Int) < (sEnd s)))) (x_pick_f (.tmp rfl (cVb hc19)) (.tmp rfl rfl)) ?_
 refine c_nil (n_then ?_)
 rcases Bool.eq_false_or_eq_true (decide ((0:Int) < (sEnd s))) with hc25 | hc25
 have hp25:(0:Int) < (sEnd s):=of_decide_eq_true hc25
 refine c_cond_t (t:=true) (.tmp rfl (cVb hc25)) rfl ?_
 refine c_seq (c_region (st (v:=.bool false) (x_assign .const) ?_))
 refine c_nil (n_then (c_ret (r_then (leave_ret (res_one (v:=.bool false) rfl (.mk rfl rfl)) ?_))))
 have hans26:sForm s = false:=sForm_false (by first | (left; assumption) | (right; omega))
 rw [hans26]
 exact ⟨rfl,hs24.drop⟩
 have hp25:¬ ((0:Int) < (sEnd s)):=of_decide_eq_false hc25
 refine c_cond_f (t:=false) (.tmp rfl (cVb hc25)) rfl ?_
 refine c_skip (n_then (c_seq (c_region (st (v:=.pointer (some ⟨g10,0 + 3,none⟩)) (fa52_2 (.tmp rfl rfl)) ?_))))
 refine st (v:=.slice A6 n7 c8) (ld28 (.tmp rfl rfl) (hs24.cell 0 rfl (0 + 3) rfl)) ?_
 refine st_c cb64 .func (evs2 (.tmp rfl rfl) .func) (contains_item hs24 s.Items hl9 (fun (y0:GItem) => (badFrom y0)) cb65 (fun {_} {_} hs y0 {_} h0 => form_p hs y0 h0 ) ) ?_
 rintro e w27 ⟨rfl,hs28⟩
 refine ⟨_,rfl,?_⟩
 refine st (v:=.bool (!(s.Items.any (fun (y0:GItem) => (badFrom y0))))) (x_not (.tmp rfl rfl)) ?_
 refine st (v:=.bool (!(s.Items.any (fun (y0:GItem) => (badFrom y0))))) (x_assign (.tmp rfl rfl)) ?_
 refine c_nil (n_then (c_ret (leave_ret (res_one (v:=.bool (!(s.Items.any (fun (y0:GItem) => (badFrom y0))))) rfl (.mk rfl rfl)) ?_)))
 have hans29:sForm s = (!(s.Items.any (fun (y0:GItem) => (badFrom y0)))):=sForm_true hc16 (by omega)
 rw [hans29]
 exact ⟨rfl,hs28.drop⟩
 have hp21:¬ ((((s.V.N:Nat):Int):Int) = 0):=of_decide_eq_false hc21
 refine g_no (yk 22 false rfl rfl hc21) rfl ?_
 refine g_no (yk 22 false rfl rfl hc21) rfl ?_
 refine g_no (yk 22 false rfl rfl hc21) rfl ?_
 refine g_yes (yk 17 false rfl rfl hc19) ?_
 refine st (v:=.bool false) (x_pick_f (.tmp rfl (cVb hc21)) .const) ?_
 refine st (v:=.bool false) (x_pick_f (.tmp rfl (cVb hc19)) (.tmp rfl rfl)) ?_
 refine c_nil (n_then (c_cond_f (t:=false) (.tmp rfl rfl) rfl ?_))
 refine c_skip (n_then (c_seq (c_region (st (v:=.pointer (some ⟨g10,0 + 3,none⟩)) (fa52_2 (.tmp rfl rfl)) ?_))))
 refine st (v:=.slice A6 n7 c8) (ld28 (.tmp rfl rfl) (hs15.cell 0 rfl (0 + 3) rfl)) ?_
 refine st_c cb64 .func (evs2 (.tmp rfl rfl) .func) (contains_item hs15 s.Items hl9 (fun (y0:GItem) => (badFrom y0)) cb65 (fun {_} {_} hs y0 {_} h0 => form_p hs y0 h0 ) ) ?_
 rintro e w30 ⟨rfl,hs31⟩
 refine ⟨_,rfl,?_⟩
 refine st (v:=.bool (!(s.Items.any (fun (y0:GItem) => (badFrom y0))))) (x_not (.tmp rfl rfl)) ?_
 refine st (v:=.bool (!(s.Items.any (fun (y0:GItem) => (badFrom y0))))) (x_assign (.tmp rfl rfl)) ?_
 refine c_nil (n_then (c_ret (leave_ret (res_one (v:=.bool (!(s.Items.any (fun (y0:GItem) => (badFrom y0))))) rfl (.mk rfl rfl)) ?_)))
 have hans32:sForm s = (!(s.Items.any (fun (y0:GItem) => (badFrom y0)))):=sForm_true hc16 (by omega)
 rw [hans32]
 exact ⟨rfl,hs31.drop⟩
 refine g_no (yl (dj:=7) (b:=true) rfl rfl (cVb (by rw [hc16]; rfl))) rfl ?_
 refine g_no (yl (dj:=7) (b:=true) rfl rfl (cVb (by rw [hc16]; rfl))) rfl ?_
 refine g_no (yl (dj:=7) (b:=true) rfl rfl (cVb (by rw [hc16]; rfl))) rfl ?_
 refine st (v:=.bool true) (x_pick_t (.tmp rfl (cVb (by rw [hc16]; rfl))) .const) ?_
 refine st (v:=.bool true) (x_move (.tmp rfl rfl)) ?_
 refine g_no (yl (dj:=12) (b:=true) rfl rfl rfl) rfl ?_
 refine g_no (yl (dj:=12) (b:=true) rfl rfl rfl) rfl ?_
 refine g_no (yl (dj:=12) (b:=true) rfl rfl rfl) rfl ?_
 refine st (v:=.bool true) (x_pick_t (.tmp rfl rfl) .const) ?_
 refine st (v:=.bool true) (x_move (.tmp rfl rfl)) ?_
 refine g_no (yl (dj:=17) (b:=true) rfl rfl rfl) rfl ?_
 refine g_no (yl (dj:=17) (b:=true) rfl rfl rfl) rfl ?_
 refine g_no (yl (dj:=17) (b:=true) rfl rfl rfl) rfl ?_
 refine g_no (yl (dj:=17) (b:=true) rfl rfl rfl) rfl ?_
 refine g_no (yl (dj:=17) (b:=true) rfl rfl rfl) rfl ?_
 refine g_no0 (yn (dj:=22) rfl rfl) ?_
 refine g_no0 (yn (dj:=22) rfl rfl) ?_
 refine g_no0 (yn (dj:=22) rfl rfl) ?_
 refine g_no (yl (dj:=17) (b:=true) rfl rfl rfl) rfl ?_
 refine st (v:=.bool true) (x_pick_t (.tmp rfl rfl) .const) ?_
 refine c_nil (n_then (c_cond_t (t:=true) (.tmp rfl rfl) rfl ?_))
 refine c_seq (c_region (st (v:=.bool false) (x_assign .const) ?_))
 refine c_nil (n_then (c_ret (r_then (leave_ret (res_one (v:=.bool false) rfl (.mk rfl rfl)) ?_))))
 have hans33:sForm s = false:=sForm_false (by first | (left; assumption) | (right; omega))
 rw [hans33]
 exact ⟨rfl,hs15.drop⟩
set_option maxHeartbeats 8000000 in
theorem rcform_spec {H:Hp} {w:World} {L:List Res} (hs:St H w (L)) (s:GState) {k_s:List Value} (h_s:kState.rep H s k_s):Calls Try.prog 54 #[.agg k_s.toArray] w (fun e w' => e = .returned (.bool (sForm s))∧St H w' (L)):=by
 obtain ⟨A6,n7,c8,rfl,b1,⟨b2,b3⟩,⟨b4,b5⟩,hl9⟩:=h_s
 have:=hl9.len; have:n7 * 32 ≤ 140737488351232:=hl9.bnd; have:=hl9.le
 refine enter (args:=[.agg #[.int .u64 ((s.V.N:Nat):Int),.int .i64 s.V.P,.int .i64 s.Floor,.slice A6 n7 c8]]) (N:=57) Try.func54 rfl rfl rfl ?_
 have hE:sEnd s = s.Floor + (s.Items.length:Int):=rfl
 refine c_seq (c_region (st_m (m_box (cs:=[.int .u64 ((s.V.N:Nat):Int),.int .i64 s.V.P,.int .i64 s.Floor,.slice A6 n7 c8]) hs (v:=.agg #[.int .u64 ((s.V.N:Nat):Int),.int .i64 s.V.P,.int .i64 s.Floor,.slice A6 n7 c8]) (.tmp rfl rfl) rfl) ?_))
 rintro _ w11 ⟨g10,rfl,hs13⟩
 refine st (v:=.bool false) (x_assign .const) ?_
 refine c_nil (n_then (c_seq (c_seq (c_region (st (v:=.int .i64 0) (x_assign .const) ?_)))))
 refine c_nil (n_then (c_block (c_loop (fun ρ w mm => ∃ (i:Nat),ρ 1 = .pointer (some ⟨g10,0,none⟩)∧ρ 3 = .int .i64 ((i:Nat):Int)∧(i ≤ s.Items.length)∧(∀ (j:Nat) (y:GItem),j < i → s.Items[j]? = some y → decide (0 ≤ y.From∧y.From < 16) = true)∧St H w (obj g10 52 [.int .u64 ((s.V.N:Nat):Int),.int .i64 s.V.P,.int .i64 s.Floor,.slice A6 n7 c8]::L)∧mm = s.Items.length - i) _ ⟨0,rfl,rfl,(by omega),(fun j y h _ => absurd h (Nat.not_lt_zero _)),hs13,rfl⟩ ?_)))
 rintro ρ w mm ⟨i,hρ15,hρ16,hi,ha,hs17,rfl⟩
 refine c_seq (c_seq (c_region (st (v:=.int .i64 ((i:Nat):Int)) (x_move (.tmp rfl hρ16)) ?_)))
 refine st (v:=.pointer (some ⟨g10,0 + 3,none⟩)) (fa52_2 (.tmp rfl hρ15)) ?_
 refine st (v:=.slice A6 n7 c8) (ld28 (.tmp rfl rfl) (hs17.cell 0 rfl (0 + 3) rfl)) ?_
 refine st (v:=.int .i64 ((n7:Nat):Int)) (x_len (n:=n7) Try.underlying28 (.tmp rfl rfl)) ?_
 refine st (v:=.bool (decide ((((i:Nat):Int):Int) < ((n7:Nat):Int)))) (x_lss (k:=.i64) (a:=((i:Nat):Int)) (b:=((n7:Nat):Int)) (.tmp rfl rfl) (.tmp rfl rfl)) ?_
 refine c_nil (n_then ?_)
 rcases Bool.eq_false_or_eq_true (decide ((((i:Nat):Int):Int) < ((n7:Nat):Int))) with hc18 | hc18
 have hp18:(((i:Nat):Int):Int) < ((n7:Nat):Int):=of_decide_eq_true hc18
 refine c_cond_t (t:=true) (.tmp rfl (cVb hc18)) rfl ?_
 refine c_skip (n_then (c_seq (c_block (c_seq (c_region (st (v:=.pointer (some ⟨g10,0 + 3,none⟩)) (fa52_2 (.tmp rfl hρ15)) ?_))))))
 refine st (v:=.slice A6 n7 c8) (ld28 (.tmp rfl rfl) (hs17.cell 0 rfl (0 + 3) rfl)) ?_
 refine st (v:=.int .i64 ((i:Nat):Int)) (x_move (.tmp rfl hρ16)) ?_
 obtain ⟨e19,b20,o21,cs22,hx23,hA24,hr25,hat26⟩:=hl9.get (i:=i) (by omega)
 obtain ⟨A29,n30,c31,rfl,⟨b27,b28⟩,hy32⟩:=hr25
 have:=hy32.len; have:=hy32.bnd; have:=hy32.le
 have hat26x:∀ {w:World} {L:List Res},St H w L → At w ⟨b20,o21 + i * 2,none⟩ [.int .i64 e19.From,.slice A29 n30 c31]:=fun h => hat26 h
 refine st (v:=.pointer (some ⟨b20,(o21 + i * 2),none⟩)) (ixo28 (.tmp rfl rfl) hA24 (i:=((i:Nat):Int)) (.tmp rfl rfl) (by omega) (by omega) (by omega)) ?_
 refine st (v:=.pointer (some ⟨b20,(o21 + i * 2) + 0,none⟩)) (fa49_0 (.tmp rfl rfl)) ?_
 refine st (v:=.int .i64 e19.From) (ld3 (.tmp rfl rfl) ((hat26x hs17).cell 0 rfl)) ?_
 refine st (v:=.bool (decide ((e19.From:Int) < 0))) (x_lss (k:=.i64) (a:=e19.From) (b:=0) (.tmp rfl rfl) .const) ?_
 refine st (v:=.bool (decide ((e19.From:Int) < 0))) (x_move (.tmp rfl rfl)) ?_
 rcases Bool.eq_false_or_eq_true (decide ((e19.From:Int) < 0)) with hc33 | hc33
 have hp33:(e19.From:Int) < 0:=of_decide_eq_true hc33
 refine g_no (yk 18 true rfl rfl hc33) rfl ?_
 refine g_no (yk 18 true rfl rfl hc33) rfl ?_
 refine g_no (yk 18 true rfl rfl hc33) rfl ?_
 refine g_no (yk 18 true rfl rfl hc33) rfl ?_
 refine g_no (yk 18 true rfl rfl hc33) rfl ?_
 refine g_no (yk 18 true rfl rfl hc33) rfl ?_
 refine g_no (yk 18 true rfl rfl hc33) rfl ?_
 refine st (v:=.bool true) (x_pick_t (.tmp rfl (cVb hc33)) .const) ?_
 refine c_nil (n_then (c_cond_t (t:=true) (.tmp rfl rfl) rfl ?_))
 refine c_seq (c_region (st (v:=.bool false) (x_assign .const) ?_))
 refine c_nil (n_then (c_ret (r_block (r_then (r_then (r_block (r_then (leave_ret (res_one (v:=.bool false) rfl (.mk rfl rfl)) ?_))))))))
 have hans34:sForm s = false:=sForm_item hx23 (by omega)
 rw [hans34]
 exact ⟨rfl,hs17.drop⟩
 have hp33:¬ ((e19.From:Int) < 0):=of_decide_eq_false hc33
 refine g_yes (yk 18 false rfl rfl hc33) ?_
 refine st (v:=.pointer (some ⟨g10,0 + 3,none⟩)) (fa52_2 (.tmp rfl hρ15)) ?_
 refine g_yes (yk 18 false rfl rfl hc33) ?_
 refine st (v:=.slice A6 n7 c8) (ld28 (.tmp rfl rfl) (hs17.cell 0 rfl (0 + 3) rfl)) ?_
 refine g_yes (yk 18 false rfl rfl hc33) ?_
 refine st (v:=.int .i64 ((i:Nat):Int)) (x_move (.tmp rfl hρ16)) ?_
 refine g_yes (yk 18 false rfl rfl hc33) ?_
 refine st (v:=.pointer (some ⟨b20,(o21 + i * 2),none⟩)) (ixo28 (.tmp rfl rfl) hA24 (i:=((i:Nat):Int)) (.tmp rfl rfl) (by omega) (by omega) (by omega)) ?_
 refine g_yes (yk 18 false rfl rfl hc33) ?_
 refine st (v:=.pointer (some ⟨b20,(o21 + i * 2) + 0,none⟩)) (fa49_0 (.tmp rfl rfl)) ?_
 refine g_yes (yk 18 false rfl rfl hc33) ?_
 refine st (v:=.int .i64 e19.From) (ld3 (.tmp rfl rfl) ((hat26x hs17).cell 0 rfl)) ?_
 refine g_yes (yk 18 false rfl rfl hc33) ?_
 refine st (v:=.bool (decide ((15:Int) < e19.From))) (x_gtr (k:=.i64) (a:=e19.From) (b:=15) (.tmp rfl rfl) .const) ?_
 refine st (v:=.bool (decide ((15:Int) < e19.From))) (x_pick_f (.tmp rfl (cVb hc33)) (.tmp rfl rfl)) ?_
 refine c_nil (n_then ?_)
 rcases Bool.eq_false_or_eq_true (decide ((15:Int) < e19.From)) with hc35 | hc35
 have hp35:(15:Int) < e19.From:=of_decide_eq_true hc35
 refine c_cond_t (t:=true) (.tmp rfl (cVb hc35)) rfl ?_
 refine c_seq (c_region (st (v:=.bool false) (x_assign .const) ?_))
 refine c_nil (n_then (c_ret (r_block (r_then (r_then (r_block (r_then (leave_ret (res_one (v:=.bool false) rfl (.mk rfl rfl)) ?_))))))))
 have hans36:sForm s = false:=sForm_item hx23 (by omega)
 rw [hans36]
 exact ⟨rfl,hs17.drop⟩
 have hp35:¬ ((15:Int) < e19.From):=of_decide_eq_false hc35
 refine c_cond_f (t:=false) (.tmp rfl (cVb hc35)) rfl ?_
 refine c_skip (n_block (n_then (c_region (st (v:=.int .i64 ((i:Nat):Int)) (x_move (.tmp rfl hρ16)) ?_))))
 refine st (v:=.int .i64 (((i + 1):Nat):Int)) (x_add (k:=.i64) (a:=((i:Nat):Int)) (b:=1) (.tmp rfl rfl) .const ((w64 (by omega) (by omega)).trans (by omega))) ?_
 refine st (v:=.int .i64 (((i + 1):Nat):Int)) (x_assign (.tmp rfl rfl)) ?_
 refine c_nil ?_
 refine n_then ⟨_,_,rfl,?_,(i + 1),hρ15,rfl,(by omega),(next_all ha hx23 (decide_eq_true (by omega))),hs17,rfl⟩
 omega
 have hp18:¬ ((((i:Nat):Int):Int) < ((n7:Nat):Int)):=of_decide_eq_false hc18
 refine c_cond_f (t:=false) (.tmp rfl (cVb hc18)) rfl ?_
 refine c_exit (x_then (x_then (x_here (n_then (c_seq (c_region (st (v:=.pointer (some ⟨g10,0 + 0,none⟩)) (fa52_0 (.tmp rfl hρ15)) ?_)))))))
 refine st (v:=.agg #[.int .u64 ((s.V.N:Nat):Int),.int .i64 s.V.P]) (ld24 (cs:=[.int .u64 ((s.V.N:Nat):Int),.int .i64 s.V.P]) (.tmp rfl rfl) (hs17.at_ 0 rfl (0 + 0) rfl) rfl) ?_
 refine st_c cb19 .func (evs1 (.tmp rfl rfl)) (rform_spec hs17 s.V.N s.V.P) ?_
 rintro e w37 ⟨rfl,hs38⟩
 refine ⟨_,rfl,?_⟩
 refine st (v:=.bool (formV s.V.N s.V.P)) (x_move (.tmp rfl rfl)) ?_
 rcases Bool.eq_false_or_eq_true (formV s.V.N s.V.P) with hc39 | hc39
 refine g_yes (yk 30 true rfl rfl hc39) ?_
 refine st (v:=.pointer (some ⟨g10,0 + 2,none⟩)) (fa52_1 (.tmp rfl hρ15)) ?_
 refine g_yes (yk 30 true rfl rfl hc39) ?_
 refine st (v:=.int .i64 s.Floor) (ld3 (.tmp rfl rfl) (hs38.cell 0 rfl (0 + 2) rfl)) ?_
 refine g_yes (yk 30 true rfl rfl hc39) ?_
 refine st (v:=.bool (decide ((0:Int) ≤ s.Floor))) (x_geq (k:=.i64) (a:=s.Floor) (b:=0) (.tmp rfl rfl) .const) ?_
 refine st (v:=.bool (decide ((0:Int) ≤ s.Floor))) (x_pick_t (.tmp rfl (cVb hc39)) (.tmp rfl rfl)) ?_
 refine st (v:=.bool (decide ((0:Int) ≤ s.Floor))) (x_move (.tmp rfl rfl)) ?_
 rcases Bool.eq_false_or_eq_true (decide ((0:Int) ≤ s.Floor)) with hc40 | hc40
 have hp40:(0:Int) ≤ s.Floor:=of_decide_eq_true hc40
 refine g_yes (yk 35 true rfl rfl hc40) ?_
 refine st (v:=.pointer (some ⟨g10,0 + 2,none⟩)) (fa52_1 (.tmp rfl hρ15)) ?_
 refine g_yes (yk 35 true rfl rfl hc40) ?_
 refine st (v:=.int .i64 s.Floor) (ld3 (.tmp rfl rfl) (hs38.cell 0 rfl (0 + 2) rfl)) ?_
 refine g_yes (yk 35 true rfl rfl hc40) ?_
 refine st (v:=.bool (decide ((s.Floor:Int) ≤ 1073741824))) (x_leq (k:=.i64) (a:=s.Floor) (b:=1073741824) (.tmp rfl rfl) .const) ?_
 refine st (v:=.bool (decide ((s.Floor:Int) ≤ 1073741824))) (x_pick_t (.tmp rfl (cVb hc40)) (.tmp rfl rfl)) ?_
 refine st (v:=.bool (decide ((s.Floor:Int) ≤ 1073741824))) (x_move (.tmp rfl rfl)) ?_
 rcases Bool.eq_false_or_eq_true (decide ((s.Floor:Int) ≤ 1073741824)) with hc41 | hc41
 have hp41:(s.Floor:Int) ≤ 1073741824:=of_decide_eq_true hc41
 refine g_yes (yk 40 true rfl rfl hc41) ?_
 refine st (v:=.pointer (some ⟨g10,0 + 0,none⟩)) (fa52_0 (.tmp rfl hρ15)) ?_
 refine g_yes (yk 40 true rfl rfl hc41) ?_
 refine st (v:=.pointer (some ⟨g10,0 + 0 + 0,none⟩)) (fa24_0 (.tmp rfl rfl)) ?_
 refine g_yes (yk 40 true rfl rfl hc41) ?_
 refine st (v:=.int .u64 ((s.V.N:Nat):Int)) (ld22 (.tmp rfl rfl) (hs38.cell 0 rfl (0 + 0 + 0) rfl)) ?_
 refine g_yes (yk 40 true rfl rfl hc41) ?_
 refine st (v:=.bool (decide ((0:Int) < ((s.V.N:Nat):Int)))) (x_gtr (k:=.u64) (a:=((s.V.N:Nat):Int)) (b:=0) (.tmp rfl rfl) .const) ?_
 refine g_yes (yk 40 true rfl rfl hc41) ?_
 refine st (v:=.bool (decide ((0:Int) < ((s.V.N:Nat):Int)))) (x_move (.tmp rfl rfl)) ?_
 rcases Bool.eq_false_or_eq_true (decide ((0:Int) < ((s.V.N:Nat):Int))) with hc42 | hc42
 have hp42:(0:Int) < ((s.V.N:Nat):Int):=of_decide_eq_true hc42
 refine g_no (yk 45 true rfl rfl hc42) rfl ?_
 refine g_no (yk 45 true rfl rfl hc42) rfl ?_
 refine g_no (yk 45 true rfl rfl hc42) rfl ?_
 refine g_no (yk 45 true rfl rfl hc42) rfl ?_
 refine g_no0 (yn (dj:=49) rfl rfl) ?_
 refine g_no0 (yn (dj:=49) rfl rfl) ?_
 refine g_no0 (yn (dj:=49) rfl rfl) ?_
 refine g_no0 (yn (dj:=49) rfl rfl) ?_
 refine g_no (yk 45 true rfl rfl hc42) rfl ?_
 refine g_yes (yk 40 true rfl rfl hc41) ?_
 refine st (v:=.bool true) (x_pick_t (.tmp rfl (cVb hc42)) .const) ?_
 refine st (v:=.bool true) (x_pick_t (.tmp rfl (cVb hc41)) (.tmp rfl rfl)) ?_
 refine st (v:=.bool true) (x_assign (.tmp rfl rfl)) ?_
 refine c_nil (n_then (c_ret (leave_ret (res_one (v:=.bool true) rfl (.mk rfl rfl)) ?_)))
 have hans43:sForm s = true:=(sForm_end ha (by omega)).trans (by rw [hc39,Bool.true_and]; first | exact decide_eq_true (by omega) | exact decide_eq_false (by omega) | exact decide_eq_decide.2 (by omega))
 rw [hans43]
 exact ⟨rfl,hs38.drop⟩
 have hp42:¬ ((0:Int) < ((s.V.N:Nat):Int)):=of_decide_eq_false hc42
 refine g_yes (yk 45 false rfl rfl hc42) ?_
 refine st (v:=.pointer (some ⟨g10,0 + 2,none⟩)) (fa52_1 (.tmp rfl hρ15)) ?_
 refine g_yes (yk 45 false rfl rfl hc42) ?_
 refine st (v:=.int .i64 s.Floor) (ld3 (.tmp rfl rfl) (hs38.cell 0 rfl (0 + 2) rfl)) ?_
 refine g_yes (yk 45 false rfl rfl hc42) ?_
 refine st (v:=.bool (decide ((s.Floor:Int) = 0))) (x_eql (k:=.i64) (a:=s.Floor) (b:=0) (.tmp rfl rfl) .const) ?_
 refine g_yes (yk 45 false rfl rfl hc42) ?_
 refine st (v:=.bool (decide ((s.Floor:Int) = 0))) (x_move (.tmp rfl rfl)) ?_
 rcases Bool.eq_false_or_eq_true (decide ((s.Floor:Int) = 0)) with hc44 | hc44
 have hp44:(s.Floor:Int) = 0:=of_decide_eq_true hc44
 refine g_yes (yk 49 true rfl rfl hc44) ?_
 refine st (v:=.pointer (some ⟨g10,0 + 3,none⟩)) (fa52_2 (.tmp rfl hρ15)) ?_
 refine g_yes (yk 49 true rfl rfl hc44) ?_
 refine st (v:=.slice A6 n7 c8) (ld28 (.tmp rfl rfl) (hs38.cell 0 rfl (0 + 3) rfl)) ?_
 refine g_yes (yk 49 true rfl rfl hc44) ?_
 refine st (v:=.int .i64 ((n7:Nat):Int)) (x_len (n:=n7) Try.underlying28 (.tmp rfl rfl)) ?_
 refine g_yes (yk 49 true rfl rfl hc44) ?_
 refine st (v:=.bool (decide ((((n7:Nat):Int):Int) = 0))) (x_eql (k:=.i64) (a:=((n7:Nat):Int)) (b:=0) (.tmp rfl rfl) .const) ?_
 refine g_yes (yk 45 false rfl rfl hc42) ?_
 refine st (v:=.bool (decide ((((n7:Nat):Int):Int) = 0))) (x_pick_t (.tmp rfl (cVb hc44)) (.tmp rfl rfl)) ?_
 refine g_yes (yk 40 true rfl rfl hc41) ?_
 refine st (v:=.bool (decide ((((n7:Nat):Int):Int) = 0))) (x_pick_f (.tmp rfl (cVb hc42)) (.tmp rfl rfl)) ?_
 refine st (v:=.bool (decide ((((n7:Nat):Int):Int) = 0))) (x_pick_t (.tmp rfl (cVb hc41)) (.tmp rfl rfl)) ?_
 refine st (v:=.bool (decide ((((n7:Nat):Int):Int) = 0))) (x_assign (.tmp rfl rfl)) ?_
 refine c_nil (n_then (c_ret (leave_ret (res_one (v:=.bool (decide ((((n7:Nat):Int):Int) = 0))) rfl (.mk rfl rfl)) ?_)))
 have hans45:sForm s = (decide ((((n7:Nat):Int):Int) = 0)):=(sForm_end ha (by omega)).trans (by rw [hc39,Bool.true_and]; first | exact decide_eq_true (by omega) | exact decide_eq_false (by omega) | exact decide_eq_decide.2 (by omega))
 rw [hans45]
 exact ⟨rfl,hs38.drop⟩
 have hp44:¬ ((s.Floor:Int) = 0):=of_decide_eq_false hc44
 refine g_no (yk 49 false rfl rfl hc44) rfl ?_
 refine g_no (yk 49 false rfl rfl hc44) rfl ?_
 refine g_no (yk 49 false rfl rfl hc44) rfl ?_
 refine g_no (yk 49 false rfl rfl hc44) rfl ?_
 refine g_yes (yk 45 false rfl rfl hc42) ?_
 refine st (v:=.bool false) (x_pick_f (.tmp rfl (cVb hc44)) .const) ?_
 refine g_yes (yk 40 true rfl rfl hc41) ?_
 refine st (v:=.bool false) (x_pick_f (.tmp rfl (cVb hc42)) (.tmp rfl rfl)) ?_
 refine st (v:=.bool false) (x_pick_t (.tmp rfl (cVb hc41)) (.tmp rfl rfl)) ?_
 refine st (v:=.bool false) (x_assign (.tmp rfl rfl)) ?_
 refine c_nil (n_then (c_ret (leave_ret (res_one (v:=.bool false) rfl (.mk rfl rfl)) ?_)))
 have hans46:sForm s = false:=(sForm_end ha (by omega)).trans (by rw [hc39,Bool.true_and]; first | exact decide_eq_true (by omega) | exact decide_eq_false (by omega) | exact decide_eq_decide.2 (by omega))
 rw [hans46]
 exact ⟨rfl,hs38.drop⟩
 have hp41:¬ ((s.Floor:Int) ≤ 1073741824):=of_decide_eq_false hc41
 refine g_no (yk 40 false rfl rfl hc41) rfl ?_
 refine g_no (yk 40 false rfl rfl hc41) rfl ?_
 refine g_no (yk 40 false rfl rfl hc41) rfl ?_
 refine g_no (yk 40 false rfl rfl hc41) rfl ?_
 refine g_no (yk 40 false rfl rfl hc41) rfl ?_
 refine g_no0 (yn (dj:=45) rfl rfl) ?_
 refine g_no0 (yn (dj:=45) rfl rfl) ?_
 refine g_no0 (yn (dj:=45) rfl rfl) ?_
 refine g_no0 (yn (dj:=45) rfl rfl) ?_
 refine g_no0 (yn (dj:=49) rfl rfl) ?_
 refine g_no0 (yn (dj:=49) rfl rfl) ?_
 refine g_no0 (yn (dj:=49) rfl rfl) ?_
 refine g_no0 (yn (dj:=49) rfl rfl) ?_
 refine g_no0 (yn (dj:=45) rfl rfl) ?_
 refine g_no (yk 40 false rfl rfl hc41) rfl ?_
 refine st (v:=.bool false) (x_pick_f (.tmp rfl (cVb hc41)) .const) ?_
 refine st (v:=.bool false) (x_assign (.tmp rfl rfl)) ?_
 refine c_nil (n_then (c_ret (leave_ret (res_one (v:=.bool false) rfl (.mk rfl rfl)) ?_)))
 have hans47:sForm s = false:=(sForm_end ha (by omega)).trans (by rw [hc39,Bool.true_and]; first | exact decide_eq_true (by omega) | exact decide_eq_false (by omega) | exact decide_eq_decide.2 (by omega))
 rw [hans47]
 exact ⟨rfl,hs38.drop⟩
 have hp40:¬ ((0:Int) ≤ s.Floor):=of_decide_eq_false hc40
 refine g_no (yk 35 false rfl rfl hc40) rfl ?_
 refine g_no (yk 35 false rfl rfl hc40) rfl ?_
 refine g_no (yk 35 false rfl rfl hc40) rfl ?_
 refine st (v:=.bool false) (x_pick_f (.tmp rfl (cVb hc40)) .const) ?_
 refine st (v:=.bool false) (x_move (.tmp rfl rfl)) ?_
 refine g_no (yl (dj:=40) (b:=false) rfl rfl rfl) rfl ?_
 refine g_no (yl (dj:=40) (b:=false) rfl rfl rfl) rfl ?_
 refine g_no (yl (dj:=40) (b:=false) rfl rfl rfl) rfl ?_
 refine g_no (yl (dj:=40) (b:=false) rfl rfl rfl) rfl ?_
 refine g_no (yl (dj:=40) (b:=false) rfl rfl rfl) rfl ?_
 refine g_no0 (yn (dj:=45) rfl rfl) ?_
 refine g_no0 (yn (dj:=45) rfl rfl) ?_
 refine g_no0 (yn (dj:=45) rfl rfl) ?_
 refine g_no0 (yn (dj:=45) rfl rfl) ?_
 refine g_no0 (yn (dj:=49) rfl rfl) ?_
 refine g_no0 (yn (dj:=49) rfl rfl) ?_
 refine g_no0 (yn (dj:=49) rfl rfl) ?_
 refine g_no0 (yn (dj:=49) rfl rfl) ?_
 refine g_no0 (yn (dj:=45) rfl rfl) ?_
 refine g_no (yl (dj:=40) (b:=false) rfl rfl rfl) rfl ?_
 refine st (v:=.bool false) (x_pick_f (.tmp rfl rfl) .const) ?_
 refine st (v:=.bool false) (x_assign (.tmp rfl rfl)) ?_
 refine c_nil (n_then (c_ret (leave_ret (res_one (v:=.bool false) rfl (.mk rfl rfl)) ?_)))
 have hans48:sForm s = false:=(sForm_end ha (by omega)).trans (by rw [hc39,Bool.true_and]; first | exact decide_eq_true (by omega) | exact decide_eq_false (by omega) | exact decide_eq_decide.2 (by omega))
 rw [hans48]
 exact ⟨rfl,hs38.drop⟩
 refine g_no (yk 30 false rfl rfl hc39) rfl ?_
 refine g_no (yk 30 false rfl rfl hc39) rfl ?_
 refine g_no (yk 30 false rfl rfl hc39) rfl ?_
 refine st (v:=.bool false) (x_pick_f (.tmp rfl (cVb hc39)) .const) ?_
 refine st (v:=.bool false) (x_move (.tmp rfl rfl)) ?_
 refine g_no (yl (dj:=35) (b:=false) rfl rfl rfl) rfl ?_
 refine g_no (yl (dj:=35) (b:=false) rfl rfl rfl) rfl ?_
 refine g_no (yl (dj:=35) (b:=false) rfl rfl rfl) rfl ?_
 refine st (v:=.bool false) (x_pick_f (.tmp rfl rfl) .const) ?_
 refine st (v:=.bool false) (x_move (.tmp rfl rfl)) ?_
 refine g_no (yl (dj:=40) (b:=false) rfl rfl rfl) rfl ?_
 refine g_no (yl (dj:=40) (b:=false) rfl rfl rfl) rfl ?_
 refine g_no (yl (dj:=40) (b:=false) rfl rfl rfl) rfl ?_
 refine g_no (yl (dj:=40) (b:=false) rfl rfl rfl) rfl ?_
 refine g_no (yl (dj:=40) (b:=false) rfl rfl rfl) rfl ?_
 refine g_no0 (yn (dj:=45) rfl rfl) ?_
 refine g_no0 (yn (dj:=45) rfl rfl) ?_
 refine g_no0 (yn (dj:=45) rfl rfl) ?_
 refine g_no0 (yn (dj:=45) rfl rfl) ?_
 refine g_no0 (yn (dj:=49) rfl rfl) ?_
 refine g_no0 (yn (dj:=49) rfl rfl) ?_
 refine g_no0 (yn (dj:=49) rfl rfl) ?_
 refine g_no0 (yn (dj:=49) rfl rfl) ?_
 refine g_no0 (yn (dj:=45) rfl rfl) ?_
 refine g_no (yl (dj:=40) (b:=false) rfl rfl rfl) rfl ?_
 refine st (v:=.bool false) (x_pick_f (.tmp rfl rfl) .const) ?_
 refine st (v:=.bool false) (x_assign (.tmp rfl rfl)) ?_
 refine c_nil (n_then (c_ret (leave_ret (res_one (v:=.bool false) rfl (.mk rfl rfl)) ?_)))
 have hans49:sForm s = false:=(sForm_end ha (by omega)).trans (by rw [hc39]; rfl)
 rw [hans49]
 exact ⟨rfl,hs38.drop⟩
end Go.Proofs.Ytlfihfmmhhcigaa

set_option linter.unusedVariables false
set_option linter.unusedSimpArgs false
namespace Go.Proofs.Ytlfihfmmhhcigaa
open Go Go.FM Go.Proofs
attribute [local irreducible] wpList wpQuiet wpS Code.wp Calls
set_option maxHeartbeats 8000000 in
theorem bytes_enc {H:Hp} {w:World} {L:List Res} {v_p:Value} {p:List Nat} (hs:St H w (row 5 1 v_p p.length (p.map encB)::L)) (sm_p:Small p) (ok_p:RowOk 1 v_p p.length (p.map encB)) {A_b:Option Addr} {n_b c_b:Nat} (b:List Nat) (h_b:By H A_b n_b c_b b) (hb:p.length + (bytesE b).length ≤ 140737488355300):Calls Try.prog 26 #[v_p,.slice A_b n_b c_b] w (fun e w' => ∃ (v0:Value),e = .returned (v0)∧Small (p ++ bytesE b)∧RowOk 1 v0 (p ++ bytesE b).length ((p ++ bytesE b).map encB)∧St H w' (row 5 1 v0 (p ++ bytesE b).length ((p ++ bytesE b).map encB)::L)):=by
 have hbl:(bytesE b).length = (uenc n_b).length + n_b:=by unfold bytesE; rw [List.length_append,show b.length = n_b from h_b.len]
 have:=h_b.len; have:=h_b.le; have:=h_b.bnd
 refine enter (args:=[v_p,.slice A_b n_b c_b]) (N:=12) Try.func26 rfl rfl rfl ?_
 refine c_seq (c_region (st (v:=.slice none 0 0) (x_assign .const) ?_))
 refine c_nil (n_then (c_seq (c_region (st (v:=v_p) (x_move (.tmp rfl rfl)) ?_))))
 refine st (v:=.slice A_b n_b c_b) (x_move (.tmp rfl rfl)) ?_
 refine st (v:=.int .i64 ((n_b:Nat):Int)) (x_len (n:=n_b) Try.underlying33 (.tmp rfl rfl)) ?_
 have hb1:n_b < 18446744073709551616:=by omega
 refine st (v:=.int .u64 ((n_b:Nat):Int)) (x_conv (k:=.i64) (a:=((n_b:Nat):Int)) Try.underlying3 Try.underlying22 (.tmp rfl rfl) (wU rfl rfl hb1)) ?_
 have h10b:=uenc_len10 (show n_b < 18446744073709551616 by omega)
 refine st_c cb56 .func (evs2 (.tmp rfl rfl) (.tmp rfl rfl)) (uint_spec hs ok_p sm_p n_b (by omega) hb1) ?_
 rintro e w3 ⟨v2,rfl,ok4,hs5⟩
 refine ⟨_,rfl,?_⟩
 refine st (v:=.slice A_b n_b c_b) (x_move (.tmp rfl rfl)) ?_
 refine st_m (m_appBs Try.underlying33 inf5 hs5 ok4 (.tmp rfl rfl) (.tmp rfl rfl) h_b.toBs (by omega)) ?_
 rintro v6 w7 ⟨ok8,hs9⟩
 refine st (v:=v6) (x_assign (.tmp rfl rfl)) ?_
 refine c_nil (n_then (c_ret (leave_ret (res_one (v:=v6) rfl (.mk rfl rfl)) ?_)))
 have hl10:((p ++ uenc n_b) ++ b) = p ++ bytesE b:=(by unfold bytesE; rw [show b.length = n_b from h_b.len]; simp [List.append_assoc])
 obtain ⟨hs11,ok12⟩:=St.relist hs9 ok8 hl10
 have sm13:Small (p ++ bytesE b):=by rw [← hl10]; exact ((sm_p.append (uenc_small _)).append h_b.toBs.lt)
 exact ⟨v6,rfl,sm13,(by simpa using ok12),hs11⟩
set_option maxHeartbeats 8000000 in
theorem videnc_spec {H:Hp} {w:World} {L:List Res} {v_p:Value} {p:List Nat} (hs:St H w (row 5 1 v_p p.length (p.map encB)::L)) (sm_p:Small p) (ok_p:RowOk 1 v_p p.length (p.map encB)) (v:GViewID) {k_v:List Value} (h_v:kViewID.rep H v k_v) (hb:p.length + (vidE v).length ≤ 140737488355300):Calls Try.prog 55 #[v_p,.agg k_v.toArray] w (fun e w' => ∃ (v0:Value),e = .returned (.tuple #[v0,.int .i64 ((encV p v).2)])∧Small ((encV p v).1)∧RowOk 1 v0 ((encV p v).1).length (((encV p v).1).map encB)∧St H w' (row 5 1 v0 ((encV p v).1).length (((encV p v).1).map encB)::L)):=by
 have hbl:(vidE v).length = (uenc v.N).length + 1:=by unfold vidE; rw [List.length_append]; rfl
 obtain ⟨rfl,b1,⟨b2,b3⟩⟩:=h_v
 refine enter (args:=[v_p,.agg #[.int .u64 ((v.N:Nat):Int),.int .i64 v.P]]) (N:=18) Try.func55 rfl rfl rfl ?_
 refine c_seq (c_region (st_m (m_box (cs:=[.int .u64 ((v.N:Nat):Int),.int .i64 v.P]) hs (v:=.agg #[.int .u64 ((v.N:Nat):Int),.int .i64 v.P]) (.tmp rfl rfl) rfl) ?_))
 rintro _ w5 ⟨g4,rfl,hs7⟩
 refine st (v:=.slice none 0 0) (x_assign .const) ?_
 refine st (v:=.int .i64 0) (x_assign .const) ?_
 refine c_nil (n_then (c_seq (c_seq (c_region (st (v:=.agg #[.int .u64 ((v.N:Nat):Int),.int .i64 v.P]) (ld24 (cs:=[.int .u64 ((v.N:Nat):Int),.int .i64 v.P]) (.tmp rfl rfl) (hs7.at_ 0 rfl (0) rfl) rfl) ?_)))))
 refine st_c cb61 .func (evs1 (.tmp rfl rfl)) (form_spec hs7 v.N v.P) ?_
 rintro e w8 ⟨rfl,hs9⟩
 refine ⟨_,rfl,?_⟩
 refine st (v:=.bool (!(formV v.N v.P))) (x_not (.tmp rfl rfl)) ?_
 refine c_nil (n_then ?_)
 rcases Bool.eq_false_or_eq_true (formV v.N v.P) with hc10 | hc10
 refine c_cond_f (t:=false) (.tmp rfl (cVb (by rw [hc10]; rfl))) rfl ?_
 refine c_skip (n_then (c_seq (t_region (L:=obj g4 24 [.int .u64 ((v.N:Nat):Int),.int .i64 v.P]::row 5 1 v_p p.length (p.map encB)::L) (L':=obj g4 24 [.int .u64 ((v.N:Nat):Int),.int .i64 v.P]::L) (Z:=[8]) (F:=[]) (pl:=(.q 0 (.q 1 (.q 2 (.q 4 (.q 5 (.q 6 (.two 3 (.e 7 (.e 8 (.q 9 (.q 10 .done)))) 7 (.e 3 (.e 8 (.q 9 (.q 10 .done)))))))))))) mixed hs9 (fun u hu => (hu.p1).drop) (by kernel_rfl) ?_)))
 intro w11 hs12
 refine t_st (k:=0) (v:=v_p) rfl rfl (fun w hs => (x_move (.tmp rfl rfl))) ?_
 refine t_st (k:=1) (v:=.pointer (some ⟨g4,0 + 0,none⟩)) rfl rfl (fun w hs => (fa24_0 (.tmp rfl rfl))) ?_
 refine t_st (k:=2) (v:=.int .u64 ((v.N:Nat):Int)) rfl rfl (fun w hs => (ld22 (.tmp rfl rfl) (hs.cell 0 rfl (0 + 0) rfl))) ?_
 refine t_st (k:=4) (v:=.pointer (some ⟨g4,0 + 1,none⟩)) rfl rfl (fun w hs => (fa24_1 (.tmp rfl rfl))) ?_
 refine t_st (k:=5) (v:=.int .i64 v.P) rfl rfl (fun w hs => (ld3 (.tmp rfl rfl) (hs.cell 0 rfl (0 + 1) rfl))) ?_
 refine t_st (k:=6) (v:=.int .u8 (((v.P % 256).toNat:Nat):Int)) rfl rfl (fun w hs => (x_conv (k:=.i64) (a:=v.P) Try.underlying3 Try.underlying5 (.tmp rfl rfl) (wrapU _ rfl _))) ?_
 refine t_two ?_ ?_
 refine t_eff (k:=3) rfl ?_
 have hs13:=hs12.p1
 refine st_c cb56 .func (evs2 (.tmp rfl rfl) (.tmp rfl rfl)) (uint_spec hs13 ok_p sm_p v.N (by omega) b1) ?_
 rintro e w15 ⟨v14,rfl,ok16,hs17⟩
 refine ⟨_,rfl,?_⟩
 refine t_on (S':=fun u => St H u (obj g4 24 [.int .u64 ((v.N:Nat):Int),.int .i64 v.P]::L)) (fun u hu => hu) hs17.drop ?_
 refine t_eff (k:=7) rfl ?_
 refine st_m (m_lit (n:=1) (ps:=[(0,.int .u8 (((v.P % 256).toNat:Nat):Int))]) (cs:=[.int .u8 (((v.P % 256).toNat:Nat):Int)]) Try.underlying33 inf5 (.cons (.tmp rfl rfl) Evp.nil) (by decide) (by decide) rfl rfl hs17) ?_
 rintro _ w19 ⟨g18,rfl,hs21⟩
 refine t_on (S':=fun u => St H u (obj g18 5 [.int .u8 (((v.P % 256).toNat:Nat):Int)]::obj g4 24 [.int .u64 ((v.N:Nat):Int),.int .i64 v.P]::L)) (fun u hu => hu.drop) (hs21.p1).drop ?_
 refine t_eff (k:=8) rfl ?_
 have hs22:=hs21.p1
 refine st_m (m_appAt (bs:=[((v.P % 256).toNat)]) Try.underlying33 inf5 hs22 ok16 (.tmp rfl rfl) (.tmp rfl rfl) rfl (hs22.at_ 1 rfl 0 rfl) (by omega)) ?_
 rintro v23 w24 ⟨ok25,hs26⟩
 refine t_new (S':=fun u => St H u (row 5 1 v23 ((p.length + (uenc v.N).length) + 1) (((p ++ uenc v.N) ++ [((v.P % 256).toNat)]).map encB)::obj g18 5 [.int .u8 (((v.P % 256).toNat:Nat):Int)]::obj g4 24 [.int .u64 ((v.N:Nat):Int),.int .i64 v.P]::L)) rfl hs26 ?_
 refine t_st (k:=9) (v:=v23) rfl rfl (fun w hs => (x_assign (.tmp rfl rfl))) ?_
 refine t_st (k:=10) (v:=.int .i64 0) rfl rfl (fun w hs => (x_assign .const)) ?_
 refine t_nil ?_
 refine n_then (c_ret (leave_ret (res_two (v:=v23) (u:=.int .i64 0) rfl (.mk rfl rfl) (.mk rfl rfl)) ?_))
 have hl27:((p ++ uenc v.N) ++ [((v.P % 256).toNat)]) = (encV p v).1:=(by rw [encV_yes hc10]; unfold vidE; simp [List.append_assoc])
 obtain ⟨hs28,ok29⟩:=St.relist hs26 ok25 hl27
 have sm30:Small ((encV p v).1):=by rw [← hl27]; exact ((sm_p.append (uenc_small _)).append (Small.cons (by omega) Small.nil))
 have hans31:(encV p v).2 = 0:=by rw [encV_yes hc10]
 rw [hans31]
 exact ⟨v23,rfl,sm30,(by simpa using ok29),((hs28.p1).drop.p1).drop⟩
 refine t_eff (k:=7) rfl ?_
 refine st_m (m_lit (n:=1) (ps:=[(0,.int .u8 (((v.P % 256).toNat:Nat):Int))]) (cs:=[.int .u8 (((v.P % 256).toNat:Nat):Int)]) Try.underlying33 inf5 (.cons (.tmp rfl rfl) Evp.nil) (by decide) (by decide) rfl rfl hs12) ?_
 rintro _ w33 ⟨g32,rfl,hs35⟩
 refine t_on (S':=fun u => St H u (obj g32 5 [.int .u8 (((v.P % 256).toNat:Nat):Int)]::obj g4 24 [.int .u64 ((v.N:Nat):Int),.int .i64 v.P]::L)) (fun u hu => hu.drop) (hs35.p2).drop ?_
 refine t_eff (k:=3) rfl ?_
 have hs36:=hs35.p2
 refine st_c cb56 .func (evs2 (.tmp rfl rfl) (.tmp rfl rfl)) (uint_spec hs36 ok_p sm_p v.N (by omega) b1) ?_
 rintro e w38 ⟨v37,rfl,ok39,hs40⟩
 refine ⟨_,rfl,?_⟩
 refine t_on (S':=fun u => St H u (obj g32 5 [.int .u8 (((v.P % 256).toNat:Nat):Int)]::obj g4 24 [.int .u64 ((v.N:Nat):Int),.int .i64 v.P]::L)) (fun u hu => hu) hs40.drop ?_
 refine t_eff (k:=8) rfl ?_
 refine st_m (m_appAt (bs:=[((v.P % 256).toNat)]) Try.underlying33 inf5 hs40 ok39 (.tmp rfl rfl) (.tmp rfl rfl) rfl (hs40.at_ 1 rfl 0 rfl) (by omega)) ?_
 rintro v41 w42 ⟨ok43,hs44⟩
 refine t_new (S':=fun u => St H u (row 5 1 v41 ((p.length + (uenc v.N).length) + 1) (((p ++ uenc v.N) ++ [((v.P % 256).toNat)]).map encB)::obj g32 5 [.int .u8 (((v.P % 256).toNat:Nat):Int)]::obj g4 24 [.int .u64 ((v.N:Nat):Int),.int .i64 v.P]::L)) rfl hs44 ?_
 refine t_st (k:=9) (v:=v41) rfl rfl (fun w hs => (x_assign (.tmp rfl rfl))) ?_
 refine t_st (k:=10) (v:=.int .i64 0) rfl rfl (fun w hs => (x_assign .const)) ?_
 refine t_nil ?_
 refine n_then (c_ret (leave_ret (res_two (v:=v41) (u:=.int .i64 0) rfl (.mk rfl rfl) (.mk rfl rfl)) ?_))
 have hl45:((p ++ uenc v.N) ++ [((v.P % 256).toNat)]) = (encV p v).1:=(by rw [encV_yes hc10]; unfold vidE; simp [List.append_assoc])
 obtain ⟨hs46,ok47⟩:=St.relist hs44 ok43 hl45
 have sm48:Small ((encV p v).1):=by rw [← hl45]; exact ((sm_p.append (uenc_small _)).append (Small.cons (by omega) Small.nil))
 have hans49:(encV p v).2 = 0:=by rw [encV_yes hc10]
 rw [hans49]
 exact ⟨v41,rfl,sm48,(by simpa using ok47),((hs46.p1).drop.p1).drop⟩
 refine c_cond_t (t:=true) (.tmp rfl (cVb (by rw [hc10]; rfl))) rfl ?_
 refine c_seq (c_region (st (v:=.slice none 0 0) (x_assign .const) ?_))
 refine st (v:=.int .i64 3) (x_assign .const) ?_
 refine c_nil (n_then (c_ret (r_then (leave_ret (res_two (v:=.slice none 0 0) (u:=.int .i64 3) rfl (.mk rfl rfl) (.mk rfl rfl)) ?_))))
 rw [encV_no hc10]
 have hs50:St H _ (row 5 1 (.slice none 0 0) 0 ([].map encB)::obj g4 24 [.int .u64 ((v.N:Nat):Int),.int .i64 v.P]::row 5 1 v_p p.length (p.map encB)::L):=hs9.rowNil 5 1
 exact ⟨(.slice none 0 0),rfl,Small.nil,(by simpa using (RowOk.nil 1)),((hs50.p1).drop.p1).drop⟩
end Go.Proofs.Ytlfihfmmhhcigaa

set_option linter.unusedVariables false
set_option linter.unusedSimpArgs false
namespace Go.Proofs.Ytlfihfmmhhcigaa
open Go Go.FM Go.Proofs
attribute [local irreducible] wpList wpQuiet wpS Code.wp Calls
set_option maxHeartbeats 8000000 in
theorem num_spec {H:Hp} {w:World} {L:List Res} {g_q:Nat} {v_q:Value} {q:List Nat} {b_q:Bool} (hs:St H w (obj g_q 58 [v_q,.bool b_q]::row 5 1 v_q q.length (q.map encB)::L)) (sm_q:Small q) (ok_q:RowOk 1 v_q q.length (q.map encB)) (n:Nat) (b_n:n < 18446744073709551616) (hroom:q.length + (uenc n).length ≤ 140737488350000):Calls Try.prog 24 #[.pointer (some ⟨g_q,0,none⟩),.int .u64 ((n:Nat):Int)] w (fun e w' => ∃ (v_q':Value) (q':List Nat) (b_q':Bool),e = .returned (.tuple #[])∧Small q'∧RowOk 1 v_q' q'.length (q'.map encB)∧b_q' = (b_q || !true)∧(b_q' = false → q' = q ++ uenc n)∧q'.length ≤ q.length + (uenc n).length∧St H w' (obj g_q 58 [v_q',.bool b_q']::row 5 1 v_q' q'.length (q'.map encB)::L)):=by
 refine enter (args:=[.pointer (some ⟨g_q,0,none⟩),.int .u64 ((n:Nat):Int)]) (N:=13) Try.func24 rfl rfl rfl ?_
 refine c_region (st (v:=.pointer (some ⟨g_q,0,none⟩)) (x_move (.tmp rfl rfl)) ?_)
 refine st (v:=.pointer (some ⟨g_q,0,none⟩)) (x_move (.tmp rfl rfl)) ?_
 refine st (v:=.pointer (some ⟨g_q,0,none⟩)) (x_nilCheck (.tmp rfl rfl)) ?_
 refine st (v:=.pointer (some ⟨g_q,0 + 0,none⟩)) (fa58_0 (.tmp rfl rfl)) ?_
 refine st (v:=v_q) (ld33 (.tmp rfl rfl) (hs.cell 0 rfl (0 + 0) rfl)) ?_
 refine st (v:=.int .u64 ((n:Nat):Int)) (x_move (.tmp rfl rfl)) ?_
 have h10:=uenc_len10 b_n
 have hs1:=hs.p1
 refine st_c cb56 .func (evs2 (.tmp rfl rfl) (.tmp rfl rfl)) (uint_spec hs1 ok_q sm_q n (by omega) b_n) ?_
 rintro e w3 ⟨v2,rfl,ok4,hs5⟩
 refine ⟨_,rfl,?_⟩
 refine st (v:=.pointer (some ⟨g_q,0,none⟩)) (x_nilCheck (.tmp rfl rfl)) ?_
 refine st (v:=.pointer (some ⟨g_q,0 + 0,none⟩)) (fa58_0 (.tmp rfl rfl)) ?_
 obtain ⟨A6,c7,rfl,hc8⟩:=ok4.slice
 have hs9:=hs5.p1
 refine st_m0 (sto33 (cs':=[.slice A6 (q.length + (uenc n).length) c7,.bool b_q]) (i:=0 + 0) hs9 (v:=.slice A6 (q.length + (uenc n).length) c7) (.tmp rfl rfl) (.tmp rfl rfl) rfl (Nat.le_of_ble_eq_true rfl) one1 rfl) ?_
 rintro w10 hs12
 refine c_nil (leave_end (res_none rfl) ?_)
 have hs13:=hs12.p1
 have hl14:(q ++ uenc n) = (q ++ uenc n):=rfl
 obtain ⟨hs15,ok16⟩:=St.relist hs13 ok4 hl14
 have sm17:Small (q ++ uenc n):=by rw [← hl14]; exact (sm_q.append (uenc_small _))
 exact ⟨(.slice A6 (q.length + (uenc n).length) c7),(q ++ uenc n),b_q,rfl,sm17,ok16,(by simp),(fun _ => rfl),(by simp),(hs15.p1)⟩
set_option maxHeartbeats 8000000 in
theorem id_spec {H:Hp} {w:World} {L:List Res} {g_q:Nat} {v_q:Value} {q:List Nat} {b_q:Bool} (hs:St H w (obj g_q 58 [v_q,.bool b_q]::row 5 1 v_q q.length (q.map encB)::L)) (sm_q:Small q) (ok_q:RowOk 1 v_q q.length (q.map encB)) (v:GViewID) {k_v:List Value} (h_v:kViewID.rep H v k_v) (hroom:q.length + (vidE v).length ≤ 140737488350000):Calls Try.prog 23 #[.pointer (some ⟨g_q,0,none⟩),.agg k_v.toArray] w (fun e w' => ∃ (v_q':Value) (q':List Nat) (b_q':Bool),e = .returned (.tuple #[])∧Small q'∧RowOk 1 v_q' q'.length (q'.map encB)∧b_q' = (b_q || !formVI v)∧(b_q' = false → q' = q ++ vidE v)∧q'.length ≤ q.length + (vidE v).length∧St H w' (obj g_q 58 [v_q',.bool b_q']::row 5 1 v_q' q'.length (q'.map encB)::L)):=by
 obtain ⟨rfl,b1,⟨b2,b3⟩⟩:=h_v
 refine enter (args:=[.pointer (some ⟨g_q,0,none⟩),.agg #[.int .u64 ((v.N:Nat):Int),.int .i64 v.P]]) (N:=30) Try.func23 rfl rfl rfl ?_
 refine c_seq (c_region (st_m (m_box (cs:=[.int .u64 ((v.N:Nat):Int),.int .i64 v.P]) hs (v:=.agg #[.int .u64 ((v.N:Nat):Int),.int .i64 v.P]) (.tmp rfl rfl) rfl) ?_))
 rintro _ w5 ⟨g4,rfl,hs7⟩
 refine c_nil (n_then (c_seq (t_region (L:=obj g4 24 [.int .u64 ((v.N:Nat):Int),.int .i64 v.P]::obj g_q 58 [v_q,.bool b_q]::row 5 1 v_q q.length (q.map encB)::L) (L':=obj g4 24 [.int .u64 ((v.N:Nat):Int),.int .i64 v.P]::obj g_q 58 [v_q,.bool b_q]::row 5 1 v_q q.length (q.map encB)::L) (Z:=[5]) (F:=[]) (pl:=(.q 0 (.q 1 (.q 2 (.q 3 (.q 4 (.e 5 (.q 6 (.q 7 (.q 8 (.q 9 (.q 10 .done)))))))))))) mixed hs7 (fun u hu => hu) (by kernel_rfl) ?_)))
 intro w8 hs9
 refine t_st (k:=0) (v:=.pointer (some ⟨g_q,0,none⟩)) rfl rfl (fun w hs => (x_move (.tmp rfl rfl))) ?_
 refine t_st (k:=1) (v:=.pointer (some ⟨g_q,0,none⟩)) rfl rfl (fun w hs => (x_nilCheck (.tmp rfl rfl))) ?_
 refine t_st (k:=2) (v:=.pointer (some ⟨g_q,0 + 0,none⟩)) rfl rfl (fun w hs => (fa58_0 (.tmp rfl rfl))) ?_
 refine t_st (k:=3) (v:=v_q) rfl rfl (fun w hs => (ld33 (.tmp rfl rfl) (hs.cell 1 rfl (0 + 0) rfl))) ?_
 refine t_st (k:=4) (v:=.agg #[.int .u64 ((v.N:Nat):Int),.int .i64 v.P]) rfl rfl (fun w hs => (ld24 (cs:=[.int .u64 ((v.N:Nat):Int),.int .i64 v.P]) (.tmp rfl rfl) (hs.at_ 0 rfl (0) rfl) rfl)) ?_
 refine t_eff (k:=5) rfl ?_
 have hs10:=hs9.p2
 have hr11:kViewID.rep H v [.int .u64 ((v.N:Nat):Int),.int .i64 v.P]:=⟨rfl,b1,⟨b2,b3⟩⟩
 refine st_c cb55 .func (evs2 (.tmp rfl rfl) (.tmp rfl rfl)) (videnc_spec hs10 sm_q ok_q v hr11 (by omega)) ?_
 rintro e w12 ⟨v14,rfl,sm17,ok15,hs13⟩
 refine ⟨_,rfl,?_⟩
 refine t_new (S':=fun u => St H u (row 5 1 v14 (((encV q v).1).length) (((encV q v).1).map encB)::obj g4 24 [.int .u64 ((v.N:Nat):Int),.int .i64 v.P]::obj g_q 58 [v_q,.bool b_q]::L)) rfl hs13 ?_
 refine t_st (k:=6) (v:=.tuple #[v14,.int .i64 ((encV q v).2)]) rfl rfl (fun w hs => (x_move (.tmp rfl rfl))) ?_
 refine t_st (k:=7) (v:=v14) rfl rfl (fun w hs => (x_extract (.tmp rfl rfl) (i:=0) rfl)) ?_
 refine t_st (k:=8) (v:=.int .i64 ((encV q v).2)) rfl rfl (fun w hs => (x_extract (.tmp rfl rfl) (i:=1) rfl)) ?_
 refine t_st (k:=9) (v:=v14) rfl rfl (fun w hs => (x_assign (.tmp rfl rfl))) ?_
 refine t_st (k:=10) (v:=.int .i64 ((encV q v).2)) rfl rfl (fun w hs => (x_assign (.tmp rfl rfl))) ?_
 refine t_nil ?_
 refine n_then (c_region (st (v:=.pointer (some ⟨g_q,0,none⟩)) (x_move (.tmp rfl rfl)) ?_))
 refine st (v:=.pointer (some ⟨g_q,0,none⟩)) (x_move (.tmp rfl rfl)) ?_
 refine st (v:=v14) (x_move (.tmp rfl rfl)) ?_
 refine st (v:=.pointer (some ⟨g_q,0,none⟩)) (x_move (.tmp rfl rfl)) ?_
 refine st (v:=.pointer (some ⟨g_q,0,none⟩)) (x_nilCheck (.tmp rfl rfl)) ?_
 refine st (v:=.pointer (some ⟨g_q,0 + 1,none⟩)) (fa58_1 (.tmp rfl rfl)) ?_
 refine st (v:=.bool b_q) (ld4 (.tmp rfl rfl) (hs13.cell 2 rfl (0 + 1) rfl)) ?_
 refine st (v:=.bool b_q) (x_move (.tmp rfl rfl)) ?_
 rcases Bool.eq_false_or_eq_true b_q with hc18 | hc18
 refine g_no (yk 22 true rfl rfl hc18) rfl ?_
 refine g_no (yk 22 true rfl rfl hc18) rfl ?_
 refine st (v:=.bool true) (x_pick_t (.tmp rfl (cVb hc18)) .const) ?_
 refine st (v:=.pointer (some ⟨g_q,0,none⟩)) (x_nilCheck (.tmp rfl rfl)) ?_
 refine st (v:=.pointer (some ⟨g_q,0 + 0,none⟩)) (fa58_0 (.tmp rfl rfl)) ?_
 obtain ⟨A19,c20,rfl,hc21⟩:=ok15.slice
 have hs22:=hs13.p2
 refine st_m0 (sto33 (cs':=[.slice A19 (((encV q v).1).length) c20,.bool b_q]) (i:=0 + 0) hs22 (v:=.slice A19 (((encV q v).1).length) c20) (.tmp rfl rfl) (.tmp rfl rfl) rfl (Nat.le_of_ble_eq_true rfl) one1 rfl) ?_
 rintro w23 hs25
 refine st (v:=.pointer (some ⟨g_q,0,none⟩)) (x_nilCheck (.tmp rfl rfl)) ?_
 refine st (v:=.pointer (some ⟨g_q,0 + 1,none⟩)) (fa58_1 (.tmp rfl rfl)) ?_
 refine st_m0 (sto4 (cs':=[.slice A19 (((encV q v).1).length) c20,.bool true]) (i:=0 + 1) hs25 (v:=.bool true) (.tmp rfl rfl) (.tmp rfl rfl) rfl (Nat.le_of_ble_eq_true rfl) one1 rfl) ?_
 rintro w26 hs28
 refine c_nil (leave_end (res_none rfl) ?_)
 have hcv:formVI v = true ∨ formVI v = false:=by cases formVI v <;> simp
 exact ⟨(.slice A19 (((encV q v).1).length) c20),(encV q v).1,true,rfl,sm17,ok15,(vid_bad1 hc18),(fun h => absurd h (by decide)),vid_len,(((hs28.p2).drop.p1).p1)⟩
 refine g_yes (yk 22 false rfl rfl hc18) ?_
 refine st (v:=.int .i64 ((encV q v).2)) (x_move (.tmp rfl rfl)) ?_
 refine g_yes (yk 22 false rfl rfl hc18) ?_
 refine st (v:=.bool (decide ((((encV q v).2):Int) ≠ 0))) (x_neq (k:=.i64) (a:=((encV q v).2)) (b:=0) (.tmp rfl rfl) .const) ?_
 refine st (v:=.bool (decide ((((encV q v).2):Int) ≠ 0))) (x_pick_f (.tmp rfl (cVb hc18)) (.tmp rfl rfl)) ?_
 refine st (v:=.pointer (some ⟨g_q,0,none⟩)) (x_nilCheck (.tmp rfl rfl)) ?_
 refine st (v:=.pointer (some ⟨g_q,0 + 0,none⟩)) (fa58_0 (.tmp rfl rfl)) ?_
 obtain ⟨A29,c30,rfl,hc31⟩:=ok15.slice
 have hs32:=hs13.p2
 refine st_m0 (sto33 (cs':=[.slice A29 (((encV q v).1).length) c30,.bool b_q]) (i:=0 + 0) hs32 (v:=.slice A29 (((encV q v).1).length) c30) (.tmp rfl rfl) (.tmp rfl rfl) rfl (Nat.le_of_ble_eq_true rfl) one1 rfl) ?_
 rintro w33 hs35
 refine st (v:=.pointer (some ⟨g_q,0,none⟩)) (x_nilCheck (.tmp rfl rfl)) ?_
 refine st (v:=.pointer (some ⟨g_q,0 + 1,none⟩)) (fa58_1 (.tmp rfl rfl)) ?_
 refine st_m0 (sto4 (cs':=[.slice A29 (((encV q v).1).length) c30,.bool (decide ((((encV q v).2):Int) ≠ 0))]) (i:=0 + 1) hs35 (v:=.bool (decide ((((encV q v).2):Int) ≠ 0))) (.tmp rfl rfl) (.tmp rfl rfl) rfl (Nat.le_of_ble_eq_true rfl) one1 rfl) ?_
 rintro w36 hs38
 refine c_nil (leave_end (res_none rfl) ?_)
 have hcv:formVI v = true ∨ formVI v = false:=by cases formVI v <;> simp
 exact ⟨(.slice A29 (((encV q v).1).length) c30),(encV q v).1,(decide ((((encV q v).2):Int) ≠ 0)),rfl,sm17,ok15,(vid_bad2 hc18),vid_list,vid_len,(((hs38.p2).drop.p1).p1)⟩
end Go.Proofs.Ytlfihfmmhhcigaa
