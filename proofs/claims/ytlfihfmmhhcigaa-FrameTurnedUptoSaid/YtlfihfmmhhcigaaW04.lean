/- Steps of the proofs over the functions of this seat, printed by a program (gen.py) and checked by Lean. -/
import Derived.Test.YtlfihfmmhhcigaaW03
import Derived.Test.YtlfihfmmhhcigaaW01
import Derived.Test.YtlfihfmmhhcigaaW00
import Derived.Test.YtlfihfmmhhcigaaW02
set_option linter.unusedVariables false
set_option linter.unusedSimpArgs false
namespace Go.Proofs.Ytlfihfmmhhcigaa
open Go Go.FM Go.Proofs
attribute [local irreducible] wpList wpQuiet wpS Code.wp Calls
set_option maxHeartbeats 8000000 in
theorem newReader_spec {H:Hp} {w:World} {L:List Res} (hs:St H w L) {A:Option Addr} {n c:Nat}:Calls Try.prog 32 #[.slice A n c] w (fun e w' => ∃ g,e = .returned (.pointer (some ⟨g,0,none⟩))∧St H w' (obj g 98 [.slice A n c,.bool false]::L)):=by
 refine enter (args:=[.slice A n c]) (N:=6) Try.func32 rfl rfl rfl ?_
 refine c_seq (c_region (st (v:=.pointer none) (x_assign .const) ?_))
 refine c_nil (n_then (c_seq (c_region (st (v:=.slice A n c) (x_move (.tmp rfl rfl)) ?_))))
 refine st (v:=.agg #[.slice A n c,.bool false]) (bl98 (ps:=[(0,.slice A n c)]) (.cons (.tmp rfl rfl) Evp.nil) rfl) ?_
 refine st_m (m_box (cs:=[.slice A n c,.bool false]) hs (v:=.agg #[.slice A n c,.bool false]) (.tmp rfl rfl) rfl) ?_
 rintro _ w2 ⟨g1,rfl,hs4⟩
 refine st (v:=.pointer (some ⟨g1,0,none⟩)) (x_assign (.tmp rfl rfl)) ?_
 refine c_nil (n_then (c_ret (leave_ret (res_one (v:=.pointer (some ⟨g1,0,none⟩)) rfl (.mk rfl rfl)) ?_)))
 exact ⟨_,rfl,hs4⟩
set_option maxHeartbeats 8000000 in
theorem bad_own {H:Hp} {w:World} {L:List Res} {g:Nat} {A:Option Addr} {n c:Nat} {b:Bool} (hs:St H w (obj g 98 [.slice A n c,.bool b]::L)):Calls Try.prog 37 #[.pointer (some ⟨g,0,none⟩)] w (fun e w' => e = .returned (.bool b)∧St H w' (obj g 98 [.slice A n c,.bool b]::L)):=by
 refine enter (args:=[.pointer (some ⟨g,0,none⟩)]) (N:=11) Try.func37 rfl rfl rfl ?_
 refine c_seq (c_region (st (v:=.bool false) (x_assign .const) ?_))
 refine c_nil (n_then (c_seq (c_region (st (v:=.pointer (some ⟨g,0,none⟩)) (x_move (.tmp rfl rfl)) ?_))))
 refine st (v:=.bool false) (x_eqlP Try.underlying67 (.tmp rfl rfl) .const rfl) ?_
 refine st (v:=.bool false) (x_move (.tmp rfl rfl)) ?_
 refine g_yes (yl (dj:=5) (b:=false) rfl rfl rfl) ?_
 refine st (v:=.pointer (some ⟨g,0,none⟩)) (x_move (.tmp rfl rfl)) ?_
 refine g_yes (yl (dj:=5) (b:=false) rfl rfl rfl) ?_
 refine st (v:=.pointer (some ⟨g,0,none⟩)) (x_nilCheck (.tmp rfl rfl)) ?_
 refine g_yes (yl (dj:=5) (b:=false) rfl rfl rfl) ?_
 refine st (v:=.pointer (some ⟨g,0 + 1,none⟩)) (fa98_1 (.tmp rfl rfl)) ?_
 refine g_yes (yl (dj:=5) (b:=false) rfl rfl rfl) ?_
 refine st (v:=.bool b) (ld4 (.tmp rfl rfl) (hs.cell 0 rfl (0 + 1) rfl)) ?_
 refine st (v:=.bool b) (x_pick_f (.tmp rfl rfl) (.tmp rfl rfl)) ?_
 refine st (v:=.bool b) (x_assign (.tmp rfl rfl)) ?_
 refine c_nil (n_then (c_ret (leave_ret (res_one (v:=.bool b) rfl (.mk rfl rfl)) ?_)))
 exact ⟨rfl,hs⟩
set_option maxHeartbeats 8000000 in
theorem left_own {H:Hp} {w:World} {L:List Res} {g:Nat} {A:Option Addr} {n c:Nat} {b:Bool} (hs:St H w (obj g 98 [.slice A n c,.bool b]::L)):Calls Try.prog 40 #[.pointer (some ⟨g,0,none⟩)] w (fun e w' => e = .returned (.int .i64 (if b = true then 0 else ((n:Nat):Int)))∧St H w' (obj g 98 [.slice A n c,.bool b]::L)):=by
 refine enter (args:=[.pointer (some ⟨g,0,none⟩)]) (N:=16) Try.func40 rfl rfl rfl ?_
 refine c_seq (c_region (st (v:=.int .i64 0) (x_assign .const) ?_))
 refine c_nil (n_then (c_seq (c_seq (c_region (st (v:=.pointer (some ⟨g,0,none⟩)) (x_move (.tmp rfl rfl)) ?_)))))
 refine st (v:=.bool false) (x_eqlP Try.underlying67 (.tmp rfl rfl) .const rfl) ?_
 refine st (v:=.bool false) (x_move (.tmp rfl rfl)) ?_
 refine g_yes (yl (dj:=5) (b:=false) rfl rfl rfl) ?_
 refine st (v:=.pointer (some ⟨g,0,none⟩)) (x_move (.tmp rfl rfl)) ?_
 refine g_yes (yl (dj:=5) (b:=false) rfl rfl rfl) ?_
 refine st (v:=.pointer (some ⟨g,0,none⟩)) (x_nilCheck (.tmp rfl rfl)) ?_
 refine g_yes (yl (dj:=5) (b:=false) rfl rfl rfl) ?_
 refine st (v:=.pointer (some ⟨g,0 + 1,none⟩)) (fa98_1 (.tmp rfl rfl)) ?_
 refine g_yes (yl (dj:=5) (b:=false) rfl rfl rfl) ?_
 refine st (v:=.bool b) (ld4 (.tmp rfl rfl) (hs.cell 0 rfl (0 + 1) rfl)) ?_
 refine st (v:=.bool b) (x_pick_f (.tmp rfl rfl) (.tmp rfl rfl)) ?_
 refine c_nil (n_then ?_)
 rcases Bool.eq_false_or_eq_true b with hc1 | hc1
 refine c_cond_t (t:=true) (.tmp rfl (cVb hc1)) rfl ?_
 refine c_seq (c_region (st (v:=.int .i64 0) (x_assign .const) ?_))
 refine c_nil (n_then (c_ret (r_then (leave_ret (res_one (v:=.int .i64 0) rfl (.mk rfl rfl)) ?_))))
 exact ⟨by rw [hc1]; rfl,hs⟩
 refine c_cond_f (t:=false) (.tmp rfl (cVb hc1)) rfl ?_
 refine c_skip (n_then (c_seq (c_region (st (v:=.pointer (some ⟨g,0,none⟩)) (x_move (.tmp rfl rfl)) ?_))))
 refine st (v:=.pointer (some ⟨g,0,none⟩)) (x_nilCheck (.tmp rfl rfl)) ?_
 refine st (v:=.pointer (some ⟨g,0 + 0,none⟩)) (fa98_0 (.tmp rfl rfl)) ?_
 refine st (v:=.slice A n c) (ld33 (.tmp rfl rfl) (hs.cell 0 rfl (0 + 0) rfl)) ?_
 refine st (v:=.int .i64 ((n:Nat):Int)) (x_len (n:=n) Try.underlying33 (.tmp rfl rfl)) ?_
 refine st (v:=.int .i64 ((n:Nat):Int)) (x_assign (.tmp rfl rfl)) ?_
 refine c_nil (n_then (c_ret (leave_ret (res_one (v:=.int .i64 ((n:Nat):Int)) rfl (.mk rfl rfl)) ?_)))
 exact ⟨by rw [hc1]; rfl,hs⟩
set_option maxHeartbeats 8000000 in
theorem uint_true {H:Hp} {w:World} {L:List Res} {g:Nat} {A:Option Addr} {n c:Nat} {bs:List Nat} (hp:Bs H A n c bs) (hs:St H w (obj g 98 [.slice A n c,.bool true]::L)):Calls Try.prog 36 #[.pointer (some ⟨g,0,none⟩)] w (fun e w' => ∃ A' n' c',e = .returned (.int .u64 (((rdU bs true).1:Nat):Int))∧Bs H A' n' c' (rdU bs true).2.1∧St H w' (obj g 98 [.slice A' n' c',.bool (rdU bs true).2.2]::L)):=by
 refine enter (args:=[.pointer (some ⟨g,0,none⟩)]) (N:=68) Try.func36 rfl rfl rfl ?_
 refine c_seq (c_region (st (v:=.int .u64 0) (x_assign .const) ?_))
 refine c_nil (n_then (c_seq (c_seq (c_region (st (v:=.pointer (some ⟨g,0,none⟩)) (x_move (.tmp rfl rfl)) ?_)))))
 refine st (v:=.bool false) (x_eqlP Try.underlying67 (.tmp rfl rfl) .const rfl) ?_
 refine st (v:=.bool false) (x_move (.tmp rfl rfl)) ?_
 refine g_yes (yl (dj:=8) (b:=false) rfl rfl rfl) ?_
 refine st (v:=.pointer (some ⟨g,0,none⟩)) (x_move (.tmp rfl rfl)) ?_
 refine g_yes (yl (dj:=8) (b:=false) rfl rfl rfl) ?_
 refine st (v:=.pointer (some ⟨g,0,none⟩)) (x_nilCheck (.tmp rfl rfl)) ?_
 refine g_yes (yl (dj:=8) (b:=false) rfl rfl rfl) ?_
 refine st (v:=.pointer (some ⟨g,0 + 1,none⟩)) (fa98_1 (.tmp rfl rfl)) ?_
 refine g_yes (yl (dj:=8) (b:=false) rfl rfl rfl) ?_
 refine st (v:=.bool true) (ld4 (.tmp rfl rfl) (hs.cell 0 rfl (0 + 1) rfl)) ?_
 refine st (v:=.bool true) (x_pick_f (.tmp rfl rfl) (.tmp rfl rfl)) ?_
 refine c_nil (n_then (c_cond_t (t:=true) (.tmp rfl rfl) rfl ?_))
 refine c_seq (c_region (st (v:=.int .u64 0) (x_assign .const) ?_))
 refine c_nil (n_then (c_ret (r_then (leave_ret (res_one (v:=.int .u64 0) rfl (.mk rfl rfl)) ?_))))
 exact ⟨_,_,_,rfl,hp,hs⟩
set_option maxHeartbeats 8000000 in
theorem uint_false {H:Hp} {w:World} {L:List Res} {g:Nat} {A:Option Addr} {n c:Nat} {bs:List Nat} (hp:Bs H A n c bs) (hs:St H w (obj g 98 [.slice A n c,.bool false]::L)):Calls Try.prog 36 #[.pointer (some ⟨g,0,none⟩)] w (fun e w' => ∃ A' n' c',e = .returned (.int .u64 (((rdU bs false).1:Nat):Int))∧Bs H A' n' c' (rdU bs false).2.1∧St H w' (obj g 98 [.slice A' n' c',.bool (rdU bs false).2.2]::L)):=by
 refine enter (args:=[.pointer (some ⟨g,0,none⟩)]) (N:=68) Try.func36 rfl rfl rfl ?_
 have hle:=hp.le
 have hlen:=hp.len
 have hmx:c ≤ 9223372036854775807:=hp.max
 refine c_seq (c_region (st (v:=.int .u64 0) (x_assign .const) ?_))
 refine c_nil (n_then (c_seq (c_seq (c_region (st (v:=.pointer (some ⟨g,0,none⟩)) (x_move (.tmp rfl rfl)) ?_)))))
 refine st (v:=.bool false) (x_eqlP Try.underlying67 (.tmp rfl rfl) .const rfl) ?_
 refine st (v:=.bool false) (x_move (.tmp rfl rfl)) ?_
 refine g_yes (yl (dj:=8) (b:=false) rfl rfl rfl) ?_
 refine st (v:=.pointer (some ⟨g,0,none⟩)) (x_move (.tmp rfl rfl)) ?_
 refine g_yes (yl (dj:=8) (b:=false) rfl rfl rfl) ?_
 refine st (v:=.pointer (some ⟨g,0,none⟩)) (x_nilCheck (.tmp rfl rfl)) ?_
 refine g_yes (yl (dj:=8) (b:=false) rfl rfl rfl) ?_
 refine st (v:=.pointer (some ⟨g,0 + 1,none⟩)) (fa98_1 (.tmp rfl rfl)) ?_
 refine g_yes (yl (dj:=8) (b:=false) rfl rfl rfl) ?_
 refine st (v:=.bool false) (ld4 (.tmp rfl rfl) (hs.cell 0 rfl (0 + 1) rfl)) ?_
 refine st (v:=.bool false) (x_pick_f (.tmp rfl rfl) (.tmp rfl rfl)) ?_
 refine c_nil (n_then (c_cond_f (t:=false) (.tmp rfl rfl) rfl ?_))
 refine c_skip (n_then (c_seq (c_region (st (v:=.int .u64 0) (x_assign .const) ?_))))
 refine c_nil (n_then (c_seq (c_seq (c_region (st (v:=.pointer (some ⟨g,0,none⟩)) (x_move (.tmp rfl rfl)) ?_)))))
 refine st (v:=.pointer (some ⟨g,0,none⟩)) (x_nilCheck (.tmp rfl rfl)) ?_
 refine st (v:=.pointer (some ⟨g,0 + 0,none⟩)) (fa98_0 (.tmp rfl rfl)) ?_
 refine st (v:=.slice A n c) (ld33 (.tmp rfl rfl) (hs.cell 0 rfl (0 + 0) rfl)) ?_
 refine st (v:=.int .i64 ((n:Nat):Int)) (x_len (n:=n) Try.underlying33 (.tmp rfl rfl)) ?_
 refine st (v:=.int .i64 0) (x_move .const) ?_
 refine c_nil (n_then (c_block (c_loop (fun ρ w mm => ∃ (i:Nat) (a:Nat),ρ 0 = .pointer (some ⟨g,0,none⟩)∧ρ 3 = .int .u64 ((a:Nat):Int)∧ρ 18 = .int .i64 ((n:Nat):Int)∧ρ 19 = .int .i64 ((i:Nat):Int)∧(i ≤ n)∧(i ≤ 9)∧(a < 18446744073709551616)∧(uscan 0 0 bs = uscan i a (bs.drop i))∧St H w (obj g 98 [.slice A n c,.bool false]::L)∧mm = n - i) _ ⟨0,0,rfl,rfl,rfl,rfl,(by omega),(by omega),(by decide),rfl,hs,rfl⟩ ?_)))
 rintro ρ w mm ⟨i,a,hρ2,hρ3,hρ4,hρ5,hi,h9,ha,hu,hs6,rfl⟩
 refine c_seq (c_region (st (v:=.bool (decide ((((i:Nat):Int):Int) < ((n:Nat):Int)))) (x_lss (k:=.i64) (a:=((i:Nat):Int)) (b:=((n:Nat):Int)) (.tmp rfl hρ5) (.tmp rfl hρ4)) ?_))
 refine c_nil (n_then (c_seq ?_))
 rcases Bool.eq_false_or_eq_true (decide ((((i:Nat):Int):Int) < ((n:Nat):Int))) with hc7 | hc7
 have hp7:(((i:Nat):Int):Int) < ((n:Nat):Int):=of_decide_eq_true hc7
 refine c_cond_t (t:=true) (.tmp rfl (cVb hc7)) rfl ?_
 refine c_skip (n_then (c_seq (c_block (c_seq (c_region (st (v:=.int .i64 ((i:Nat):Int)) (x_move (.tmp rfl hρ5)) ?_))))))
 refine st (v:=.int .i64 ((i:Nat):Int)) (x_assign (.tmp rfl rfl)) ?_
 refine c_nil (n_then (c_seq (c_region (st (v:=.pointer (some ⟨g,0,none⟩)) (x_move (.tmp rfl hρ2)) ?_))))
 refine st (v:=.pointer (some ⟨g,0,none⟩)) (x_nilCheck (.tmp rfl rfl)) ?_
 refine st (v:=.pointer (some ⟨g,0 + 0,none⟩)) (fa98_0 (.tmp rfl rfl)) ?_
 refine st (v:=.slice A n c) (ld33 (.tmp rfl rfl) (hs6.cell 0 rfl (0 + 0) rfl)) ?_
 refine st (v:=.int .i64 ((i:Nat):Int)) (x_move (.tmp rfl rfl)) ?_
 obtain ⟨b8,o9,hA10,hc11⟩:=hp.get (i:=i) (by omega)
 refine st (v:=.pointer (some ⟨b8,(o9 + i * 1),none⟩)) (ixo33 (.tmp rfl rfl) hA10 (i:=((i:Nat):Int)) (.tmp rfl rfl) (by omega) (by omega) rfl) ?_
 refine st (v:=.int .u8 ((bs.getD i 0:Nat):Int)) (ld5 (.tmp rfl rfl) (hc11 hs6)) ?_
 refine st (v:=.int .u8 ((bs.getD i 0:Nat):Int)) (x_assign (.tmp rfl rfl)) ?_
 refine c_nil (n_then (c_seq (c_seq (c_region (st (v:=.int .i64 ((i:Nat):Int)) (x_move (.tmp rfl rfl)) ?_)))))
 refine st (v:=.bool (decide ((((i:Nat):Int):Int) = 9))) (x_eql (k:=.i64) (a:=((i:Nat):Int)) (b:=9) (.tmp rfl rfl) .const) ?_
 refine st (v:=.bool (decide ((((i:Nat):Int):Int) = 9))) (x_move (.tmp rfl rfl)) ?_
 rcases Bool.eq_false_or_eq_true (decide ((((i:Nat):Int):Int) = 9)) with hc12 | hc12
 have hp12:(((i:Nat):Int):Int) = 9:=of_decide_eq_true hc12
 refine g_yes (yk 31 true rfl rfl hc12) ?_
 refine st (v:=.int .u8 ((bs.getD i 0:Nat):Int)) (x_move (.tmp rfl rfl)) ?_
 refine g_yes (yk 31 true rfl rfl hc12) ?_
 refine st (v:=.bool (decide ((1:Int) < ((bs.getD i 0:Nat):Int)))) (x_gtr (k:=.u8) (a:=((bs.getD i 0:Nat):Int)) (b:=1) (.tmp rfl rfl) .const) ?_
 refine st (v:=.bool (decide ((1:Int) < ((bs.getD i 0:Nat):Int)))) (x_pick_t (.tmp rfl (cVb hc12)) (.tmp rfl rfl)) ?_
 refine st (v:=.bool (decide ((1:Int) < ((bs.getD i 0:Nat):Int)))) (x_move (.tmp rfl rfl)) ?_
 rcases Bool.eq_false_or_eq_true (decide ((1:Int) < ((bs.getD i 0:Nat):Int))) with hc13 | hc13
 have hp13:(1:Int) < ((bs.getD i 0:Nat):Int):=of_decide_eq_true hc13
 refine g_no (yk 35 true rfl rfl hc13) rfl ?_
 refine g_no (yk 35 true rfl rfl hc13) rfl ?_
 refine g_no (yk 35 true rfl rfl hc13) rfl ?_
 refine g_no0 (yn (dj:=38) rfl rfl) ?_
 refine g_no0 (yn (dj:=38) rfl rfl) ?_
 refine g_no (yk 35 true rfl rfl hc13) rfl ?_
 refine st (v:=.bool true) (x_pick_t (.tmp rfl (cVb hc13)) .const) ?_
 refine c_nil (n_then (c_cond_t (t:=true) (.tmp rfl rfl) rfl ?_))
 refine c_exit (x_then (x_block rfl (x_then (x_then (x_here (n_then (c_seq (c_region (st (v:=.pointer (some ⟨g,0,none⟩)) (x_move (.tmp rfl hρ2)) ?_)))))))))
 refine st (v:=.pointer (some ⟨g,0,none⟩)) (x_nilCheck (.tmp rfl rfl)) ?_
 refine st (v:=.pointer (some ⟨g,0 + 1,none⟩)) (fa98_1 (.tmp rfl rfl)) ?_
 refine st_m0 (sto4 (cs':=[.slice A n c,.bool true]) (i:=0 + 1) hs6 (v:=.bool true) (.tmp rfl rfl) .const rfl (Nat.le_of_ble_eq_true rfl) one1 rfl) ?_
 rintro w14 hs16
 refine c_nil (n_then (c_seq (c_region (st (v:=.int .u64 0) (x_assign .const) ?_))))
 refine c_nil (n_then (c_ret (leave_ret (res_one (v:=.int .u64 0) rfl (.mk rfl rfl)) ?_)))
 have hf:uscan 0 0 bs = none:=hu.trans (by first | (rw [uscan_get (by omega),if_pos (by omega)]) | (rw [List.drop_eq_nil_of_le (by omega)]; rfl))
 rw [rdU_none hf]
 exact ⟨_,_,_,rfl,hp,hs16⟩
 have hp13:¬ ((1:Int) < ((bs.getD i 0:Nat):Int)):=of_decide_eq_false hc13
 refine g_yes (yk 35 false rfl rfl hc13) ?_
 refine st (v:=.int .i64 ((i:Nat):Int)) (x_move (.tmp rfl rfl)) ?_
 refine g_yes (yk 35 false rfl rfl hc13) ?_
 refine st (v:=.bool (decide ((0:Int) < ((i:Nat):Int)))) (x_gtr (k:=.i64) (a:=((i:Nat):Int)) (b:=0) (.tmp rfl rfl) .const) ?_
 refine g_yes (yk 35 false rfl rfl hc13) ?_
 refine st (v:=.bool (decide ((0:Int) < ((i:Nat):Int)))) (x_move (.tmp rfl rfl)) ?_
 rcases Bool.eq_false_or_eq_true (decide ((0:Int) < ((i:Nat):Int))) with hc17 | hc17
 have hp17:(0:Int) < ((i:Nat):Int):=of_decide_eq_true hc17
 refine g_yes (yk 38 true rfl rfl hc17) ?_
 refine st (v:=.int .u8 ((bs.getD i 0:Nat):Int)) (x_move (.tmp rfl rfl)) ?_
 refine g_yes (yk 38 true rfl rfl hc17) ?_
 refine st (v:=.bool (decide ((((bs.getD i 0:Nat):Int):Int) = 0))) (x_eql (k:=.u8) (a:=((bs.getD i 0:Nat):Int)) (b:=0) (.tmp rfl rfl) .const) ?_
 refine g_yes (yk 35 false rfl rfl hc13) ?_
 refine st (v:=.bool (decide ((((bs.getD i 0:Nat):Int):Int) = 0))) (x_pick_t (.tmp rfl (cVb hc17)) (.tmp rfl rfl)) ?_
 refine st (v:=.bool (decide ((((bs.getD i 0:Nat):Int):Int) = 0))) (x_pick_f (.tmp rfl (cVb hc13)) (.tmp rfl rfl)) ?_
 refine c_nil (n_then ?_)
 rcases Bool.eq_false_or_eq_true (decide ((((bs.getD i 0:Nat):Int):Int) = 0)) with hc18 | hc18
 have hp18:(((bs.getD i 0:Nat):Int):Int) = 0:=of_decide_eq_true hc18
 refine c_cond_t (t:=true) (.tmp rfl (cVb hc18)) rfl ?_
 refine c_exit (x_then (x_block rfl (x_then (x_then (x_here (n_then (c_seq (c_region (st (v:=.pointer (some ⟨g,0,none⟩)) (x_move (.tmp rfl hρ2)) ?_)))))))))
 refine st (v:=.pointer (some ⟨g,0,none⟩)) (x_nilCheck (.tmp rfl rfl)) ?_
 refine st (v:=.pointer (some ⟨g,0 + 1,none⟩)) (fa98_1 (.tmp rfl rfl)) ?_
 refine st_m0 (sto4 (cs':=[.slice A n c,.bool true]) (i:=0 + 1) hs6 (v:=.bool true) (.tmp rfl rfl) .const rfl (Nat.le_of_ble_eq_true rfl) one1 rfl) ?_
 rintro w19 hs21
 refine c_nil (n_then (c_seq (c_region (st (v:=.int .u64 0) (x_assign .const) ?_))))
 refine c_nil (n_then (c_ret (leave_ret (res_one (v:=.int .u64 0) rfl (.mk rfl rfl)) ?_)))
 have hf:uscan 0 0 bs = none:=hu.trans (by first | (rw [uscan_get (by omega),if_pos (by omega)]) | (rw [List.drop_eq_nil_of_le (by omega)]; rfl))
 rw [rdU_none hf]
 exact ⟨_,_,_,rfl,hp,hs21⟩
 have hp18:¬ ((((bs.getD i 0:Nat):Int):Int) = 0):=of_decide_eq_false hc18
 refine c_cond_f (t:=false) (.tmp rfl (cVb hc18)) rfl ?_
 refine c_skip (n_then (c_seq (c_region (st (v:=.int .u64 ((a:Nat):Int)) (x_move (.tmp rfl hρ3)) ?_))))
 refine st (v:=.int .u8 ((bs.getD i 0:Nat):Int)) (x_move (.tmp rfl rfl)) ?_
 have hb22:((bs.getD i 0) &&& 127) < 256:=Nat.lt_of_le_of_lt Nat.and_le_left (hp.lt.getD _)
 refine st (v:=.int .u8 ((((bs.getD i 0) &&& 127):Nat):Int)) (x_and (k:=.u8) (m:=(bs.getD i 0)) (n:=127) rfl (.tmp rfl rfl) .const (show _ < 2 ^ 8 from (hp.lt.getD _)) (show _ < 2 ^ 8 from (by decide))) ?_
 have hb23:((bs.getD i 0) &&& 127) < 18446744073709551616:=Nat.lt_of_lt_of_le hb22 (by decide)
 refine st (v:=.int .u64 ((((bs.getD i 0) &&& 127):Nat):Int)) (x_conv (k:=.u8) (a:=((((bs.getD i 0) &&& 127):Nat):Int)) Try.underlying5 Try.underlying22 (.tmp rfl rfl) (wU rfl rfl hb23)) ?_
 refine st (v:=.int .i64 ((i:Nat):Int)) (x_move (.tmp rfl rfl)) ?_
 refine st (v:=.int .i64 (((7 * i):Nat):Int)) (x_mul (k:=.i64) (a:=7) (b:=((i:Nat):Int)) .const (.tmp rfl rfl) ((w64 (by omega) (by omega)).trans (by omega))) ?_
 have hb24:(((bs.getD i 0) &&& 127) * 2 ^ (7 * i) % 18446744073709551616) < 18446744073709551616:=Nat.mod_lt _ (by decide)
 refine st (v:=.int .u64 (((((bs.getD i 0) &&& 127) * 2 ^ (7 * i) % 18446744073709551616):Nat):Int)) (x_shl (k:=.u64) (m:=((bs.getD i 0) &&& 127)) (b:=(((7 * i):Nat):Int)) rfl (.tmp rfl rfl) (.tmp rfl rfl) (by omega)) ?_
 have hb25:(a ||| (((bs.getD i 0) &&& 127) * 2 ^ (7 * i) % 18446744073709551616)) < 18446744073709551616:=Nat.or_lt_two_pow (n:=64) ha hb24
 refine st (v:=.int .u64 (((a ||| (((bs.getD i 0) &&& 127) * 2 ^ (7 * i) % 18446744073709551616)):Nat):Int)) (x_or (k:=.u64) (m:=a) (n:=(((bs.getD i 0) &&& 127) * 2 ^ (7 * i) % 18446744073709551616)) rfl (.tmp rfl rfl) (.tmp rfl rfl) (show _ < 2 ^ 64 from ha) (show _ < 2 ^ 64 from hb24)) ?_
 refine st (v:=.int .u64 (((a ||| (((bs.getD i 0) &&& 127) * 2 ^ (7 * i) % 18446744073709551616)):Nat):Int)) (x_assign (.tmp rfl rfl)) ?_
 refine c_nil (n_then (c_seq (c_region (st (v:=.int .u8 ((bs.getD i 0:Nat):Int)) (x_move (.tmp rfl rfl)) ?_))))
 refine st (v:=.bool (decide ((((bs.getD i 0:Nat):Int):Int) < 128))) (x_lss (k:=.u8) (a:=((bs.getD i 0:Nat):Int)) (b:=128) (.tmp rfl rfl) .const) ?_
 refine c_nil (n_then ?_)
 rcases Bool.eq_false_or_eq_true (decide ((((bs.getD i 0:Nat):Int):Int) < 128)) with hc26 | hc26
 have hp26:(((bs.getD i 0:Nat):Int):Int) < 128:=of_decide_eq_true hc26
 refine c_cond_t (t:=true) (.tmp rfl (cVb hc26)) rfl ?_
 refine c_seq (c_region (st (v:=.pointer (some ⟨g,0,none⟩)) (x_move (.tmp rfl hρ2)) ?_))
 refine st (v:=.pointer (some ⟨g,0,none⟩)) (x_move (.tmp rfl hρ2)) ?_
 refine st (v:=.pointer (some ⟨g,0,none⟩)) (x_nilCheck (.tmp rfl rfl)) ?_
 refine st (v:=.pointer (some ⟨g,0 + 0,none⟩)) (fa98_0 (.tmp rfl rfl)) ?_
 refine st (v:=.slice A n c) (ld33 (.tmp rfl rfl) (hs6.cell 0 rfl (0 + 0) rfl)) ?_
 refine st (v:=.int .i64 ((i:Nat):Int)) (x_move (.tmp rfl rfl)) ?_
 refine st (v:=.int .i64 (((i + 1):Nat):Int)) (x_add (k:=.i64) (a:=((i:Nat):Int)) (b:=1) (.tmp rfl rfl) .const ((w64 (by omega) (by omega)).trans (by omega))) ?_
 have:=hp.le
 refine st (v:=.slice (cutA A c (i + 1) 1) (n - (i + 1)) (c - (i + 1))) (bs_l Try.underlying33 inf5 (a:=(((i + 1):Nat):Int)) (.tmp rfl rfl) (.tmp rfl rfl) (by omega) (by omega) (by omega)) ?_
 refine st (v:=.pointer (some ⟨g,0,none⟩)) (x_nilCheck (.tmp rfl rfl)) ?_
 refine st (v:=.pointer (some ⟨g,0 + 0,none⟩)) (fa98_0 (.tmp rfl rfl)) ?_
 refine st_m0 (sto33 (cs':=[.slice (cutA A c (i + 1) 1) (n - (i + 1)) (c - (i + 1)),.bool false]) (i:=0 + 0) hs6 (v:=.slice (cutA A c (i + 1) 1) (n - (i + 1)) (c - (i + 1))) (.tmp rfl rfl) (.tmp rfl rfl) rfl (Nat.le_of_ble_eq_true rfl) one1 rfl) ?_
 rintro w27 hs29
 refine c_nil (n_then (c_seq (c_region (st (v:=.int .u64 (((a ||| (((bs.getD i 0) &&& 127) * 2 ^ (7 * i) % 18446744073709551616)):Nat):Int)) (x_move (.tmp rfl rfl)) ?_))))
 refine st (v:=.int .u64 (((a ||| (((bs.getD i 0) &&& 127) * 2 ^ (7 * i) % 18446744073709551616)):Nat):Int)) (x_assign (.tmp rfl rfl)) ?_
 refine c_nil (n_then (c_ret (r_block (r_then (r_then (r_block (r_then (leave_ret (res_one (v:=.int .u64 (((a ||| (((bs.getD i 0) &&& 127) * 2 ^ (7 * i) % 18446744073709551616)):Nat):Int)) rfl (.mk rfl rfl)) ?_))))))))
 have hf:uscan 0 0 bs = some ((a ||| (((bs.getD i 0) &&& 127) * 2 ^ (7 * i) % 18446744073709551616)),bs.drop (i + 1)):=hu.trans (by rw [uscan_get (by omega),if_neg (by omega),if_pos (by omega)])
 rw [rdU_some hf]
 exact ⟨_,_,_,rfl,(hp.drop (k:=(i + 1)) (by omega)),hs29⟩
 have hp26:¬ ((((bs.getD i 0:Nat):Int):Int) < 128):=of_decide_eq_false hc26
 refine c_cond_f (t:=false) (.tmp rfl (cVb hc26)) rfl ?_
 refine c_skip (n_block (n_then (c_region (st (v:=.int .i64 (((i:Nat):Int) + 1)) (x_add (k:=.i64) (a:=((i:Nat):Int)) (b:=1) (.tmp rfl hρ5) .const (w64 (by omega) (by omega))) ?_))))
 refine st (v:=.int .i64 (((i:Nat):Int) + 1)) (x_move (.tmp rfl rfl)) ?_
 refine c_nil ?_
 refine n_then ⟨_,_,rfl,?_,(i + 1),(a ||| (((bs.getD i 0) &&& 127) * 2 ^ (7 * i) % 18446744073709551616)),hρ2,rfl,hρ4,rfl,(by omega),(by omega),hb25,(hu.trans (by rw [uscan_get (by omega),if_neg (by omega),if_neg (by omega)])),hs6,rfl⟩
 omega
 have hp17:¬ ((0:Int) < ((i:Nat):Int)):=of_decide_eq_false hc17
 refine g_no (yk 38 false rfl rfl hc17) rfl ?_
 refine g_no (yk 38 false rfl rfl hc17) rfl ?_
 refine g_yes (yk 35 false rfl rfl hc13) ?_
 refine st (v:=.bool false) (x_pick_f (.tmp rfl (cVb hc17)) .const) ?_
 refine st (v:=.bool false) (x_pick_f (.tmp rfl (cVb hc13)) (.tmp rfl rfl)) ?_
 refine c_nil (n_then (c_cond_f (t:=false) (.tmp rfl rfl) rfl ?_))
 refine c_skip (n_then (c_seq (c_region (st (v:=.int .u64 ((a:Nat):Int)) (x_move (.tmp rfl hρ3)) ?_))))
 refine st (v:=.int .u8 ((bs.getD i 0:Nat):Int)) (x_move (.tmp rfl rfl)) ?_
 have hb30:((bs.getD i 0) &&& 127) < 256:=Nat.lt_of_le_of_lt Nat.and_le_left (hp.lt.getD _)
 refine st (v:=.int .u8 ((((bs.getD i 0) &&& 127):Nat):Int)) (x_and (k:=.u8) (m:=(bs.getD i 0)) (n:=127) rfl (.tmp rfl rfl) .const (show _ < 2 ^ 8 from (hp.lt.getD _)) (show _ < 2 ^ 8 from (by decide))) ?_
 have hb31:((bs.getD i 0) &&& 127) < 18446744073709551616:=Nat.lt_of_lt_of_le hb30 (by decide)
 refine st (v:=.int .u64 ((((bs.getD i 0) &&& 127):Nat):Int)) (x_conv (k:=.u8) (a:=((((bs.getD i 0) &&& 127):Nat):Int)) Try.underlying5 Try.underlying22 (.tmp rfl rfl) (wU rfl rfl hb31)) ?_
 refine st (v:=.int .i64 ((i:Nat):Int)) (x_move (.tmp rfl rfl)) ?_
 refine st (v:=.int .i64 (((7 * i):Nat):Int)) (x_mul (k:=.i64) (a:=7) (b:=((i:Nat):Int)) .const (.tmp rfl rfl) ((w64 (by omega) (by omega)).trans (by omega))) ?_
 have hb32:(((bs.getD i 0) &&& 127) * 2 ^ (7 * i) % 18446744073709551616) < 18446744073709551616:=Nat.mod_lt _ (by decide)
 refine st (v:=.int .u64 (((((bs.getD i 0) &&& 127) * 2 ^ (7 * i) % 18446744073709551616):Nat):Int)) (x_shl (k:=.u64) (m:=((bs.getD i 0) &&& 127)) (b:=(((7 * i):Nat):Int)) rfl (.tmp rfl rfl) (.tmp rfl rfl) (by omega)) ?_
 have hb33:(a ||| (((bs.getD i 0) &&& 127) * 2 ^ (7 * i) % 18446744073709551616)) < 18446744073709551616:=Nat.or_lt_two_pow (n:=64) ha hb32
 refine st (v:=.int .u64 (((a ||| (((bs.getD i 0) &&& 127) * 2 ^ (7 * i) % 18446744073709551616)):Nat):Int)) (x_or (k:=.u64) (m:=a) (n:=(((bs.getD i 0) &&& 127) * 2 ^ (7 * i) % 18446744073709551616)) rfl (.tmp rfl rfl) (.tmp rfl rfl) (show _ < 2 ^ 64 from ha) (show _ < 2 ^ 64 from hb32)) ?_
 refine st (v:=.int .u64 (((a ||| (((bs.getD i 0) &&& 127) * 2 ^ (7 * i) % 18446744073709551616)):Nat):Int)) (x_assign (.tmp rfl rfl)) ?_
 refine c_nil (n_then (c_seq (c_region (st (v:=.int .u8 ((bs.getD i 0:Nat):Int)) (x_move (.tmp rfl rfl)) ?_))))
 refine st (v:=.bool (decide ((((bs.getD i 0:Nat):Int):Int) < 128))) (x_lss (k:=.u8) (a:=((bs.getD i 0:Nat):Int)) (b:=128) (.tmp rfl rfl) .const) ?_
 refine c_nil (n_then ?_)
 rcases Bool.eq_false_or_eq_true (decide ((((bs.getD i 0:Nat):Int):Int) < 128)) with hc34 | hc34
 have hp34:(((bs.getD i 0:Nat):Int):Int) < 128:=of_decide_eq_true hc34
 refine c_cond_t (t:=true) (.tmp rfl (cVb hc34)) rfl ?_
 refine c_seq (c_region (st (v:=.pointer (some ⟨g,0,none⟩)) (x_move (.tmp rfl hρ2)) ?_))
 refine st (v:=.pointer (some ⟨g,0,none⟩)) (x_move (.tmp rfl hρ2)) ?_
 refine st (v:=.pointer (some ⟨g,0,none⟩)) (x_nilCheck (.tmp rfl rfl)) ?_
 refine st (v:=.pointer (some ⟨g,0 + 0,none⟩)) (fa98_0 (.tmp rfl rfl)) ?_
 refine st (v:=.slice A n c) (ld33 (.tmp rfl rfl) (hs6.cell 0 rfl (0 + 0) rfl)) ?_
 refine st (v:=.int .i64 ((i:Nat):Int)) (x_move (.tmp rfl rfl)) ?_
 refine st (v:=.int .i64 (((i + 1):Nat):Int)) (x_add (k:=.i64) (a:=((i:Nat):Int)) (b:=1) (.tmp rfl rfl) .const ((w64 (by omega) (by omega)).trans (by omega))) ?_
 have:=hp.le
 refine st (v:=.slice (cutA A c (i + 1) 1) (n - (i + 1)) (c - (i + 1))) (bs_l Try.underlying33 inf5 (a:=(((i + 1):Nat):Int)) (.tmp rfl rfl) (.tmp rfl rfl) (by omega) (by omega) (by omega)) ?_
 refine st (v:=.pointer (some ⟨g,0,none⟩)) (x_nilCheck (.tmp rfl rfl)) ?_
 refine st (v:=.pointer (some ⟨g,0 + 0,none⟩)) (fa98_0 (.tmp rfl rfl)) ?_
 refine st_m0 (sto33 (cs':=[.slice (cutA A c (i + 1) 1) (n - (i + 1)) (c - (i + 1)),.bool false]) (i:=0 + 0) hs6 (v:=.slice (cutA A c (i + 1) 1) (n - (i + 1)) (c - (i + 1))) (.tmp rfl rfl) (.tmp rfl rfl) rfl (Nat.le_of_ble_eq_true rfl) one1 rfl) ?_
 rintro w35 hs37
 refine c_nil (n_then (c_seq (c_region (st (v:=.int .u64 (((a ||| (((bs.getD i 0) &&& 127) * 2 ^ (7 * i) % 18446744073709551616)):Nat):Int)) (x_move (.tmp rfl rfl)) ?_))))
 refine st (v:=.int .u64 (((a ||| (((bs.getD i 0) &&& 127) * 2 ^ (7 * i) % 18446744073709551616)):Nat):Int)) (x_assign (.tmp rfl rfl)) ?_
 refine c_nil (n_then (c_ret (r_block (r_then (r_then (r_block (r_then (leave_ret (res_one (v:=.int .u64 (((a ||| (((bs.getD i 0) &&& 127) * 2 ^ (7 * i) % 18446744073709551616)):Nat):Int)) rfl (.mk rfl rfl)) ?_))))))))
 have hf:uscan 0 0 bs = some ((a ||| (((bs.getD i 0) &&& 127) * 2 ^ (7 * i) % 18446744073709551616)),bs.drop (i + 1)):=hu.trans (by rw [uscan_get (by omega),if_neg (by omega),if_pos (by omega)])
 rw [rdU_some hf]
 exact ⟨_,_,_,rfl,(hp.drop (k:=(i + 1)) (by omega)),hs37⟩
 have hp34:¬ ((((bs.getD i 0:Nat):Int):Int) < 128):=of_decide_eq_false hc34
 refine c_cond_f (t:=false) (.tmp rfl (cVb hc34)) rfl ?_
 refine c_skip (n_block (n_then (c_region (st (v:=.int .i64 (((i:Nat):Int) + 1)) (x_add (k:=.i64) (a:=((i:Nat):Int)) (b:=1) (.tmp rfl hρ5) .const (w64 (by omega) (by omega))) ?_))))
 refine st (v:=.int .i64 (((i:Nat):Int) + 1)) (x_move (.tmp rfl rfl)) ?_
 refine c_nil ?_
 refine n_then ⟨_,_,rfl,?_,(i + 1),(a ||| (((bs.getD i 0) &&& 127) * 2 ^ (7 * i) % 18446744073709551616)),hρ2,rfl,hρ4,rfl,(by omega),(by omega),hb33,(hu.trans (by rw [uscan_get (by omega),if_neg (by omega),if_neg (by omega)])),hs6,rfl⟩
 omega
 have hp12:¬ ((((i:Nat):Int):Int) = 9):=of_decide_eq_false hc12
 refine g_no (yk 31 false rfl rfl hc12) rfl ?_
 refine g_no (yk 31 false rfl rfl hc12) rfl ?_
 refine st (v:=.bool false) (x_pick_f (.tmp rfl (cVb hc12)) .const) ?_
 refine st (v:=.bool false) (x_move (.tmp rfl rfl)) ?_
 refine g_yes (yl (dj:=35) (b:=false) rfl rfl rfl) ?_
 refine st (v:=.int .i64 ((i:Nat):Int)) (x_move (.tmp rfl rfl)) ?_
 refine g_yes (yl (dj:=35) (b:=false) rfl rfl rfl) ?_
 refine st (v:=.bool (decide ((0:Int) < ((i:Nat):Int)))) (x_gtr (k:=.i64) (a:=((i:Nat):Int)) (b:=0) (.tmp rfl rfl) .const) ?_
 refine g_yes (yl (dj:=35) (b:=false) rfl rfl rfl) ?_
 refine st (v:=.bool (decide ((0:Int) < ((i:Nat):Int)))) (x_move (.tmp rfl rfl)) ?_
 rcases Bool.eq_false_or_eq_true (decide ((0:Int) < ((i:Nat):Int))) with hc38 | hc38
 have hp38:(0:Int) < ((i:Nat):Int):=of_decide_eq_true hc38
 refine g_yes (yk 38 true rfl rfl hc38) ?_
 refine st (v:=.int .u8 ((bs.getD i 0:Nat):Int)) (x_move (.tmp rfl rfl)) ?_
 refine g_yes (yk 38 true rfl rfl hc38) ?_
 refine st (v:=.bool (decide ((((bs.getD i 0:Nat):Int):Int) = 0))) (x_eql (k:=.u8) (a:=((bs.getD i 0:Nat):Int)) (b:=0) (.tmp rfl rfl) .const) ?_
 refine g_yes (yl (dj:=35) (b:=false) rfl rfl rfl) ?_
 refine st (v:=.bool (decide ((((bs.getD i 0:Nat):Int):Int) = 0))) (x_pick_t (.tmp rfl (cVb hc38)) (.tmp rfl rfl)) ?_
 refine st (v:=.bool (decide ((((bs.getD i 0:Nat):Int):Int) = 0))) (x_pick_f (.tmp rfl rfl) (.tmp rfl rfl)) ?_
 refine c_nil (n_then ?_)
 rcases Bool.eq_false_or_eq_true (decide ((((bs.getD i 0:Nat):Int):Int) = 0)) with hc39 | hc39
 have hp39:(((bs.getD i 0:Nat):Int):Int) = 0:=of_decide_eq_true hc39
 refine c_cond_t (t:=true) (.tmp rfl (cVb hc39)) rfl ?_
 refine c_exit (x_then (x_block rfl (x_then (x_then (x_here (n_then (c_seq (c_region (st (v:=.pointer (some ⟨g,0,none⟩)) (x_move (.tmp rfl hρ2)) ?_)))))))))
 refine st (v:=.pointer (some ⟨g,0,none⟩)) (x_nilCheck (.tmp rfl rfl)) ?_
 refine st (v:=.pointer (some ⟨g,0 + 1,none⟩)) (fa98_1 (.tmp rfl rfl)) ?_
 refine st_m0 (sto4 (cs':=[.slice A n c,.bool true]) (i:=0 + 1) hs6 (v:=.bool true) (.tmp rfl rfl) .const rfl (Nat.le_of_ble_eq_true rfl) one1 rfl) ?_
 rintro w40 hs42
 refine c_nil (n_then (c_seq (c_region (st (v:=.int .u64 0) (x_assign .const) ?_))))
 refine c_nil (n_then (c_ret (leave_ret (res_one (v:=.int .u64 0) rfl (.mk rfl rfl)) ?_)))
 have hf:uscan 0 0 bs = none:=hu.trans (by first | (rw [uscan_get (by omega),if_pos (by omega)]) | (rw [List.drop_eq_nil_of_le (by omega)]; rfl))
 rw [rdU_none hf]
 exact ⟨_,_,_,rfl,hp,hs42⟩
 have hp39:¬ ((((bs.getD i 0:Nat):Int):Int) = 0):=of_decide_eq_false hc39
 refine c_cond_f (t:=false) (.tmp rfl (cVb hc39)) rfl ?_
 refine c_skip (n_then (c_seq (c_region (st (v:=.int .u64 ((a:Nat):Int)) (x_move (.tmp rfl hρ3)) ?_))))
 refine st (v:=.int .u8 ((bs.getD i 0:Nat):Int)) (x_move (.tmp rfl rfl)) ?_
 have hb43:((bs.getD i 0) &&& 127) < 256:=Nat.lt_of_le_of_lt Nat.and_le_left (hp.lt.getD _)
 refine st (v:=.int .u8 ((((bs.getD i 0) &&& 127):Nat):Int)) (x_and (k:=.u8) (m:=(bs.getD i 0)) (n:=127) rfl (.tmp rfl rfl) .const (show _ < 2 ^ 8 from (hp.lt.getD _)) (show _ < 2 ^ 8 from (by decide))) ?_
 have hb44:((bs.getD i 0) &&& 127) < 18446744073709551616:=Nat.lt_of_lt_of_le hb43 (by decide)
 refine st (v:=.int .u64 ((((bs.getD i 0) &&& 127):Nat):Int)) (x_conv (k:=.u8) (a:=((((bs.getD i 0) &&& 127):Nat):Int)) Try.underlying5 Try.underlying22 (.tmp rfl rfl) (wU rfl rfl hb44)) ?_
 refine st (v:=.int .i64 ((i:Nat):Int)) (x_move (.tmp rfl rfl)) ?_
 refine st (v:=.int .i64 (((7 * i):Nat):Int)) (x_mul (k:=.i64) (a:=7) (b:=((i:Nat):Int)) .const (.tmp rfl rfl) ((w64 (by omega) (by omega)).trans (by omega))) ?_
 have hb45:(((bs.getD i 0) &&& 127) * 2 ^ (7 * i) % 18446744073709551616) < 18446744073709551616:=Nat.mod_lt _ (by decide)
 refine st (v:=.int .u64 (((((bs.getD i 0) &&& 127) * 2 ^ (7 * i) % 18446744073709551616):Nat):Int)) (x_shl (k:=.u64) (m:=((bs.getD i 0) &&& 127)) (b:=(((7 * i):Nat):Int)) rfl (.tmp rfl rfl) (.tmp rfl rfl) (by omega)) ?_
 have hb46:(a ||| (((bs.getD i 0) &&& 127) * 2 ^ (7 * i) % 18446744073709551616)) < 18446744073709551616:=Nat.or_lt_two_pow (n:=64) ha hb45
 refine st (v:=.int .u64 (((a ||| (((bs.getD i 0) &&& 127) * 2 ^ (7 * i) % 18446744073709551616)):Nat):Int)) (x_or (k:=.u64) (m:=a) (n:=(((bs.getD i 0) &&& 127) * 2 ^ (7 * i) % 18446744073709551616)) rfl (.tmp rfl rfl) (.tmp rfl rfl) (show _ < 2 ^ 64 from ha) (show _ < 2 ^ 64 from hb45)) ?_
 refine st (v:=.int .u64 (((a ||| (((bs.getD i 0) &&& 127) * 2 ^ (7 * i) % 18446744073709551616)):Nat):Int)) (x_assign (.tmp rfl rfl)) ?_
 refine c_nil (n_then (c_seq (c_region (st (v:=.int .u8 ((bs.getD i 0:Nat):Int)) (x_move (.tmp rfl rfl)) ?_))))
 refine st (v:=.bool (decide ((((bs.getD i 0:Nat):Int):Int) < 128))) (x_lss (k:=.u8) (a:=((bs.getD i 0:Nat):Int)) (b:=128) (.tmp rfl rfl) .const) ?_
 refine c_nil (n_then ?_)
 rcases Bool.eq_false_or_eq_true (decide ((((bs.getD i 0:Nat):Int):Int) < 128)) with hc47 | hc47
 have hp47:(((bs.getD i 0:Nat):Int):Int) < 128:=of_decide_eq_true hc47
 refine c_cond_t (t:=true) (.tmp rfl (cVb hc47)) rfl ?_
 refine c_seq (c_region (st (v:=.pointer (some ⟨g,0,none⟩)) (x_move (.tmp rfl hρ2)) ?_))
 refine st (v:=.pointer (some ⟨g,0,none⟩)) (x_move (.tmp rfl hρ2)) ?_
 refine st (v:=.pointer (some ⟨g,0,none⟩)) (x_nilCheck (.tmp rfl rfl)) ?_
 refine st (v:=.pointer (some ⟨g,0 + 0,none⟩)) (fa98_0 (.tmp rfl rfl)) ?_
 refine st (v:=.slice A n c) (ld33 (.tmp rfl rfl) (hs6.cell 0 rfl (0 + 0) rfl)) ?_
 refine st (v:=.int .i64 ((i:Nat):Int)) (x_move (.tmp rfl rfl)) ?_
 refine st (v:=.int .i64 (((i + 1):Nat):Int)) (x_add (k:=.i64) (a:=((i:Nat):Int)) (b:=1) (.tmp rfl rfl) .const ((w64 (by omega) (by omega)).trans (by omega))) ?_
 have:=hp.le
 refine st (v:=.slice (cutA A c (i + 1) 1) (n - (i + 1)) (c - (i + 1))) (bs_l Try.underlying33 inf5 (a:=(((i + 1):Nat):Int)) (.tmp rfl rfl) (.tmp rfl rfl) (by omega) (by omega) (by omega)) ?_
 refine st (v:=.pointer (some ⟨g,0,none⟩)) (x_nilCheck (.tmp rfl rfl)) ?_
 refine st (v:=.pointer (some ⟨g,0 + 0,none⟩)) (fa98_0 (.tmp rfl rfl)) ?_
 refine st_m0 (sto33 (cs':=[.slice (cutA A c (i + 1) 1) (n - (i + 1)) (c - (i + 1)),.bool false]) (i:=0 + 0) hs6 (v:=.slice (cutA A c (i + 1) 1) (n - (i + 1)) (c - (i + 1))) (.tmp rfl rfl) (.tmp rfl rfl) rfl (Nat.le_of_ble_eq_true rfl) one1 rfl) ?_
 rintro w48 hs50
 refine c_nil (n_then (c_seq (c_region (st (v:=.int .u64 (((a ||| (((bs.getD i 0) &&& 127) * 2 ^ (7 * i) % 18446744073709551616)):Nat):Int)) (x_move (.tmp rfl rfl)) ?_))))
 refine st (v:=.int .u64 (((a ||| (((bs.getD i 0) &&& 127) * 2 ^ (7 * i) % 18446744073709551616)):Nat):Int)) (x_assign (.tmp rfl rfl)) ?_
 refine c_nil (n_then (c_ret (r_block (r_then (r_then (r_block (r_then (leave_ret (res_one (v:=.int .u64 (((a ||| (((bs.getD i 0) &&& 127) * 2 ^ (7 * i) % 18446744073709551616)):Nat):Int)) rfl (.mk rfl rfl)) ?_))))))))
 have hf:uscan 0 0 bs = some ((a ||| (((bs.getD i 0) &&& 127) * 2 ^ (7 * i) % 18446744073709551616)),bs.drop (i + 1)):=hu.trans (by rw [uscan_get (by omega),if_neg (by omega),if_pos (by omega)])
 rw [rdU_some hf]
 exact ⟨_,_,_,rfl,(hp.drop (k:=(i + 1)) (by omega)),hs50⟩
 have hp47:¬ ((((bs.getD i 0:Nat):Int):Int) < 128):=of_decide_eq_false hc47
 refine c_cond_f (t:=false) (.tmp rfl (cVb hc47)) rfl ?_
 refine c_skip (n_block (n_then (c_region (st (v:=.int .i64 (((i:Nat):Int) + 1)) (x_add (k:=.i64) (a:=((i:Nat):Int)) (b:=1) (.tmp rfl hρ5) .const (w64 (by omega) (by omega))) ?_))))
 refine st (v:=.int .i64 (((i:Nat):Int) + 1)) (x_move (.tmp rfl rfl)) ?_
 refine c_nil ?_
 refine n_then ⟨_,_,rfl,?_,(i + 1),(a ||| (((bs.getD i 0) &&& 127) * 2 ^ (7 * i) % 18446744073709551616)),hρ2,rfl,hρ4,rfl,(by omega),(by omega),hb46,(hu.trans (by rw [uscan_get (by omega),if_neg (by omega),if_neg (by omega)])),hs6,rfl⟩
 omega
 have hp38:¬ ((0:Int) < ((i:Nat):Int)):=of_decide_eq_false hc38
 refine g_no (yk 38 false rfl rfl hc38) rfl ?_
 refine g_no (yk 38 false rfl rfl hc38) rfl ?_
 refine g_yes (yl (dj:=35) (b:=false) rfl rfl rfl) ?_
 refine st (v:=.bool false) (x_pick_f (.tmp rfl (cVb hc38)) .const) ?_
 refine st (v:=.bool false) (x_pick_f (.tmp rfl rfl) (.tmp rfl rfl)) ?_
 refine c_nil (n_then (c_cond_f (t:=false) (.tmp rfl rfl) rfl ?_))
 refine c_skip (n_then (c_seq (c_region (st (v:=.int .u64 ((a:Nat):Int)) (x_move (.tmp rfl hρ3)) ?_))))
 refine st (v:=.int .u8 ((bs.getD i 0:Nat):Int)) (x_move (.tmp rfl rfl)) ?_
 have hb51:((bs.getD i 0) &&& 127) < 256:=Nat.lt_of_le_of_lt Nat.and_le_left (hp.lt.getD _)
 refine st (v:=.int .u8 ((((bs.getD i 0) &&& 127):Nat):Int)) (x_and (k:=.u8) (m:=(bs.getD i 0)) (n:=127) rfl (.tmp rfl rfl) .const (show _ < 2 ^ 8 from (hp.lt.getD _)) (show _ < 2 ^ 8 from (by decide))) ?_
 have hb52:((bs.getD i 0) &&& 127) < 18446744073709551616:=Nat.lt_of_lt_of_le hb51 (by decide)
 refine st (v:=.int .u64 ((((bs.getD i 0) &&& 127):Nat):Int)) (x_conv (k:=.u8) (a:=((((bs.getD i 0) &&& 127):Nat):Int)) Try.underlying5 Try.underlying22 (.tmp rfl rfl) (wU rfl rfl hb52)) ?_
 refine st (v:=.int .i64 ((i:Nat):Int)) (x_move (.tmp rfl rfl)) ?_
 refine st (v:=.int .i64 (((7 * i):Nat):Int)) (x_mul (k:=.i64) (a:=7) (b:=((i:Nat):Int)) .const (.tmp rfl rfl) ((w64 (by omega) (by omega)).trans (by omega))) ?_
 have hb53:(((bs.getD i 0) &&& 127) * 2 ^ (7 * i) % 18446744073709551616) < 18446744073709551616:=Nat.mod_lt _ (by decide)
 refine st (v:=.int .u64 (((((bs.getD i 0) &&& 127) * 2 ^ (7 * i) % 18446744073709551616):Nat):Int)) (x_shl (k:=.u64) (m:=((bs.getD i 0) &&& 127)) (b:=(((7 * i):Nat):Int)) rfl (.tmp rfl rfl) (.tmp rfl rfl) (by omega)) ?_
 have hb54:(a ||| (((bs.getD i 0) &&& 127) * 2 ^ (7 * i) % 18446744073709551616)) < 18446744073709551616:=Nat.or_lt_two_pow (n:=64) ha hb53
 refine st (v:=.int .u64 (((a ||| (((bs.getD i 0) &&& 127) * 2 ^ (7 * i) % 18446744073709551616)):Nat):Int)) (x_or (k:=.u64) (m:=a) (n:=(((bs.getD i 0) &&& 127) * 2 ^ (7 * i) % 18446744073709551616)) rfl (.tmp rfl rfl) (.tmp rfl rfl) (show _ < 2 ^ 64 from ha) (show _ < 2 ^ 64 from hb53)) ?_
 refine st (v:=.int .u64 (((a ||| (((bs.getD i 0) &&& 127) * 2 ^ (7 * i) % 18446744073709551616)):Nat):Int)) (x_assign (.tmp rfl rfl)) ?_
 refine c_nil (n_then (c_seq (c_region (st (v:=.int .u8 ((bs.getD i 0:Nat):Int)) (x_move (.tmp rfl rfl)) ?_))))
 refine st (v:=.bool (decide ((((bs.getD i 0:Nat):Int):Int) < 128))) (x_lss (k:=.u8) (a:=((bs.getD i 0:Nat):Int)) (b:=128) (.tmp rfl rfl) .const) ?_
 refine c_nil (n_then ?_)
 rcases Bool.eq_false_or_eq_true (decide ((((bs.getD i 0:Nat):Int):Int) < 128)) with hc55 | hc55
 have hp55:(((bs.getD i 0:Nat):Int):Int) < 128:=of_decide_eq_true hc55
 refine c_cond_t (t:=true) (.tmp rfl (cVb hc55)) rfl ?_
 refine c_seq (c_region (st (v:=.pointer (some ⟨g,0,none⟩)) (x_move (.tmp rfl hρ2)) ?_))
 refine st (v:=.pointer (some ⟨g,0,none⟩)) (x_move (.tmp rfl hρ2)) ?_
 refine st (v:=.pointer (some ⟨g,0,none⟩)) (x_nilCheck (.tmp rfl rfl)) ?_
 refine st (v:=.pointer (some ⟨g,0 + 0,none⟩)) (fa98_0 (.tmp rfl rfl)) ?_
 refine st (v:=.slice A n c) (ld33 (.tmp rfl rfl) (hs6.cell 0 rfl (0 + 0) rfl)) ?_
 refine st (v:=.int .i64 ((i:Nat):Int)) (x_move (.tmp rfl rfl)) ?_
 refine st (v:=.int .i64 (((i + 1):Nat):Int)) (x_add (k:=.i64) (a:=((i:Nat):Int)) (b:=1) (.tmp rfl rfl) .const ((w64 (by omega) (by omega)).trans (by omega))) ?_
 have:=hp.le
 refine st (v:=.slice (cutA A c (i + 1) 1) (n - (i + 1)) (c - (i + 1))) (bs_l Try.underlying33 inf5 (a:=(((i + 1):Nat):Int)) (.tmp rfl rfl) (.tmp rfl rfl) (by omega) (by omega) (by omega)) ?_
 refine st (v:=.pointer (some ⟨g,0,none⟩)) (x_nilCheck (.tmp rfl rfl)) ?_
 refine st (v:=.pointer (some ⟨g,0 + 0,none⟩)) (fa98_0 (.tmp rfl rfl)) ?_
 refine st_m0 (sto33 (cs':=[.slice (cutA A c (i + 1) 1) (n - (i + 1)) (c - (i + 1)),.bool false]) (i:=0 + 0) hs6 (v:=.slice (cutA A c (i + 1) 1) (n - (i + 1)) (c - (i + 1))) (.tmp rfl rfl) (.tmp rfl rfl) rfl (Nat.le_of_ble_eq_true rfl) one1 rfl) ?_
 rintro w56 hs58
 refine c_nil (n_then (c_seq (c_region (st (v:=.int .u64 (((a ||| (((bs.getD i 0) &&& 127) * 2 ^ (7 * i) % 18446744073709551616)):Nat):Int)) (x_move (.tmp rfl rfl)) ?_))))
 refine st (v:=.int .u64 (((a ||| (((bs.getD i 0) &&& 127) * 2 ^ (7 * i) % 18446744073709551616)):Nat):Int)) (x_assign (.tmp rfl rfl)) ?_
 refine c_nil (n_then (c_ret (r_block (r_then (r_then (r_block (r_then (leave_ret (res_one (v:=.int .u64 (((a ||| (((bs.getD i 0) &&& 127) * 2 ^ (7 * i) % 18446744073709551616)):Nat):Int)) rfl (.mk rfl rfl)) ?_))))))))
 have hf:uscan 0 0 bs = some ((a ||| (((bs.getD i 0) &&& 127) * 2 ^ (7 * i) % 18446744073709551616)),bs.drop (i + 1)):=hu.trans (by rw [uscan_get (by omega),if_neg (by omega),if_pos (by omega)])
 rw [rdU_some hf]
 exact ⟨_,_,_,rfl,(hp.drop (k:=(i + 1)) (by omega)),hs58⟩
 have hp55:¬ ((((bs.getD i 0:Nat):Int):Int) < 128):=of_decide_eq_false hc55
 refine c_cond_f (t:=false) (.tmp rfl (cVb hc55)) rfl ?_
 refine c_skip (n_block (n_then (c_region (st (v:=.int .i64 (((i:Nat):Int) + 1)) (x_add (k:=.i64) (a:=((i:Nat):Int)) (b:=1) (.tmp rfl hρ5) .const (w64 (by omega) (by omega))) ?_))))
 refine st (v:=.int .i64 (((i:Nat):Int) + 1)) (x_move (.tmp rfl rfl)) ?_
 refine c_nil ?_
 refine n_then ⟨_,_,rfl,?_,(i + 1),(a ||| (((bs.getD i 0) &&& 127) * 2 ^ (7 * i) % 18446744073709551616)),hρ2,rfl,hρ4,rfl,(by omega),(by omega),hb54,(hu.trans (by rw [uscan_get (by omega),if_neg (by omega),if_neg (by omega)])),hs6,rfl⟩
 omega
 have hp7:¬ ((((i:Nat):Int):Int) < ((n:Nat):Int)):=of_decide_eq_false hc7
 refine c_cond_f (t:=false) (.tmp rfl (cVb hc7)) rfl ?_
 refine c_exit (x_then (x_then (x_here (n_then (c_seq (c_region (st (v:=.pointer (some ⟨g,0,none⟩)) (x_move (.tmp rfl hρ2)) ?_)))))))
 refine st (v:=.pointer (some ⟨g,0,none⟩)) (x_nilCheck (.tmp rfl rfl)) ?_
 refine st (v:=.pointer (some ⟨g,0 + 1,none⟩)) (fa98_1 (.tmp rfl rfl)) ?_
 refine st_m0 (sto4 (cs':=[.slice A n c,.bool true]) (i:=0 + 1) hs6 (v:=.bool true) (.tmp rfl rfl) .const rfl (Nat.le_of_ble_eq_true rfl) one1 rfl) ?_
 rintro w59 hs61
 refine c_nil (n_then (c_seq (c_region (st (v:=.int .u64 0) (x_assign .const) ?_))))
 refine c_nil (n_then (c_ret (leave_ret (res_one (v:=.int .u64 0) rfl (.mk rfl rfl)) ?_)))
 have hf:uscan 0 0 bs = none:=hu.trans (by first | (rw [uscan_get (by omega),if_pos (by omega)]) | (rw [List.drop_eq_nil_of_le (by omega)]; rfl))
 rw [rdU_none hf]
 exact ⟨_,_,_,rfl,hp,hs61⟩
theorem uint_own {H:Hp} {w:World} {L:List Res} {g:Nat} {A:Option Addr} {n c:Nat} {bs:List Nat} (hp:Bs H A n c bs) (b:Bool) (hs:St H w (obj g 98 [.slice A n c,.bool b]::L)):Calls Try.prog 36 #[(.pointer (some ⟨g,0,none⟩))] w (fun e w' => ∃ A' n' c',e = .returned (.int .u64 (((rdU bs b).1:Nat):Int))∧Bs H A' n' c' (rdU bs b).2.1∧St H w' (obj g 98 [.slice A' n' c',.bool (rdU bs b).2.2]::L)):=by
  cases b
  · exact uint_false hp hs
  · exact uint_true hp hs
end Go.Proofs.Ytlfihfmmhhcigaa

set_option linter.unusedVariables false
set_option linter.unusedSimpArgs false
namespace Go.Proofs.Ytlfihfmmhhcigaa
open Go Go.FM Go.Proofs
attribute [local irreducible] wpList wpQuiet wpS Code.wp Calls
set_option maxHeartbeats 8000000 in
theorem ruintf_spec {H:Hp} {w:World} {L:List Res} (hs:St H w L) (m:Nat) (b_m:m < 18446744073709551616):Calls Try.prog 42 #[.int .u64 ((m:Nat):Int)] w (fun e w' => ∃ v',e = .returned v'∧RowOk 1 v' (uenc m).length ((uenc m).map encB)∧St H w' (row 5 1 v' (uenc m).length ((uenc m).map encB)::L)):=by
 refine enter (args:=[.int .u64 ((m:Nat):Int)]) (N:=20) Try.func42 rfl rfl rfl ?_
 have h10:=uenc_len10 b_m
 refine c_seq (c_region (st (v:=.slice none 0 0) (x_assign .const) ?_))
 refine c_nil (n_then (c_seq (c_region (st (v:=.slice none 0 0) (x_assign .const) ?_))))
 refine c_nil (n_then (c_seq (c_block ?_)))
 have hs0:=hs.rowNil 5 1
 refine c_loop (fun ρ w mm => ∃ (r:Nat) (u:Value) (k:Nat) (q:List Nat),ρ 0 = .int .u64 ((r:Nat):Int)∧ρ 3 = u∧(r < 18446744073709551616)∧(uenc m = q ++ uenc r)∧(k + (uenc r).length = (uenc m).length)∧(Small q)∧(RowOk 1 u k (q.map encB))∧St H w (row 5 1 u k (q.map encB)::L)∧mm = r + 1) _ ⟨m,(.slice none 0 0),0,[],rfl,rfl,b_m,rfl,(by omega),Small.nil,(RowOk.nil 1),hs0,rfl⟩ ?_
 rintro ρ w mm ⟨r,u,k,q,hρ2,hρ3,hr,hm,hk,hq,ok2,hs4,rfl⟩
 refine c_seq (c_seq (c_region (st (v:=.int .u64 ((r:Nat):Int)) (x_move (.tmp rfl hρ2)) ?_)))
 refine st (v:=.bool (decide ((127:Int) < ((r:Nat):Int)))) (x_gtr (k:=.u64) (a:=((r:Nat):Int)) (b:=127) (.tmp rfl rfl) .const) ?_
 refine c_nil (n_then ?_)
 rcases Bool.eq_false_or_eq_true (decide ((127:Int) < ((r:Nat):Int))) with hc5 | hc5
 have hp5:(127:Int) < ((r:Nat):Int):=of_decide_eq_true hc5
 refine c_cond_t (t:=true) (.tmp rfl (cVb hc5)) rfl ?_
 refine c_skip (n_then (c_block (c_seq (c_region ?_))))
 have hb1:¬ r < 128:=by omega
 have hk1:(uenc r).length = (uenc (r / 128)).length + 1:=by rw [uenc_big hb1]; rfl
 have hb2:r / 128 < r:=by omega
 refine st (v:=u) (x_move (.tmp rfl hρ3)) ?_
 refine st (v:=.int .u64 ((r:Nat):Int)) (x_move (.tmp rfl hρ2)) ?_
 refine st (v:=.int .u64 (((r % 128):Nat):Int)) (x_remN (k:=.u64) (m:=r) (n:=128) (.tmp rfl rfl) .const (by omega)) ?_
 refine st (v:=.int .u8 ((((r % 128) % 256):Nat):Int)) (x_conv (k:=.u64) (a:=(((r % 128):Nat):Int)) Try.underlying22 Try.underlying5 (.tmp rfl rfl) (wrapN _ rfl _)) ?_
 have hb6:(((r % 128) % 256) + 128) < 256:=by omega
 refine st (v:=.int .u8 (((((r % 128) % 256) + 128):Nat):Int)) (x_add (k:=.u8) (a:=((((r % 128) % 256):Nat):Int)) (b:=128) (.tmp rfl rfl) .const (wU rfl (by omega) hb6)) ?_
 refine st_m (m_lit (n:=1) (ps:=[(0,.int .u8 (((((r % 128) % 256) + 128):Nat):Int))]) (cs:=[.int .u8 (((((r % 128) % 256) + 128):Nat):Int)]) Try.underlying33 inf5 (.cons (.tmp rfl rfl) Evp.nil) (by decide) (by decide) rfl rfl hs4) ?_
 rintro _ w8 ⟨g7,rfl,hs10⟩
 have hs11:=hs10.p1
 refine st_m (m_appAt (bs:=[(((r % 128) % 256) + 128)]) Try.underlying33 inf5 hs11 ok2 (.tmp rfl rfl) (.tmp rfl rfl) rfl (hs11.at_ 1 rfl 0 rfl) (by omega)) ?_
 rintro v12 w13 ⟨ok14,hs15⟩
 refine st (v:=v12) (x_assign (.tmp rfl rfl)) ?_
 refine c_nil (n_then (c_region (st (v:=.int .u64 ((r:Nat):Int)) (x_move (.tmp rfl hρ2)) ?_)))
 refine st (v:=.int .u64 (((r / 128):Nat):Int)) (x_quoN (k:=.u64) (m:=r) (n:=128) (.tmp rfl rfl) .const (by omega) (.inr ⟨rfl,show _ < 2 ^ 64 from hr⟩)) ?_
 refine st (v:=.int .u64 (((r / 128):Nat):Int)) (x_assign (.tmp rfl rfl)) ?_
 refine c_nil (n_block ?_)
 have e7:r % 128 % 256 + 128 = r % 128 + 128:=by omega
 refine n_then ⟨_,_,rfl,?_,(r / 128),v12,(k + 1),(q ++ [(((r % 128) % 256) + 128)]),rfl,rfl,(Nat.lt_of_le_of_lt (Nat.div_le_self _ _) hr),(by rw [uenc_big hb1] at hm; rw [hm,e7]; simp),(by have:=hk1; omega),(hq.append (Small.cons hb6 Small.nil)),ok14,(hs15.p1).drop,rfl⟩
 exact Nat.succ_lt_succ hb2
 have hp5:¬ ((127:Int) < ((r:Nat):Int)):=of_decide_eq_false hc5
 refine c_cond_f (t:=false) (.tmp rfl (cVb hc5)) rfl ?_
 refine c_exit (x_then (x_then (x_here (n_then (c_seq (c_region ?_))))))
 have hb1:r < 128:=by omega
 have hk1:(uenc r).length = 1:=by rw [uenc_one hb1]; rfl
 refine st (v:=u) (x_move (.tmp rfl hρ3)) ?_
 refine st (v:=.int .u64 ((r:Nat):Int)) (x_move (.tmp rfl hρ2)) ?_
 refine st (v:=.int .u8 (((r % 256):Nat):Int)) (x_conv (k:=.u64) (a:=((r:Nat):Int)) Try.underlying22 Try.underlying5 (.tmp rfl rfl) (wrapN _ rfl _)) ?_
 refine st_m (m_lit (n:=1) (ps:=[(0,.int .u8 (((r % 256):Nat):Int))]) (cs:=[.int .u8 (((r % 256):Nat):Int)]) Try.underlying33 inf5 (.cons (.tmp rfl rfl) Evp.nil) (by decide) (by decide) rfl rfl hs4) ?_
 rintro _ w17 ⟨g16,rfl,hs19⟩
 have hs20:=hs19.p1
 refine st_m (m_appAt (bs:=[(r % 256)]) Try.underlying33 inf5 hs20 ok2 (.tmp rfl rfl) (.tmp rfl rfl) rfl (hs20.at_ 1 rfl 0 rfl) (by omega)) ?_
 rintro v21 w22 ⟨ok23,hs24⟩
 refine st (v:=v21) (x_assign (.tmp rfl rfl)) ?_
 refine c_nil (n_then (c_ret (leave_ret (res_one (v:=v21) rfl (.mk rfl rfl)) ?_)))
 have hmod:r % 256 = r:=by omega
 have e1:uenc m = q ++ [r % 256]:=by rw [hm,uenc_one hb1,hmod]
 have e2:(uenc m).length = k + 1:=by omega
 rw [e2,e1]
 exact ⟨_,rfl,ok23,(hs24.p1).drop⟩
set_option maxHeartbeats 8000000 in
theorem ruint_pos {H:Hp} {w:World} {L:List Res} {g:Nat} {A:Option Addr} {n c:Nat} {bs:List Nat} (hp:Bs H A n c bs) (hn:n ≤ 140737488355320) (k:Nat) (hk:k ≤ n) (hs:St H w (obj g 88 [.slice A n c,.int .i64 ((k:Nat):Int)]::L)):Calls Try.prog 51 #[.pointer (some ⟨g,0,none⟩)] w (fun e w' => ∃ at',e = .returned (.int .u64 (((rdU (bs.drop k) false).1:Nat):Int))∧Rr n bs (rdU (bs.drop k) false).2.1 (rdU (bs.drop k) false).2.2 at'∧St H w' (obj g 88 [.slice A n c,.int .i64 at']::L)):=by
 refine enter (args:=[.pointer (some ⟨g,0,none⟩)]) (N:=85) Try.func51 rfl rfl rfl ?_
 have hle:=hp.le
 have hlen:=hp.len
 have hmx:c ≤ 9223372036854775807:=hp.max
 have hsz:n ≤ 140737488355320:=hn
 refine c_seq (c_region (st (v:=.int .u64 0) (x_assign .const) ?_))
 refine c_nil (n_then (c_seq (c_seq (c_region (st (v:=.pointer (some ⟨g,0,none⟩)) (x_move (.tmp rfl rfl)) ?_)))))
 refine st (v:=.pointer (some ⟨g,0,none⟩)) (x_nilCheck (.tmp rfl rfl)) ?_
 refine st (v:=.pointer (some ⟨g,0 + 1,none⟩)) (fa88_1 (.tmp rfl rfl)) ?_
 refine st (v:=.int .i64 ((k:Nat):Int)) (ld3 (.tmp rfl rfl) (hs.cell 0 rfl (0 + 1) rfl)) ?_
 refine st (v:=.bool (decide ((((k:Nat):Int):Int) < 0))) (x_lss (k:=.i64) (a:=((k:Nat):Int)) (b:=0) (.tmp rfl rfl) .const) ?_
 refine c_nil (n_then ?_)
 have hc1:(decide ((((k:Nat):Int):Int) < 0)) = false:=(decide_eq_false (by omega))
 refine c_cond_f (t:=false) (.tmp rfl (cVb hc1)) rfl ?_
 refine c_skip (n_then (c_seq (c_region (st (v:=.int .u64 0) (x_assign .const) ?_))))
 refine c_nil (n_then (c_seq (c_seq (c_region (st (v:=.int .i64 0) (x_assign .const) ?_)))))
 refine c_nil (n_then (c_block (c_loop (fun ρ w mm => ∃ (i:Nat) (a:Nat),ρ 0 = .pointer (some ⟨g,0,none⟩)∧ρ 3 = .int .u64 ((a:Nat):Int)∧ρ 4 = .int .i64 ((i:Nat):Int)∧(i ≤ 10)∧(k + i ≤ n)∧(a < 18446744073709551616)∧(a = pv ((bs.drop k).take i) % 18446744073709551616)∧(∀ b ∈ (bs.drop k).take i,128 ≤ b)∧St H w (obj g 88 [.slice A n c,.int .i64 ((k:Nat):Int)]::L)∧mm = 10 - i) _ ⟨0,0,rfl,rfl,rfl,(by omega),(by omega),(by decide),rfl,(fun b hb => absurd hb (by simp)),hs,rfl⟩ ?_)))
 rintro ρ w mm ⟨i,a,hρ3,hρ4,hρ5,hi,hki,ha,hacc,h128,hs6,rfl⟩
 refine c_seq (c_seq (q_region mixed hs6 (by kernel_rfl) ?_))
 refine q_st (v:=.int .i64 ((i:Nat):Int)) (fun w hs => (x_move (.tmp rfl hρ5))) ?_
 refine q_st (v:=.bool (decide ((((i:Nat):Int):Int) < 10))) (fun w hs => (x_lss (k:=.i64) (a:=((i:Nat):Int)) (b:=10) (.tmp rfl rfl) .const)) ?_
 refine q_st (v:=.bool (decide ((((i:Nat):Int):Int) < 10))) (fun w hs => (x_move (.tmp rfl rfl))) ?_
 rcases Bool.eq_false_or_eq_true (decide ((((i:Nat):Int):Int) < 10)) with hc7 | hc7
 have hp7:(((i:Nat):Int):Int) < 10:=of_decide_eq_true hc7
 refine q_yes (yk 13 true rfl rfl hc7) ?_
 refine q_st (v:=.pointer (some ⟨g,0,none⟩)) (fun w hs => (x_move (.tmp rfl hρ3))) ?_
 refine q_yes (yk 13 true rfl rfl hc7) ?_
 refine q_st (v:=.pointer (some ⟨g,0,none⟩)) (fun w hs => (x_nilCheck (.tmp rfl rfl))) ?_
 refine q_yes (yk 13 true rfl rfl hc7) ?_
 refine q_st (v:=.pointer (some ⟨g,0 + 1,none⟩)) (fun w hs => (fa88_1 (.tmp rfl rfl))) ?_
 refine q_yes (yk 13 true rfl rfl hc7) ?_
 refine q_st (v:=.int .i64 ((k:Nat):Int)) (fun w hs => (ld3 (.tmp rfl rfl) (hs.cell 0 rfl (0 + 1) rfl))) ?_
 refine q_yes (yk 13 true rfl rfl hc7) ?_
 refine q_st (v:=.int .i64 ((i:Nat):Int)) (fun w hs => (x_move (.tmp rfl hρ5))) ?_
 refine q_yes (yk 13 true rfl rfl hc7) ?_
 refine q_st (v:=.int .i64 (((k + i):Nat):Int)) (fun w hs => (x_add (k:=.i64) (a:=((k:Nat):Int)) (b:=((i:Nat):Int)) (.tmp rfl rfl) (.tmp rfl rfl) ((w64 (by omega) (by omega)).trans (by omega)))) ?_
 refine q_yes (yk 13 true rfl rfl hc7) ?_
 refine q_st (v:=.pointer (some ⟨g,0,none⟩)) (fun w hs => (x_move (.tmp rfl hρ3))) ?_
 refine q_yes (yk 13 true rfl rfl hc7) ?_
 refine q_st (v:=.pointer (some ⟨g,0,none⟩)) (fun w hs => (x_nilCheck (.tmp rfl rfl))) ?_
 refine q_yes (yk 13 true rfl rfl hc7) ?_
 refine q_st (v:=.pointer (some ⟨g,0 + 0,none⟩)) (fun w hs => (fa88_0 (.tmp rfl rfl))) ?_
 refine q_yes (yk 13 true rfl rfl hc7) ?_
 refine q_st (v:=.slice A n c) (fun w hs => (ld33 (.tmp rfl rfl) (hs.cell 0 rfl (0 + 0) rfl))) ?_
 refine q_yes (yk 13 true rfl rfl hc7) ?_
 refine q_st (v:=.int .i64 ((n:Nat):Int)) (fun w hs => (x_len (n:=n) Try.underlying33 (.tmp rfl rfl))) ?_
 refine q_yes (yk 13 true rfl rfl hc7) ?_
 refine q_st (v:=.bool (decide (((((k + i):Nat):Int):Int) < ((n:Nat):Int)))) (fun w hs => (x_lss (k:=.i64) (a:=(((k + i):Nat):Int)) (b:=((n:Nat):Int)) (.tmp rfl rfl) (.tmp rfl rfl))) ?_
 refine q_st (v:=.bool (decide (((((k + i):Nat):Int):Int) < ((n:Nat):Int)))) (fun w hs => (x_pick_t (.tmp rfl (cVb hc7)) (.tmp rfl rfl))) ?_
 refine q_nil ?_
 intro w hs8
 refine n_then ?_
 rcases Bool.eq_false_or_eq_true (decide (((((k + i):Nat):Int):Int) < ((n:Nat):Int))) with hc9 | hc9
 have hp9:((((k + i):Nat):Int):Int) < ((n:Nat):Int):=of_decide_eq_true hc9
 refine c_cond_t (t:=true) (.tmp rfl (cVb hc9)) rfl ?_
 refine c_skip (n_then (c_seq (c_block (c_seq (q_region mixed hs8 (by kernel_rfl) ?_)))))
 refine q_st (v:=.pointer (some ⟨g,0,none⟩)) (fun w hs => (x_move (.tmp rfl hρ3))) ?_
 refine q_st (v:=.pointer (some ⟨g,0,none⟩)) (fun w hs => (x_nilCheck (.tmp rfl rfl))) ?_
 refine q_st (v:=.pointer (some ⟨g,0 + 0,none⟩)) (fun w hs => (fa88_0 (.tmp rfl rfl))) ?_
 refine q_st (v:=.slice A n c) (fun w hs => (ld33 (.tmp rfl rfl) (hs.cell 0 rfl (0 + 0) rfl))) ?_
 refine q_st (v:=.pointer (some ⟨g,0,none⟩)) (fun w hs => (x_move (.tmp rfl hρ3))) ?_
 refine q_st (v:=.pointer (some ⟨g,0,none⟩)) (fun w hs => (x_nilCheck (.tmp rfl rfl))) ?_
 refine q_st (v:=.pointer (some ⟨g,0 + 1,none⟩)) (fun w hs => (fa88_1 (.tmp rfl rfl))) ?_
 refine q_st (v:=.int .i64 ((k:Nat):Int)) (fun w hs => (ld3 (.tmp rfl rfl) (hs.cell 0 rfl (0 + 1) rfl))) ?_
 refine q_st (v:=.int .i64 ((i:Nat):Int)) (fun w hs => (x_move (.tmp rfl hρ5))) ?_
 refine q_st (v:=.int .i64 (((k + i):Nat):Int)) (fun w hs => (x_add (k:=.i64) (a:=((k:Nat):Int)) (b:=((i:Nat):Int)) (.tmp rfl rfl) (.tmp rfl rfl) ((w64 (by omega) (by omega)).trans (by omega)))) ?_
 obtain ⟨b10,o11,hA12,hc13⟩:=hp.get (i:=(k + i)) (by omega)
 refine q_st (v:=.pointer (some ⟨b10,(o11 + (k + i) * 1),none⟩)) (fun w hs => (ixo33 (.tmp rfl rfl) hA12 (i:=(((k + i):Nat):Int)) (.tmp rfl rfl) (by omega) (by omega) rfl)) ?_
 refine q_st (v:=.int .u8 ((bs.getD (k + i) 0:Nat):Int)) (fun w hs => (ld5 (.tmp rfl rfl) (hc13 hs))) ?_
 have hb14:(bs.getD (k + i) 0) < 18446744073709551616:=Nat.lt_of_lt_of_le (hp.lt.getD _) (by decide)
 refine q_st (v:=.int .u64 (((bs.getD (k + i) 0):Nat):Int)) (fun w hs => (x_conv (k:=.u8) (a:=((bs.getD (k + i) 0:Nat):Int)) Try.underlying5 Try.underlying22 (.tmp rfl rfl) (wU rfl rfl hb14))) ?_
 refine q_st (v:=.int .u64 (((bs.getD (k + i) 0):Nat):Int)) (fun w hs => (x_assign (.tmp rfl rfl))) ?_
 refine q_nil ?_
 intro w hs15
 refine n_then (c_seq (c_region (st (v:=.int .u64 ((a:Nat):Int)) (x_move (.tmp rfl hρ4)) ?_)))
 refine st (v:=.int .u64 (((bs.getD (k + i) 0):Nat):Int)) (x_move (.tmp rfl rfl)) ?_
 refine st (v:=.int .u64 ((((bs.getD (k + i) 0) % 128):Nat):Int)) (x_remN (k:=.u64) (m:=(bs.getD (k + i) 0)) (n:=128) (.tmp rfl rfl) .const (by omega)) ?_
 refine st (v:=.int .i64 ((i:Nat):Int)) (x_move (.tmp rfl hρ5)) ?_
 refine st (v:=.int .i64 (((7 * i):Nat):Int)) (x_mul (k:=.i64) (a:=7) (b:=((i:Nat):Int)) .const (.tmp rfl rfl) ((w64 (by omega) (by omega)).trans (by omega))) ?_
 have hb16:(((bs.getD (k + i) 0) % 128) * 2 ^ (7 * i) % 18446744073709551616) < 18446744073709551616:=Nat.mod_lt _ (by decide)
 refine st (v:=.int .u64 (((((bs.getD (k + i) 0) % 128) * 2 ^ (7 * i) % 18446744073709551616):Nat):Int)) (x_shl (k:=.u64) (m:=((bs.getD (k + i) 0) % 128)) (b:=(((7 * i):Nat):Int)) rfl (.tmp rfl rfl) (.tmp rfl rfl) (by omega)) ?_
 refine st (v:=.int .u64 ((((a + (((bs.getD (k + i) 0) % 128) * 2 ^ (7 * i) % 18446744073709551616)) % 18446744073709551616):Nat):Int)) (x_add (k:=.u64) (a:=((a:Nat):Int)) (b:=(((((bs.getD (k + i) 0) % 128) * 2 ^ (7 * i) % 18446744073709551616):Nat):Int)) (.tmp rfl rfl) (.tmp rfl rfl) (wAddN (m:=a) (n:=(((bs.getD (k + i) 0) % 128) * 2 ^ (7 * i) % 18446744073709551616)) _ rfl rfl rfl)) ?_
 refine st (v:=.int .u64 ((((a + (((bs.getD (k + i) 0) % 128) * 2 ^ (7 * i) % 18446744073709551616)) % 18446744073709551616):Nat):Int)) (x_assign (.tmp rfl rfl)) ?_
 refine c_nil (n_then (c_seq (c_seq (c_region (st (v:=.int .u64 (((bs.getD (k + i) 0):Nat):Int)) (x_move (.tmp rfl rfl)) ?_)))))
 refine st (v:=.bool (decide ((127:Int) < (((bs.getD (k + i) 0):Nat):Int)))) (x_gtr (k:=.u64) (a:=(((bs.getD (k + i) 0):Nat):Int)) (b:=127) (.tmp rfl rfl) .const) ?_
 refine c_nil (n_then ?_)
 rcases Bool.eq_false_or_eq_true (decide ((127:Int) < (((bs.getD (k + i) 0):Nat):Int))) with hc17 | hc17
 have hp17:(127:Int) < (((bs.getD (k + i) 0):Nat):Int):=of_decide_eq_true hc17
 refine c_cond_t (t:=true) (.tmp rfl (cVb hc17)) rfl ?_
 refine c_exit (x_then (x_here (n_then (c_region (st (v:=.int .i64 ((i:Nat):Int)) (x_move (.tmp rfl hρ5)) ?_)))))
 refine st (v:=.int .i64 (((i + 1):Nat):Int)) (x_add (k:=.i64) (a:=((i:Nat):Int)) (b:=1) (.tmp rfl rfl) .const ((w64 (by omega) (by omega)).trans (by omega))) ?_
 refine st (v:=.int .i64 (((i + 1):Nat):Int)) (x_assign (.tmp rfl rfl)) ?_
 refine c_nil ?_
 have hgd:=getD_drop' bs k i
 have hcl:i < (bs.drop k).length:=by rw [List.length_drop]; omega
 refine n_then ⟨_,_,rfl,?_,(i + 1),((a + (((bs.getD (k + i) 0) % 128) * 2 ^ (7 * i) % 18446744073709551616)) % 18446744073709551616),hρ3,rfl,rfl,(by omega),(by omega),(Nat.mod_lt _ (by decide)),(by rw [← hgd]; exact pv_next hcl hacc),(high_next hcl h128 (by omega)),hs15,rfl⟩
 omega
 have hp17:¬ ((127:Int) < (((bs.getD (k + i) 0):Nat):Int)):=of_decide_eq_false hc17
 refine c_cond_f (t:=false) (.tmp rfl (cVb hc17)) rfl ?_
 refine c_skip (n_then (c_seq (c_seq (s_region (L:=obj g 88 [.slice A n c,.int .i64 ((k:Nat):Int)]::L) (L':=obj g 88 [.slice A n c,.int .i64 ((k:Nat):Int)]::L) none [(0,true),(3,true),(4,true),(5,true),(6,true),(7,true),(8,true),(9,true),(10,true),(11,true),(12,true),(13,true),(14,true),(15,true),(16,true),(17,true),(18,true),(19,true),(1,false),(2,true),(20,true)] mixed hs15 (fun u hu => hu) (by kernel_rfl) ?_))))
 intro w18 hs19
 refine s_st (k:=0) (v:=.int .u64 ((((a + (((bs.getD (k + i) 0) % 128) * 2 ^ (7 * i) % 18446744073709551616)) % 18446744073709551616):Nat):Int)) rfl (fun w hs => (x_move (.tmp rfl rfl))) ?_
 refine s_st (k:=3) (v:=.pointer (some ⟨g,0,none⟩)) rfl (fun w hs => (x_move (.tmp rfl hρ3))) ?_
 refine s_st (k:=4) (v:=.pointer (some ⟨g,0,none⟩)) rfl (fun w hs => (x_nilCheck (.tmp rfl rfl))) ?_
 refine s_st (k:=5) (v:=.pointer (some ⟨g,0 + 0,none⟩)) rfl (fun w hs => (fa88_0 (.tmp rfl rfl))) ?_
 refine s_st (k:=6) (v:=.slice A n c) rfl (fun w hs => (ld33 (.tmp rfl rfl) (hs.cell 0 rfl (0 + 0) rfl))) ?_
 refine s_st (k:=7) (v:=.pointer (some ⟨g,0,none⟩)) rfl (fun w hs => (x_move (.tmp rfl hρ3))) ?_
 refine s_st (k:=8) (v:=.pointer (some ⟨g,0,none⟩)) rfl (fun w hs => (x_nilCheck (.tmp rfl rfl))) ?_
 refine s_st (k:=9) (v:=.pointer (some ⟨g,0 + 1,none⟩)) rfl (fun w hs => (fa88_1 (.tmp rfl rfl))) ?_
 refine s_st (k:=10) (v:=.int .i64 ((k:Nat):Int)) rfl (fun w hs => (ld3 (.tmp rfl rfl) (hs.cell 0 rfl (0 + 1) rfl))) ?_
 refine s_st (k:=11) (v:=.pointer (some ⟨g,0,none⟩)) rfl (fun w hs => (x_move (.tmp rfl hρ3))) ?_
 refine s_st (k:=12) (v:=.pointer (some ⟨g,0,none⟩)) rfl (fun w hs => (x_nilCheck (.tmp rfl rfl))) ?_
 refine s_st (k:=13) (v:=.pointer (some ⟨g,0 + 1,none⟩)) rfl (fun w hs => (fa88_1 (.tmp rfl rfl))) ?_
 refine s_st (k:=14) (v:=.int .i64 ((k:Nat):Int)) rfl (fun w hs => (ld3 (.tmp rfl rfl) (hs.cell 0 rfl (0 + 1) rfl))) ?_
 refine s_st (k:=15) (v:=.int .i64 ((i:Nat):Int)) rfl (fun w hs => (x_move (.tmp rfl hρ5))) ?_
 refine s_st (k:=16) (v:=.int .i64 (((k + i):Nat):Int)) rfl (fun w hs => (x_add (k:=.i64) (a:=((k:Nat):Int)) (b:=((i:Nat):Int)) (.tmp rfl rfl) (.tmp rfl rfl) ((w64 (by omega) (by omega)).trans (by omega)))) ?_
 refine s_st (k:=17) (v:=.int .i64 ((((k + i) + 1):Nat):Int)) rfl (fun w hs => (x_add (k:=.i64) (a:=(((k + i):Nat):Int)) (b:=1) (.tmp rfl rfl) .const ((w64 (by omega) (by omega)).trans (by omega)))) ?_
 have:=hp.le
 refine s_st (k:=18) (v:=.slice (cutA A c k 1) (((k + i) + 1) - k) (c - k)) rfl (fun w hs => (bs_lh Try.underlying33 inf5 (a:=((k:Nat):Int)) (b:=((((k + i) + 1):Nat):Int)) (.tmp rfl rfl) (.tmp rfl rfl) (.tmp rfl rfl) (by omega) (by omega) (by omega))) ?_
 refine s_st (k:=19) (v:=.string (bstr ((bs.take ((k + i) + 1)).drop k))) rfl (fun w hs => (((hp.take (k:=((k + i) + 1)) (by omega)).drop (k:=k) (by omega)).str Try.underlying33 Try.underlying5 Try.underlying9 hs (.tmp rfl rfl))) ?_
 refine s_eff (k:=1) rfl ?_
 refine st_c cb42 .func (evs1 (.tmp rfl rfl)) (ruintf_spec hs19 ((a + (((bs.getD (k + i) 0) % 128) * 2 ^ (7 * i) % 18446744073709551616)) % 18446744073709551616) (Nat.mod_lt _ (by decide))) ?_
 rintro e w21 ⟨v20,rfl,ok22,hs23⟩
 refine ⟨_,rfl,?_⟩
 refine s_on (S':=fun u => St H u (row 5 1 v20 ((uenc ((a + (((bs.getD (k + i) 0) % 128) * 2 ^ (7 * i) % 18446744073709551616)) % 18446744073709551616)).length) ((uenc ((a + (((bs.getD (k + i) 0) % 128) * 2 ^ (7 * i) % 18446744073709551616)) % 18446744073709551616)).map encB)::obj g 88 [.slice A n c,.int .i64 ((k:Nat):Int)]::L)) (fun u hu => hu.drop) hs23 ?_
 refine s_st (k:=2) (v:=.string (bstr (uenc ((a + (((bs.getD (k + i) 0) % 128) * 2 ^ (7 * i) % 18446744073709551616)) % 18446744073709551616)))) rfl (fun w hs => (hs.rowStr Try.underlying33 Try.underlying5 Try.underlying9 0 rfl ok22 (.tmp rfl rfl))) ?_
 refine s_st (k:=20) (v:=.bool (!decide ((bstr (uenc ((a + (((bs.getD (k + i) 0) % 128) * 2 ^ (7 * i) % 18446744073709551616)) % 18446744073709551616))) = (bstr ((bs.take ((k + i) + 1)).drop k))))) rfl (fun w hs => (x_neqS (.tmp rfl rfl) (.tmp rfl rfl))) ?_
 refine s_nil ?_
 refine n_then ?_
 rcases Bool.eq_false_or_eq_true (decide ((bstr (uenc ((a + (((bs.getD (k + i) 0) % 128) * 2 ^ (7 * i) % 18446744073709551616)) % 18446744073709551616))) = (bstr ((bs.take ((k + i) + 1)).drop k)))) with hc25 | hc25
 have hp25:(bstr (uenc ((a + (((bs.getD (k + i) 0) % 128) * 2 ^ (7 * i) % 18446744073709551616)) % 18446744073709551616))) = (bstr ((bs.take ((k + i) + 1)).drop k)):=of_decide_eq_true hc25
 refine c_cond_f (t:=false) (.tmp rfl (cVb (by rw [hc25]; rfl))) rfl ?_
 refine c_skip (n_then (c_seq (c_region (st (v:=.pointer (some ⟨g,0,none⟩)) (x_move (.tmp rfl hρ3)) ?_))))
 refine st (v:=.pointer (some ⟨g,0,none⟩)) (x_nilCheck (.tmp rfl rfl)) ?_
 refine st (v:=.pointer (some ⟨g,0 + 1,none⟩)) (fa88_1 (.tmp rfl rfl)) ?_
 refine st (v:=.int .i64 ((k:Nat):Int)) (ld3 (.tmp rfl rfl) (hs23.cell 1 rfl (0 + 1) rfl)) ?_
 refine st (v:=.int .i64 ((i:Nat):Int)) (x_move (.tmp rfl hρ5)) ?_
 refine st (v:=.int .i64 (((i + 1):Nat):Int)) (x_add (k:=.i64) (a:=((i:Nat):Int)) (b:=1) (.tmp rfl rfl) .const ((w64 (by omega) (by omega)).trans (by omega))) ?_
 refine st (v:=.int .i64 (((k + (i + 1)):Nat):Int)) (x_add (k:=.i64) (a:=((k:Nat):Int)) (b:=(((i + 1):Nat):Int)) (.tmp rfl rfl) (.tmp rfl rfl) ((w64 (by omega) (by omega)).trans (by omega))) ?_
 refine st (v:=.pointer (some ⟨g,0,none⟩)) (x_nilCheck (.tmp rfl rfl)) ?_
 refine st (v:=.pointer (some ⟨g,0 + 1,none⟩)) (fa88_1 (.tmp rfl rfl)) ?_
 have hs26:=hs23.p1
 refine st_m0 (sto3 (cs':=[.slice A n c,.int .i64 (((k + (i + 1)):Nat):Int)]) (i:=0 + 1) hs26 (v:=.int .i64 (((k + (i + 1)):Nat):Int)) (.tmp rfl rfl) (.tmp rfl rfl) rfl (Nat.le_of_ble_eq_true rfl) one1 rfl) ?_
 rintro w27 hs29
 refine c_nil (n_then (c_seq (c_region (st (v:=.int .u64 ((((a + (((bs.getD (k + i) 0) % 128) * 2 ^ (7 * i) % 18446744073709551616)) % 18446744073709551616):Nat):Int)) (x_move (.tmp rfl rfl)) ?_))))
 refine st (v:=.int .u64 ((((a + (((bs.getD (k + i) 0) % 128) * 2 ^ (7 * i) % 18446744073709551616)) % 18446744073709551616):Nat):Int)) (x_assign (.tmp rfl rfl)) ?_
 refine c_nil (n_then (c_ret (r_block (r_then (r_then (r_block (r_then (leave_ret (res_one (v:=.int .u64 ((((a + (((bs.getD (k + i) 0) % 128) * 2 ^ (7 * i) % 18446744073709551616)) % 18446744073709551616):Nat):Int)) rfl (.mk rfl rfl)) ?_))))))))
 have hcl:(bs.drop k).length = n - k:=by rw [List.length_drop,hlen]
 have hgd:=getD_drop' bs k i
 have hci:i < (bs.drop k).length:=by omega
 have hue:=uscan_end (hp.lt.drop k) hci (by omega) h128 (by omega)
 rw [← pv_next hci hacc,hgd] at hue
 have htd:=take_drop' bs k (i + 1)
 have hsm:bstr (uenc ((a + (bs.getD (k + i) 0 % 128 * 2 ^ (7 * i) % 18446744073709551616)) % 18446744073709551616)) = bstr ((bs.drop k).take (i + 1)) ↔ _:=bstr_inj (uenc_small _) ((hp.lt.drop k).take _)
 rw [show k + i + 1 = k + (i + 1) from rfl,htd] at hc25
 rw [if_pos (hsm.1 (of_decide_eq_true hc25))] at hue
 rw [rdU_some hue]
 exact ⟨_,rfl,.inr ⟨rfl,k + (i + 1),by omega,by omega,by rw [List.drop_drop]⟩,(hs29.p1).drop⟩
 have hp25:¬ ((bstr (uenc ((a + (((bs.getD (k + i) 0) % 128) * 2 ^ (7 * i) % 18446744073709551616)) % 18446744073709551616))) = (bstr ((bs.take ((k + i) + 1)).drop k))):=of_decide_eq_false hc25
 refine c_cond_t (t:=true) (.tmp rfl (cVb (by rw [hc25]; rfl))) rfl ?_
 refine c_exit (x_then (x_block rfl (x_then (x_then (x_here (n_then (c_seq (c_region (st (v:=.pointer (some ⟨g,0,none⟩)) (x_move (.tmp rfl hρ3)) ?_)))))))))
 refine st (v:=.pointer (some ⟨g,0,none⟩)) (x_nilCheck (.tmp rfl rfl)) ?_
 refine st (v:=.pointer (some ⟨g,0 + 1,none⟩)) (fa88_1 (.tmp rfl rfl)) ?_
 have hs30:=hs23.p1
 refine st_m0 (sto3 (cs':=[.slice A n c,.int .i64 (-1)]) (i:=0 + 1) hs30 (v:=.int .i64 (-1)) (.tmp rfl rfl) .const rfl (Nat.le_of_ble_eq_true rfl) one1 rfl) ?_
 rintro w31 hs33
 refine c_nil (n_then (c_seq (c_region (st (v:=.int .u64 0) (x_assign .const) ?_))))
 refine c_nil (n_then (c_ret (leave_ret (res_one (v:=.int .u64 0) rfl (.mk rfl rfl)) ?_)))
 have hcl:(bs.drop k).length = n - k:=by rw [List.length_drop,hlen]
 have hgd:=getD_drop' bs k i
 have hci:i < (bs.drop k).length:=by omega
 have hue:=uscan_end (hp.lt.drop k) hci (by omega) h128 (by omega)
 rw [← pv_next hci hacc,hgd] at hue
 have htd:=take_drop' bs k (i + 1)
 have hsm:bstr (uenc ((a + (bs.getD (k + i) 0 % 128 * 2 ^ (7 * i) % 18446744073709551616)) % 18446744073709551616)) = bstr ((bs.drop k).take (i + 1)) ↔ _:=bstr_inj (uenc_small _) ((hp.lt.drop k).take _)
 rw [show k + i + 1 = k + (i + 1) from rfl,htd] at hc25
 rw [if_neg (fun h => of_decide_eq_false hc25 (hsm.2 h))] at hue
 rw [rdU_none hue]
 exact ⟨_,rfl,.inl ⟨rfl,rfl⟩,(hs33.p1).drop⟩
 have hp9:¬ (((((k + i):Nat):Int):Int) < ((n:Nat):Int)):=of_decide_eq_false hc9
 refine c_cond_f (t:=false) (.tmp rfl (cVb hc9)) rfl ?_
 refine c_exit (x_then (x_then (x_here (n_then (c_seq (c_region (st (v:=.pointer (some ⟨g,0,none⟩)) (x_move (.tmp rfl hρ3)) ?_)))))))
 refine st (v:=.pointer (some ⟨g,0,none⟩)) (x_nilCheck (.tmp rfl rfl)) ?_
 refine st (v:=.pointer (some ⟨g,0 + 1,none⟩)) (fa88_1 (.tmp rfl rfl)) ?_
 refine st_m0 (sto3 (cs':=[.slice A n c,.int .i64 (-1)]) (i:=0 + 1) hs8 (v:=.int .i64 (-1)) (.tmp rfl rfl) .const rfl (Nat.le_of_ble_eq_true rfl) one1 rfl) ?_
 rintro w34 hs36
 refine c_nil (n_then (c_seq (c_region (st (v:=.int .u64 0) (x_assign .const) ?_))))
 refine c_nil (n_then (c_ret (leave_ret (res_one (v:=.int .u64 0) rfl (.mk rfl rfl)) ?_)))
 have hcl:(bs.drop k).length = n - k:=by rw [List.length_drop,hlen]
 have hun:uscan 0 0 (bs.drop k) = none:=(Nat.lt_or_ge i 10).elim (fun _ => uscan_noend (by have h:=h128; rw [List.take_of_length_le (by omega)] at h; exact h)) (fun _ => uscan_ten (by omega) (by have e:i = 10:=(by omega); have h:=h128; rw [e] at h; exact h))
 rw [rdU_none hun]
 exact ⟨_,rfl,.inl ⟨rfl,rfl⟩,hs36⟩
 have hp7:¬ ((((i:Nat):Int):Int) < 10):=of_decide_eq_false hc7
 refine q_no (yk 13 false rfl rfl hc7) rfl ?_
 refine q_no (yk 13 false rfl rfl hc7) rfl ?_
 refine q_no (yk 13 false rfl rfl hc7) rfl ?_
 refine q_no (yk 13 false rfl rfl hc7) rfl ?_
 refine q_no (yk 13 false rfl rfl hc7) rfl ?_
 refine q_no (yk 13 false rfl rfl hc7) rfl ?_
 refine q_no (yk 13 false rfl rfl hc7) rfl ?_
 refine q_no (yk 13 false rfl rfl hc7) rfl ?_
 refine q_no (yk 13 false rfl rfl hc7) rfl ?_
 refine q_no (yk 13 false rfl rfl hc7) rfl ?_
 refine q_no (yk 13 false rfl rfl hc7) rfl ?_
 refine q_no (yk 13 false rfl rfl hc7) rfl ?_
 refine q_st (v:=.bool false) (fun w hs => (x_pick_f (.tmp rfl (cVb hc7)) .const)) ?_
 refine q_nil ?_
 intro w hs37
 refine n_then (c_cond_f (t:=false) (.tmp rfl rfl) rfl ?_)
 refine c_exit (x_then (x_then (x_here (n_then (c_seq (c_region (st (v:=.pointer (some ⟨g,0,none⟩)) (x_move (.tmp rfl hρ3)) ?_)))))))
 refine st (v:=.pointer (some ⟨g,0,none⟩)) (x_nilCheck (.tmp rfl rfl)) ?_
 refine st (v:=.pointer (some ⟨g,0 + 1,none⟩)) (fa88_1 (.tmp rfl rfl)) ?_
 refine st_m0 (sto3 (cs':=[.slice A n c,.int .i64 (-1)]) (i:=0 + 1) hs37 (v:=.int .i64 (-1)) (.tmp rfl rfl) .const rfl (Nat.le_of_ble_eq_true rfl) one1 rfl) ?_
 rintro w38 hs40
 refine c_nil (n_then (c_seq (c_region (st (v:=.int .u64 0) (x_assign .const) ?_))))
 refine c_nil (n_then (c_ret (leave_ret (res_one (v:=.int .u64 0) rfl (.mk rfl rfl)) ?_)))
 have hcl:(bs.drop k).length = n - k:=by rw [List.length_drop,hlen]
 have hun:uscan 0 0 (bs.drop k) = none:=(Nat.lt_or_ge i 10).elim (fun _ => uscan_noend (by have h:=h128; rw [List.take_of_length_le (by omega)] at h; exact h)) (fun _ => uscan_ten (by omega) (by have e:i = 10:=(by omega); have h:=h128; rw [e] at h; exact h))
 rw [rdU_none hun]
 exact ⟨_,rfl,.inl ⟨rfl,rfl⟩,hs40⟩
end Go.Proofs.Ytlfihfmmhhcigaa

set_option linter.unusedVariables false
set_option linter.unusedSimpArgs false
namespace Go.Proofs.Ytlfihfmmhhcigaa
open Go Go.FM Go.Proofs
attribute [local irreducible] wpList wpQuiet wpS Code.wp Calls
set_option maxHeartbeats 8000000 in
theorem fail_own {H:Hp} {w:World} {L:List Res} {g:Nat} {A:Option Addr} {n c:Nat} {b:Bool} (hs:St H w (obj g 98 [.slice A n c,.bool b]::L)):Calls Try.prog 60 #[.pointer (some ⟨g,0,none⟩)] w (fun e w' => (∃ u,e = .returned u)∧St H w' (obj g 98 [.slice A n c,.bool true]::L)):=by
 refine enter (args:=[.pointer (some ⟨g,0,none⟩)]) (N:=7) Try.func60 rfl rfl rfl ?_
 refine c_seq (c_region (st (v:=.pointer (some ⟨g,0,none⟩)) (x_move (.tmp rfl rfl)) ?_))
 refine st (v:=.bool true) (x_neqP Try.underlying67 (.tmp rfl rfl) .const rfl) ?_
 refine c_nil (n_then (c_cond_t (t:=true) (.tmp rfl rfl) rfl ?_))
 refine c_region (st (v:=.pointer (some ⟨g,0,none⟩)) (x_move (.tmp rfl rfl)) ?_)
 refine st (v:=.pointer (some ⟨g,0,none⟩)) (x_nilCheck (.tmp rfl rfl)) ?_
 refine st (v:=.pointer (some ⟨g,0 + 1,none⟩)) (fa98_1 (.tmp rfl rfl)) ?_
 refine st_m0 (sto4 (cs':=[.slice A n c,.bool true]) (i:=0 + 1) hs (v:=.bool true) (.tmp rfl rfl) .const rfl (Nat.le_of_ble_eq_true rfl) one1 rfl) ?_
 rintro w1 hs3
 refine c_nil (leave_end (res_none rfl) ?_)
 exact ⟨⟨_,rfl⟩,hs3⟩
set_option maxHeartbeats 8000000 in
theorem int_own {H:Hp} {w:World} {L:List Res} {g:Nat} {A:Option Addr} {n c:Nat} {bs:List Nat} (hp:Bs H A n c bs) (b:Bool) (most:Int) (hm1:-9223372036854775808 ≤ most) (hm2:most ≤ 9223372036854775807) (hs:St H w (obj g 98 [.slice A n c,.bool b]::L)):Calls Try.prog 33 #[.pointer (some ⟨g,0,none⟩),.int .i64 most] w (fun e w' => ∃ A' n' c',e = .returned (.int .i64 (((rdI bs b most).1:Nat):Int))∧Bs H A' n' c' (rdI bs b most).2.1∧St H w' (obj g 98 [.slice A' n' c',.bool (rdI bs b most).2.2]::L)):=by
 refine enter (args:=[.pointer (some ⟨g,0,none⟩),.int .i64 most]) (N:=30) Try.func33 rfl rfl rfl ?_
 have hlt:=rdU_lt bs b
 refine c_seq (c_region (st (v:=.int .i64 0) (x_assign .const) ?_))
 refine c_nil (n_then (c_seq (c_region (st (v:=.pointer (some ⟨g,0,none⟩)) (x_move (.tmp rfl rfl)) ?_))))
 refine st_c cb36 .func (evs1 (.tmp rfl rfl)) (uint_own hp b hs) ?_
 rintro e w4 ⟨A1,n2,c3,rfl,hp5,hs6⟩
 refine ⟨_,rfl,?_⟩
 refine st (v:=.int .u64 (((rdU bs b).1:Nat):Int)) (x_assign (.tmp rfl rfl)) ?_
 refine c_nil (n_then (c_seq (c_seq (c_region (st (v:=.pointer (some ⟨g,0,none⟩)) (x_move (.tmp rfl rfl)) ?_)))))
 refine st (v:=.bool false) (x_eqlP Try.underlying67 (.tmp rfl rfl) .const rfl) ?_
 refine st (v:=.bool false) (x_move (.tmp rfl rfl)) ?_
 refine g_yes (yl (dj:=10) (b:=false) rfl rfl rfl) ?_
 refine st (v:=.pointer (some ⟨g,0,none⟩)) (x_move (.tmp rfl rfl)) ?_
 refine g_yes (yl (dj:=10) (b:=false) rfl rfl rfl) ?_
 refine st (v:=.pointer (some ⟨g,0,none⟩)) (x_nilCheck (.tmp rfl rfl)) ?_
 refine g_yes (yl (dj:=10) (b:=false) rfl rfl rfl) ?_
 refine st (v:=.pointer (some ⟨g,0 + 1,none⟩)) (fa98_1 (.tmp rfl rfl)) ?_
 refine g_yes (yl (dj:=10) (b:=false) rfl rfl rfl) ?_
 refine st (v:=.bool ((rdU bs b).2.2)) (ld4 (.tmp rfl rfl) (hs6.cell 0 rfl (0 + 1) rfl)) ?_
 refine st (v:=.bool ((rdU bs b).2.2)) (x_pick_f (.tmp rfl rfl) (.tmp rfl rfl)) ?_
 refine st (v:=.bool ((rdU bs b).2.2)) (x_move (.tmp rfl rfl)) ?_
 rcases Bool.eq_false_or_eq_true ((rdU bs b).2.2) with hc7 | hc7
 refine g_no (yk 16 true rfl rfl hc7) rfl ?_
 refine g_no (yk 16 true rfl rfl hc7) rfl ?_
 refine st (v:=.bool true) (x_pick_t (.tmp rfl (cVb hc7)) .const) ?_
 refine st (v:=.bool true) (x_move (.tmp rfl rfl)) ?_
 refine g_no (yl (dj:=20) (b:=true) rfl rfl rfl) rfl ?_
 refine g_no (yl (dj:=20) (b:=true) rfl rfl rfl) rfl ?_
 refine g_no (yl (dj:=20) (b:=true) rfl rfl rfl) rfl ?_
 refine g_no (yl (dj:=20) (b:=true) rfl rfl rfl) rfl ?_
 refine st (v:=.bool true) (x_pick_t (.tmp rfl rfl) .const) ?_
 refine c_nil (n_then (c_cond_t (t:=true) (.tmp rfl rfl) rfl ?_))
 refine c_seq (c_region (st (v:=.pointer (some ⟨g,0,none⟩)) (x_move (.tmp rfl rfl)) ?_))
 refine st_c cb60 .func (evs1 (.tmp rfl rfl)) (fail_own (b:=((rdU bs b).2.2)) hs6) ?_
 rintro e w8 ⟨⟨u10,rfl⟩,hs9⟩
 refine ⟨_,rfl,?_⟩
 refine c_nil (n_then (c_seq (c_region (st (v:=.int .i64 0) (x_assign .const) ?_))))
 refine c_nil (n_then (c_ret (r_then (leave_ret (res_one (v:=.int .i64 0) rfl (.mk rfl rfl)) ?_))))
 rw [rdI_bad (by first | (left; assumption) | (right; left; omega) | (right; right; omega))]
 exact ⟨_,_,_,rfl,hp5,hs9⟩
 refine g_yes (yk 16 false rfl rfl hc7) ?_
 refine st (v:=.int .i64 most) (x_move (.tmp rfl rfl)) ?_
 refine g_yes (yk 16 false rfl rfl hc7) ?_
 refine st (v:=.bool (decide ((most:Int) < 0))) (x_lss (k:=.i64) (a:=most) (b:=0) (.tmp rfl rfl) .const) ?_
 refine st (v:=.bool (decide ((most:Int) < 0))) (x_pick_f (.tmp rfl (cVb hc7)) (.tmp rfl rfl)) ?_
 refine st (v:=.bool (decide ((most:Int) < 0))) (x_move (.tmp rfl rfl)) ?_
 rcases Bool.eq_false_or_eq_true (decide ((most:Int) < 0)) with hc11 | hc11
 have hp11:(most:Int) < 0:=of_decide_eq_true hc11
 refine g_no (yk 20 true rfl rfl hc11) rfl ?_
 refine g_no (yk 20 true rfl rfl hc11) rfl ?_
 refine g_no (yk 20 true rfl rfl hc11) rfl ?_
 refine g_no (yk 20 true rfl rfl hc11) rfl ?_
 refine st (v:=.bool true) (x_pick_t (.tmp rfl (cVb hc11)) .const) ?_
 refine c_nil (n_then (c_cond_t (t:=true) (.tmp rfl rfl) rfl ?_))
 refine c_seq (c_region (st (v:=.pointer (some ⟨g,0,none⟩)) (x_move (.tmp rfl rfl)) ?_))
 refine st_c cb60 .func (evs1 (.tmp rfl rfl)) (fail_own (b:=((rdU bs b).2.2)) hs6) ?_
 rintro e w12 ⟨⟨u14,rfl⟩,hs13⟩
 refine ⟨_,rfl,?_⟩
 refine c_nil (n_then (c_seq (c_region (st (v:=.int .i64 0) (x_assign .const) ?_))))
 refine c_nil (n_then (c_ret (r_then (leave_ret (res_one (v:=.int .i64 0) rfl (.mk rfl rfl)) ?_))))
 rw [rdI_bad (by first | (left; assumption) | (right; left; omega) | (right; right; omega))]
 exact ⟨_,_,_,rfl,hp5,hs13⟩
 have hp11:¬ ((most:Int) < 0):=of_decide_eq_false hc11
 refine g_yes (yk 20 false rfl rfl hc11) ?_
 refine st (v:=.int .u64 (((rdU bs b).1:Nat):Int)) (x_move (.tmp rfl rfl)) ?_
 refine g_yes (yk 20 false rfl rfl hc11) ?_
 refine st (v:=.int .i64 most) (x_move (.tmp rfl rfl)) ?_
 refine g_yes (yk 20 false rfl rfl hc11) ?_
 refine st (v:=.int .u64 (((most % 18446744073709551616).toNat:Nat):Int)) (x_conv (k:=.i64) (a:=most) Try.underlying3 Try.underlying22 (.tmp rfl rfl) (wrapU _ rfl _)) ?_
 refine g_yes (yk 20 false rfl rfl hc11) ?_
 refine st (v:=.bool (decide (((((most % 18446744073709551616).toNat:Nat):Int):Int) < (((rdU bs b).1:Nat):Int)))) (x_gtr (k:=.u64) (a:=(((rdU bs b).1:Nat):Int)) (b:=(((most % 18446744073709551616).toNat:Nat):Int)) (.tmp rfl rfl) (.tmp rfl rfl)) ?_
 refine st (v:=.bool (decide (((((most % 18446744073709551616).toNat:Nat):Int):Int) < (((rdU bs b).1:Nat):Int)))) (x_pick_f (.tmp rfl (cVb hc11)) (.tmp rfl rfl)) ?_
 refine c_nil (n_then ?_)
 rcases Bool.eq_false_or_eq_true (decide (((((most % 18446744073709551616).toNat:Nat):Int):Int) < (((rdU bs b).1:Nat):Int))) with hc15 | hc15
 have hp15:((((most % 18446744073709551616).toNat:Nat):Int):Int) < (((rdU bs b).1:Nat):Int):=of_decide_eq_true hc15
 refine c_cond_t (t:=true) (.tmp rfl (cVb hc15)) rfl ?_
 refine c_seq (c_region (st (v:=.pointer (some ⟨g,0,none⟩)) (x_move (.tmp rfl rfl)) ?_))
 refine st_c cb60 .func (evs1 (.tmp rfl rfl)) (fail_own (b:=((rdU bs b).2.2)) hs6) ?_
 rintro e w16 ⟨⟨u18,rfl⟩,hs17⟩
 refine ⟨_,rfl,?_⟩
 refine c_nil (n_then (c_seq (c_region (st (v:=.int .i64 0) (x_assign .const) ?_))))
 refine c_nil (n_then (c_ret (r_then (leave_ret (res_one (v:=.int .i64 0) rfl (.mk rfl rfl)) ?_))))
 rw [rdI_bad (by first | (left; assumption) | (right; left; omega) | (right; right; omega))]
 exact ⟨_,_,_,rfl,hp5,hs17⟩
 have hp15:¬ (((((most % 18446744073709551616).toNat:Nat):Int):Int) < (((rdU bs b).1:Nat):Int)):=of_decide_eq_false hc15
 refine c_cond_f (t:=false) (.tmp rfl (cVb hc15)) rfl ?_
 refine c_skip (n_then (c_seq (c_region (st (v:=.int .u64 (((rdU bs b).1:Nat):Int)) (x_move (.tmp rfl rfl)) ?_))))
 refine st (v:=.int .i64 (((rdU bs b).1:Nat):Int)) (x_conv (k:=.u64) (a:=(((rdU bs b).1:Nat):Int)) Try.underlying22 Try.underlying3 (.tmp rfl rfl) (w64 (by omega) (by omega))) ?_
 refine st (v:=.int .i64 (((rdU bs b).1:Nat):Int)) (x_assign (.tmp rfl rfl)) ?_
 refine c_nil (n_then (c_ret (leave_ret (res_one (v:=.int .i64 (((rdU bs b).1:Nat):Int)) rfl (.mk rfl rfl)) ?_)))
 rw [rdI_good hc7 (by omega) (by omega)]
 have hs9:=hs6
 rw [hc7] at hs9
 exact ⟨_,_,_,rfl,hp5,hs9⟩
set_option maxHeartbeats 8000000 in
theorem bytes_own {H:Hp} {w:World} {L:List Res} {g:Nat} {A:Option Addr} {n c:Nat} {bs:List Nat} (hp:Bs H A n c bs) (hn:n ≤ 140737488355320) (b:Bool) (most:Int) (hm1:-9223372036854775808 ≤ most) (hm2:most ≤ 9223372036854775807) (hs:St H w (obj g 98 [.slice A n c,.bool b]::L)):Calls Try.prog 38 #[.pointer (some ⟨g,0,none⟩),.int .i64 most] w (fun e w' => ∃ v A' n' c',e = .returned v∧RowOk 1 v (rdB bs b most).1.length ((rdB bs b most).1.map encB)∧Bs H A' n' c' (rdB bs b most).2.1∧St H w' (row 5 1 v (rdB bs b most).1.length ((rdB bs b most).1.map encB)::obj g 98 [.slice A' n' c',.bool (rdB bs b most).2.2]::L)):=by
 refine enter (args:=[.pointer (some ⟨g,0,none⟩),.int .i64 most]) (N:=46) Try.func38 rfl rfl rfl ?_
 have hlen:=hp.len
 have hrl:=rdI_len bs b most
 have hri:=rdI_le bs b most hm2
 refine c_seq (c_region (st (v:=.slice none 0 0) (x_assign .const) ?_))
 refine c_nil (n_then (c_seq (c_region (st (v:=.pointer (some ⟨g,0,none⟩)) (x_move (.tmp rfl rfl)) ?_))))
 refine st (v:=.int .i64 most) (x_move (.tmp rfl rfl)) ?_
 refine st_c cb33 .func (evs2 (.tmp rfl rfl) (.tmp rfl rfl)) (int_own hp b most (by omega) (by omega) hs) ?_
 rintro e w4 ⟨A1,n2,c3,rfl,hp5,hs6⟩
 refine ⟨_,rfl,?_⟩
 refine st (v:=.int .i64 (((rdI bs b most).1:Nat):Int)) (x_assign (.tmp rfl rfl)) ?_
 refine c_nil (n_then (c_seq (c_seq (c_region (st (v:=.pointer (some ⟨g,0,none⟩)) (x_move (.tmp rfl rfl)) ?_)))))
 refine st (v:=.bool false) (x_eqlP Try.underlying67 (.tmp rfl rfl) .const rfl) ?_
 refine st (v:=.bool false) (x_move (.tmp rfl rfl)) ?_
 refine g_yes (yl (dj:=12) (b:=false) rfl rfl rfl) ?_
 refine st (v:=.pointer (some ⟨g,0,none⟩)) (x_move (.tmp rfl rfl)) ?_
 refine g_yes (yl (dj:=12) (b:=false) rfl rfl rfl) ?_
 refine st (v:=.pointer (some ⟨g,0,none⟩)) (x_nilCheck (.tmp rfl rfl)) ?_
 refine g_yes (yl (dj:=12) (b:=false) rfl rfl rfl) ?_
 refine st (v:=.pointer (some ⟨g,0 + 1,none⟩)) (fa98_1 (.tmp rfl rfl)) ?_
 refine g_yes (yl (dj:=12) (b:=false) rfl rfl rfl) ?_
 refine st (v:=.bool ((rdI bs b most).2.2)) (ld4 (.tmp rfl rfl) (hs6.cell 0 rfl (0 + 1) rfl)) ?_
 refine st (v:=.bool ((rdI bs b most).2.2)) (x_pick_f (.tmp rfl rfl) (.tmp rfl rfl)) ?_
 refine c_nil (n_then ?_)
 rcases Bool.eq_false_or_eq_true ((rdI bs b most).2.2) with hc7 | hc7
 refine c_cond_t (t:=true) (.tmp rfl (cVb hc7)) rfl ?_
 refine c_seq (c_region (st (v:=.slice none 0 0) (x_assign .const) ?_))
 refine c_nil (n_then (c_ret (r_then (leave_ret (res_one (v:=.slice none 0 0) rfl (.mk rfl rfl)) ?_))))
 rw [rdB_bad (by first | (left; assumption) | (right; omega))]
 have hs9:=hs6
 rw [hc7] at hs9
 exact ⟨_,_,_,_,rfl,RowOk.nil 1,hp5,hs9.rowNil 5 1⟩
 refine c_cond_f (t:=false) (.tmp rfl (cVb hc7)) rfl ?_
 refine c_skip (n_then (c_seq (c_seq (c_region ?_))))
 have hl8:=hp5.len
 refine st (v:=.int .i64 (((rdI bs b most).1:Nat):Int)) (x_move (.tmp rfl rfl)) ?_
 refine st (v:=.pointer (some ⟨g,0,none⟩)) (x_move (.tmp rfl rfl)) ?_
 refine st (v:=.pointer (some ⟨g,0,none⟩)) (x_nilCheck (.tmp rfl rfl)) ?_
 refine st (v:=.pointer (some ⟨g,0 + 0,none⟩)) (fa98_0 (.tmp rfl rfl)) ?_
 refine st (v:=.slice A1 n2 c3) (ld33 (.tmp rfl rfl) (hs6.cell 0 rfl (0 + 0) rfl)) ?_
 refine st (v:=.int .i64 ((n2:Nat):Int)) (x_len (n:=n2) Try.underlying33 (.tmp rfl rfl)) ?_
 refine st (v:=.bool (decide ((((n2:Nat):Int):Int) < (((rdI bs b most).1:Nat):Int)))) (x_gtr (k:=.i64) (a:=(((rdI bs b most).1:Nat):Int)) (b:=((n2:Nat):Int)) (.tmp rfl rfl) (.tmp rfl rfl)) ?_
 refine c_nil (n_then ?_)
 rcases Bool.eq_false_or_eq_true (decide ((((n2:Nat):Int):Int) < (((rdI bs b most).1:Nat):Int))) with hc8 | hc8
 have hp8:(((n2:Nat):Int):Int) < (((rdI bs b most).1:Nat):Int):=of_decide_eq_true hc8
 refine c_cond_t (t:=true) (.tmp rfl (cVb hc8)) rfl ?_
 refine c_seq (c_region (st (v:=.pointer (some ⟨g,0,none⟩)) (x_move (.tmp rfl rfl)) ?_))
 refine st (v:=.pointer (some ⟨g,0,none⟩)) (x_nilCheck (.tmp rfl rfl)) ?_
 refine st (v:=.pointer (some ⟨g,0 + 1,none⟩)) (fa98_1 (.tmp rfl rfl)) ?_
 refine st_m0 (sto4 (cs':=[.slice A1 n2 c3,.bool true]) (i:=0 + 1) hs6 (v:=.bool true) (.tmp rfl rfl) .const rfl (Nat.le_of_ble_eq_true rfl) one1 rfl) ?_
 rintro w9 hs11
 refine c_nil (n_then (c_seq (c_region (st (v:=.slice none 0 0) (x_assign .const) ?_))))
 refine c_nil (n_then (c_ret (r_then (leave_ret (res_one (v:=.slice none 0 0) rfl (.mk rfl rfl)) ?_))))
 rw [rdB_bad (by first | (left; assumption) | (right; omega))]
 have hs9:=hs11
 exact ⟨_,_,_,_,rfl,RowOk.nil 1,hp5,hs9.rowNil 5 1⟩
 have hp8:¬ ((((n2:Nat):Int):Int) < (((rdI bs b most).1:Nat):Int)):=of_decide_eq_false hc8
 refine c_cond_f (t:=false) (.tmp rfl (cVb hc8)) rfl ?_
 refine c_skip (n_then (c_seq (c_region (st (v:=.pointer (some ⟨g,0,none⟩)) (x_move (.tmp rfl rfl)) ?_))))
 refine st (v:=.pointer (some ⟨g,0,none⟩)) (x_nilCheck (.tmp rfl rfl)) ?_
 refine st (v:=.pointer (some ⟨g,0 + 0,none⟩)) (fa98_0 (.tmp rfl rfl)) ?_
 refine st (v:=.slice A1 n2 c3) (ld33 (.tmp rfl rfl) (hs6.cell 0 rfl (0 + 0) rfl)) ?_
 refine st (v:=.int .i64 (((rdI bs b most).1:Nat):Int)) (x_move (.tmp rfl rfl)) ?_
 refine st (v:=.int .i64 (((rdI bs b most).1:Nat):Int)) (x_move (.tmp rfl rfl)) ?_
 have:=hp5.le
 refine st (v:=.slice A1 ((rdI bs b most).1) ((rdI bs b most).1)) (bs_hm Try.underlying33 inf5 (a:=(((rdI bs b most).1:Nat):Int)) (.tmp rfl rfl) (.tmp rfl rfl) (.tmp rfl rfl) (by omega) (by omega)) ?_
 refine st_m (m_appNil Try.underlying33 inf5 hs6 .const (.tmp rfl rfl) (hp5.takeC (k:=((rdI bs b most).1)) (by omega)) (by omega)) ?_
 rintro v12 w13 ⟨ok14,hs15⟩
 refine st (v:=v12) (x_assign (.tmp rfl rfl)) ?_
 refine c_nil (n_then (c_seq (c_region (st (v:=.pointer (some ⟨g,0,none⟩)) (x_move (.tmp rfl rfl)) ?_))))
 refine st (v:=.pointer (some ⟨g,0,none⟩)) (x_move (.tmp rfl rfl)) ?_
 refine st (v:=.pointer (some ⟨g,0,none⟩)) (x_nilCheck (.tmp rfl rfl)) ?_
 refine st (v:=.pointer (some ⟨g,0 + 0,none⟩)) (fa98_0 (.tmp rfl rfl)) ?_
 refine st (v:=.slice A1 n2 c3) (ld33 (.tmp rfl rfl) (hs15.cell 1 rfl (0 + 0) rfl)) ?_
 refine st (v:=.int .i64 (((rdI bs b most).1:Nat):Int)) (x_move (.tmp rfl rfl)) ?_
 have:=hp5.le
 refine st (v:=.slice (cutA A1 c3 ((rdI bs b most).1) 1) (n2 - ((rdI bs b most).1)) (c3 - ((rdI bs b most).1))) (bs_l Try.underlying33 inf5 (a:=(((rdI bs b most).1:Nat):Int)) (.tmp rfl rfl) (.tmp rfl rfl) (by omega) (by omega) (by omega)) ?_
 refine st (v:=.pointer (some ⟨g,0,none⟩)) (x_nilCheck (.tmp rfl rfl)) ?_
 refine st (v:=.pointer (some ⟨g,0 + 0,none⟩)) (fa98_0 (.tmp rfl rfl)) ?_
 have hs17:=hs15.p1
 refine st_m0 (sto33 (cs':=[.slice (cutA A1 c3 ((rdI bs b most).1) 1) (n2 - ((rdI bs b most).1)) (c3 - ((rdI bs b most).1)),.bool ((rdI bs b most).2.2)]) (i:=0 + 0) hs17 (v:=.slice (cutA A1 c3 ((rdI bs b most).1) 1) (n2 - ((rdI bs b most).1)) (c3 - ((rdI bs b most).1))) (.tmp rfl rfl) (.tmp rfl rfl) rfl (Nat.le_of_ble_eq_true rfl) one1 rfl) ?_
 rintro w18 hs20
 refine c_nil (n_then (c_seq (c_region (st (v:=v12) (x_move (.tmp rfl rfl)) ?_))))
 refine st (v:=v12) (x_assign (.tmp rfl rfl)) ?_
 refine c_nil (n_then (c_ret (leave_ret (res_one (v:=v12) rfl (.mk rfl rfl)) ?_)))
 rw [rdB_good hc7 (by omega)]
 have hs9:=(hs20.p1)
 rw [hc7] at hs9
 have hl9:((rdI bs b most).2.1.take (rdI bs b most).1).length = (rdI bs b most).1:=by rw [List.length_take]; omega
 rw [hl9]
 exact ⟨_,_,_,_,rfl,ok14,(hp5.drop (k:=((rdI bs b most).1)) (by omega)),hs9⟩
end Go.Proofs.Ytlfihfmmhhcigaa

set_option linter.unusedVariables false
set_option linter.unusedSimpArgs false
namespace Go.Proofs.Ytlfihfmmhhcigaa
open Go Go.FM Go.Proofs
attribute [local irreducible] wpList wpQuiet wpS Code.wp Calls
set_option maxHeartbeats 8000000 in
theorem ruint_neg {H:Hp} {w:World} {L:List Res} {g:Nat} {A:Option Addr} {n c:Nat} (hs:St H w (obj g 88 [.slice A n c,.int .i64 (-1)]::L)):Calls Try.prog 51 #[.pointer (some ⟨g,0,none⟩)] w (fun e w' => e = .returned (.int .u64 0)∧St H w' (obj g 88 [.slice A n c,.int .i64 (-1)]::L)):=by
 refine enter (args:=[.pointer (some ⟨g,0,none⟩)]) (N:=85) Try.func51 rfl rfl rfl ?_
 refine c_seq (c_region (st (v:=.int .u64 0) (x_assign .const) ?_))
 refine c_nil (n_then (c_seq (c_seq (c_region (st (v:=.pointer (some ⟨g,0,none⟩)) (x_move (.tmp rfl rfl)) ?_)))))
 refine st (v:=.pointer (some ⟨g,0,none⟩)) (x_nilCheck (.tmp rfl rfl)) ?_
 refine st (v:=.pointer (some ⟨g,0 + 1,none⟩)) (fa88_1 (.tmp rfl rfl)) ?_
 refine st (v:=.int .i64 (-1)) (ld3 (.tmp rfl rfl) (hs.cell 0 rfl (0 + 1) rfl)) ?_
 refine st (v:=.bool true) (x_lss (k:=.i64) (a:=(-1)) (b:=0) (.tmp rfl rfl) .const) ?_
 refine c_nil (n_then (c_cond_t (t:=true) (.tmp rfl rfl) rfl ?_))
 refine c_seq (c_region (st (v:=.int .u64 0) (x_assign .const) ?_))
 refine c_nil (n_then (c_ret (r_then (leave_ret (res_one (v:=.int .u64 0) rfl (.mk rfl rfl)) ?_))))
 exact ⟨rfl,hs⟩
theorem ruint_own {H:Hp} {w:World} {L:List Res} {g:Nat} {A:Option Addr} {n c:Nat} {bs cur:List Nat} {bad:Bool} (hs:St H w (obj g 88 [.slice A n c,.int .i64 (atOf n cur bad)]::L)) (hp:Bs H A n c bs) (hsuf:Suf bs cur) (hn:n ≤ 140737488355320):Calls Try.prog 51 #[(.pointer (some ⟨g,0,none⟩))] w (fun e w' => e = .returned (.int .u64 (((rdU cur bad).1:Nat):Int))∧St H w' (obj g 88 [.slice A n c,.int .i64 (atOf n (rdU cur bad).2.1 (rdU cur bad).2.2)]::L)):=by
  cases bad
  · have hl:=hsuf.len
    have hlen:=hp.len
    have he:=hsuf.eq
    rw [atOf_false,show (n:Int) - (cur.length:Int) = ((bs.length - cur.length:Nat):Int) by omega] at hs
    have hc:=ruint_pos hp hn (bs.length - cur.length) (by omega) hs
    rw [← he] at hc
    refine hc.mono fun e w' h => ?_
    obtain ⟨a,h1,h2,h3⟩:=h
    rw [h2.at_ hlen] at h3
    exact ⟨h1,h3⟩
  · rw [rdU_bad]
    exact ruint_neg hs
set_option maxHeartbeats 8000000 in
theorem rint_own {H:Hp} {w:World} {L:List Res} {g:Nat} {A:Option Addr} {n c:Nat} {bs cur:List Nat} {bad:Bool} (hs:St H w (obj g 88 [.slice A n c,.int .i64 (atOf n cur bad)]::L)) (hp:Bs H A n c bs) (hsuf:Suf bs cur) (hn:n ≤ 140737488355320) (most:Int) (hm1:-9223372036854775808 ≤ most) (hm2:most ≤ 9223372036854775807):Calls Try.prog 48 #[.pointer (some ⟨g,0,none⟩),.int .i64 most] w (fun e w' => e = .returned (.int .i64 (((rdI cur bad most).1:Nat):Int))∧St H w' (obj g 88 [.slice A n c,.int .i64 (atOf n (rdI cur bad most).2.1 (rdI cur bad most).2.2)]::L)):=by
 refine enter (args:=[.pointer (some ⟨g,0,none⟩),.int .i64 most]) (N:=28) Try.func48 rfl rfl rfl ?_
 have hlen:=hp.len
 have hle:=hp.le
 have hl:=hsuf.len
 have hab:=atOf_bound (bad:=bad) (show cur.length ≤ n by omega)
 have hlt:=rdU_lt cur bad
 refine c_seq (c_region (st (v:=.int .i64 0) (x_assign .const) ?_))
 refine c_nil (n_then (c_seq (c_region (st (v:=.pointer (some ⟨g,0,none⟩)) (x_move (.tmp rfl rfl)) ?_))))
 refine st_c cb51 .func (evs1 (.tmp rfl rfl)) (ruint_own hs hp (hsuf) hn) ?_
 rintro e w1 ⟨rfl,hs2⟩
 refine ⟨_,rfl,?_⟩
 refine st (v:=.int .u64 (((rdU cur bad).1:Nat):Int)) (x_assign (.tmp rfl rfl)) ?_
 refine c_nil (n_then (c_seq (c_seq (c_region ?_))))
 have hl2:=(hsuf.rdU bad).len; have hng:=atOf_neg (n:=n) (cur:=(rdU cur bad).2.1) (bad:=(rdU cur bad).2.2) (by omega); have hab2:=atOf_bound (n:=n) (cur:=(rdU cur bad).2.1) (bad:=(rdU cur bad).2.2) (by omega)
 refine st (v:=.pointer (some ⟨g,0,none⟩)) (x_move (.tmp rfl rfl)) ?_
 refine st (v:=.pointer (some ⟨g,0,none⟩)) (x_nilCheck (.tmp rfl rfl)) ?_
 refine st (v:=.pointer (some ⟨g,0 + 1,none⟩)) (fa88_1 (.tmp rfl rfl)) ?_
 refine st (v:=.int .i64 (atOf n (rdU cur bad).2.1 (rdU cur bad).2.2)) (ld3 (.tmp rfl rfl) (hs2.cell 0 rfl (0 + 1) rfl)) ?_
 refine st (v:=.bool (decide (((atOf n (rdU cur bad).2.1 (rdU cur bad).2.2):Int) < 0))) (x_lss (k:=.i64) (a:=(atOf n (rdU cur bad).2.1 (rdU cur bad).2.2)) (b:=0) (.tmp rfl rfl) .const) ?_
 refine st (v:=.bool (decide (((atOf n (rdU cur bad).2.1 (rdU cur bad).2.2):Int) < 0))) (x_move (.tmp rfl rfl)) ?_
 rcases Bool.eq_false_or_eq_true (decide (((atOf n (rdU cur bad).2.1 (rdU cur bad).2.2):Int) < 0)) with hc3 | hc3
 have hp3:((atOf n (rdU cur bad).2.1 (rdU cur bad).2.2):Int) < 0:=of_decide_eq_true hc3
 refine g_no (yk 13 true rfl rfl hc3) rfl ?_
 refine g_no (yk 13 true rfl rfl hc3) rfl ?_
 refine st (v:=.bool true) (x_pick_t (.tmp rfl (cVb hc3)) .const) ?_
 refine st (v:=.bool true) (x_move (.tmp rfl rfl)) ?_
 refine g_no (yl (dj:=17) (b:=true) rfl rfl rfl) rfl ?_
 refine g_no (yl (dj:=17) (b:=true) rfl rfl rfl) rfl ?_
 refine g_no (yl (dj:=17) (b:=true) rfl rfl rfl) rfl ?_
 refine g_no (yl (dj:=17) (b:=true) rfl rfl rfl) rfl ?_
 refine st (v:=.bool true) (x_pick_t (.tmp rfl rfl) .const) ?_
 refine c_nil (n_then (c_cond_t (t:=true) (.tmp rfl rfl) rfl ?_))
 refine c_seq (c_region (st (v:=.pointer (some ⟨g,0,none⟩)) (x_move (.tmp rfl rfl)) ?_))
 refine st (v:=.pointer (some ⟨g,0,none⟩)) (x_nilCheck (.tmp rfl rfl)) ?_
 refine st (v:=.pointer (some ⟨g,0 + 1,none⟩)) (fa88_1 (.tmp rfl rfl)) ?_
 refine st_m0 (sto3 (cs':=[.slice A n c,.int .i64 (-1)]) (i:=0 + 1) hs2 (v:=.int .i64 (-1)) (.tmp rfl rfl) .const rfl (Nat.le_of_ble_eq_true rfl) one1 rfl) ?_
 rintro w4 hs6
 refine c_nil (n_then (c_seq (c_region (st (v:=.int .i64 0) (x_assign .const) ?_))))
 refine c_nil (n_then (c_ret (r_then (leave_ret (res_one (v:=.int .i64 0) rfl (.mk rfl rfl)) ?_))))
 rw [rdI_bad (by first | (left; exact hng.1 (by omega)) | (right; left; omega) | (right; right; omega))]
 exact ⟨rfl,hs6⟩
 have hp3:¬ (((atOf n (rdU cur bad).2.1 (rdU cur bad).2.2):Int) < 0):=of_decide_eq_false hc3
 refine g_yes (yk 13 false rfl rfl hc3) ?_
 refine st (v:=.int .i64 most) (x_move (.tmp rfl rfl)) ?_
 refine g_yes (yk 13 false rfl rfl hc3) ?_
 refine st (v:=.bool (decide ((most:Int) < 0))) (x_lss (k:=.i64) (a:=most) (b:=0) (.tmp rfl rfl) .const) ?_
 refine st (v:=.bool (decide ((most:Int) < 0))) (x_pick_f (.tmp rfl (cVb hc3)) (.tmp rfl rfl)) ?_
 refine st (v:=.bool (decide ((most:Int) < 0))) (x_move (.tmp rfl rfl)) ?_
 rcases Bool.eq_false_or_eq_true (decide ((most:Int) < 0)) with hc7 | hc7
 have hp7:(most:Int) < 0:=of_decide_eq_true hc7
 refine g_no (yk 17 true rfl rfl hc7) rfl ?_
 refine g_no (yk 17 true rfl rfl hc7) rfl ?_
 refine g_no (yk 17 true rfl rfl hc7) rfl ?_
 refine g_no (yk 17 true rfl rfl hc7) rfl ?_
 refine st (v:=.bool true) (x_pick_t (.tmp rfl (cVb hc7)) .const) ?_
 refine c_nil (n_then (c_cond_t (t:=true) (.tmp rfl rfl) rfl ?_))
 refine c_seq (c_region (st (v:=.pointer (some ⟨g,0,none⟩)) (x_move (.tmp rfl rfl)) ?_))
 refine st (v:=.pointer (some ⟨g,0,none⟩)) (x_nilCheck (.tmp rfl rfl)) ?_
 refine st (v:=.pointer (some ⟨g,0 + 1,none⟩)) (fa88_1 (.tmp rfl rfl)) ?_
 refine st_m0 (sto3 (cs':=[.slice A n c,.int .i64 (-1)]) (i:=0 + 1) hs2 (v:=.int .i64 (-1)) (.tmp rfl rfl) .const rfl (Nat.le_of_ble_eq_true rfl) one1 rfl) ?_
 rintro w8 hs10
 refine c_nil (n_then (c_seq (c_region (st (v:=.int .i64 0) (x_assign .const) ?_))))
 refine c_nil (n_then (c_ret (r_then (leave_ret (res_one (v:=.int .i64 0) rfl (.mk rfl rfl)) ?_))))
 rw [rdI_bad (by first | (left; exact hng.1 (by omega)) | (right; left; omega) | (right; right; omega))]
 exact ⟨rfl,hs10⟩
 have hp7:¬ ((most:Int) < 0):=of_decide_eq_false hc7
 refine g_yes (yk 17 false rfl rfl hc7) ?_
 refine st (v:=.int .u64 (((rdU cur bad).1:Nat):Int)) (x_move (.tmp rfl rfl)) ?_
 refine g_yes (yk 17 false rfl rfl hc7) ?_
 refine st (v:=.int .i64 most) (x_move (.tmp rfl rfl)) ?_
 refine g_yes (yk 17 false rfl rfl hc7) ?_
 refine st (v:=.int .u64 (((most % 18446744073709551616).toNat:Nat):Int)) (x_conv (k:=.i64) (a:=most) Try.underlying3 Try.underlying22 (.tmp rfl rfl) (wrapU _ rfl _)) ?_
 refine g_yes (yk 17 false rfl rfl hc7) ?_
 refine st (v:=.bool (decide (((((most % 18446744073709551616).toNat:Nat):Int):Int) < (((rdU cur bad).1:Nat):Int)))) (x_gtr (k:=.u64) (a:=(((rdU cur bad).1:Nat):Int)) (b:=(((most % 18446744073709551616).toNat:Nat):Int)) (.tmp rfl rfl) (.tmp rfl rfl)) ?_
 refine st (v:=.bool (decide (((((most % 18446744073709551616).toNat:Nat):Int):Int) < (((rdU cur bad).1:Nat):Int)))) (x_pick_f (.tmp rfl (cVb hc7)) (.tmp rfl rfl)) ?_
 refine c_nil (n_then ?_)
 rcases Bool.eq_false_or_eq_true (decide (((((most % 18446744073709551616).toNat:Nat):Int):Int) < (((rdU cur bad).1:Nat):Int))) with hc11 | hc11
 have hp11:((((most % 18446744073709551616).toNat:Nat):Int):Int) < (((rdU cur bad).1:Nat):Int):=of_decide_eq_true hc11
 refine c_cond_t (t:=true) (.tmp rfl (cVb hc11)) rfl ?_
 refine c_seq (c_region (st (v:=.pointer (some ⟨g,0,none⟩)) (x_move (.tmp rfl rfl)) ?_))
 refine st (v:=.pointer (some ⟨g,0,none⟩)) (x_nilCheck (.tmp rfl rfl)) ?_
 refine st (v:=.pointer (some ⟨g,0 + 1,none⟩)) (fa88_1 (.tmp rfl rfl)) ?_
 refine st_m0 (sto3 (cs':=[.slice A n c,.int .i64 (-1)]) (i:=0 + 1) hs2 (v:=.int .i64 (-1)) (.tmp rfl rfl) .const rfl (Nat.le_of_ble_eq_true rfl) one1 rfl) ?_
 rintro w12 hs14
 refine c_nil (n_then (c_seq (c_region (st (v:=.int .i64 0) (x_assign .const) ?_))))
 refine c_nil (n_then (c_ret (r_then (leave_ret (res_one (v:=.int .i64 0) rfl (.mk rfl rfl)) ?_))))
 rw [rdI_bad (by first | (left; exact hng.1 (by omega)) | (right; left; omega) | (right; right; omega))]
 exact ⟨rfl,hs14⟩
 have hp11:¬ (((((most % 18446744073709551616).toNat:Nat):Int):Int) < (((rdU cur bad).1:Nat):Int)):=of_decide_eq_false hc11
 refine c_cond_f (t:=false) (.tmp rfl (cVb hc11)) rfl ?_
 refine c_skip (n_then (c_seq (c_region (st (v:=.int .u64 (((rdU cur bad).1:Nat):Int)) (x_move (.tmp rfl rfl)) ?_))))
 refine st (v:=.int .i64 (((rdU cur bad).1:Nat):Int)) (x_conv (k:=.u64) (a:=(((rdU cur bad).1:Nat):Int)) Try.underlying22 Try.underlying3 (.tmp rfl rfl) (w64 (by omega) (by omega))) ?_
 refine st (v:=.int .i64 (((rdU cur bad).1:Nat):Int)) (x_assign (.tmp rfl rfl)) ?_
 refine c_nil (n_then (c_ret (leave_ret (res_one (v:=.int .i64 (((rdU cur bad).1:Nat):Int)) rfl (.mk rfl rfl)) ?_)))
 have hb9:(rdU cur bad).2.2 = false:=by cases hb:(rdU cur bad).2.2 with | false => rfl | true => exact absurd (hng.2 hb) (by omega)
 have hs9:=hs2
 rw [hb9] at hs9
 rw [rdI_good hb9 (by omega) (by omega)]
 exact ⟨rfl,hs9⟩
set_option maxHeartbeats 8000000 in
theorem rbytes_own {H:Hp} {w:World} {L:List Res} {g:Nat} {A:Option Addr} {n c:Nat} {bs cur:List Nat} {bad:Bool} (hs:St H w (obj g 88 [.slice A n c,.int .i64 (atOf n cur bad)]::L)) (hp:Bs H A n c bs) (hsuf:Suf bs cur) (hn:n ≤ 140737488355320) (most:Int) (hm1:-9223372036854775808 ≤ most) (hm2:most ≤ 9223372036854775807):Calls Try.prog 52 #[.pointer (some ⟨g,0,none⟩),.int .i64 most] w (fun e w' => ∃ A' n' c',e = .returned (.slice A' n' c')∧Bs H A' n' c' (rdB cur bad most).1∧St H w' (obj g 88 [.slice A n c,.int .i64 (atOf n (rdB cur bad most).2.1 (rdB cur bad most).2.2)]::L)):=by
 refine enter (args:=[.pointer (some ⟨g,0,none⟩),.int .i64 most]) (N:=56) Try.func52 rfl rfl rfl ?_
 have hlen:=hp.len
 have hle:=hp.le
 have hl:=hsuf.len
 have hab:=atOf_bound (bad:=bad) (show cur.length ≤ n by omega)
 refine c_seq (c_region (st (v:=.slice none 0 0) (x_assign .const) ?_))
 refine c_nil (n_then (c_seq (c_region (st (v:=.pointer (some ⟨g,0,none⟩)) (x_move (.tmp rfl rfl)) ?_))))
 refine st (v:=.int .i64 most) (x_move (.tmp rfl rfl)) ?_
 refine st_c cb48 .func (evs2 (.tmp rfl rfl) (.tmp rfl rfl)) (rint_own hs hp (hsuf) hn most (by omega) (by omega)) ?_
 rintro e w1 ⟨rfl,hs2⟩
 refine ⟨_,rfl,?_⟩
 have:=rdI_le cur bad most (by omega)
 refine st (v:=.int .i64 (((rdI cur bad most).1:Nat):Int)) (x_assign (.tmp rfl rfl)) ?_
 refine c_nil (n_then (c_seq (c_seq (q_region mixed hs2 (by kernel_rfl) ?_))))
 have hl2:=(hsuf.rdI bad most).len; have hng:=atOf_neg (n:=n) (cur:=(rdI cur bad most).2.1) (bad:=(rdI cur bad most).2.2) (by omega); have hab2:=atOf_bound (n:=n) (cur:=(rdI cur bad most).2.1) (bad:=(rdI cur bad most).2.2) (by omega); have hq2:=(atOf_or n (rdI cur bad most).2.1 (rdI cur bad most).2.2).imp (·.2) (·.2)
 refine q_st (v:=.pointer (some ⟨g,0,none⟩)) (fun w hs => (x_move (.tmp rfl rfl))) ?_
 refine q_st (v:=.pointer (some ⟨g,0,none⟩)) (fun w hs => (x_nilCheck (.tmp rfl rfl))) ?_
 refine q_st (v:=.pointer (some ⟨g,0 + 1,none⟩)) (fun w hs => (fa88_1 (.tmp rfl rfl))) ?_
 refine q_st (v:=.int .i64 (atOf n (rdI cur bad most).2.1 (rdI cur bad most).2.2)) (fun w hs => (ld3 (.tmp rfl rfl) (hs.cell 0 rfl (0 + 1) rfl))) ?_
 refine q_st (v:=.bool (decide (((atOf n (rdI cur bad most).2.1 (rdI cur bad most).2.2):Int) < 0))) (fun w hs => (x_lss (k:=.i64) (a:=(atOf n (rdI cur bad most).2.1 (rdI cur bad most).2.2)) (b:=0) (.tmp rfl rfl) .const)) ?_
 refine q_st (v:=.bool (decide (((atOf n (rdI cur bad most).2.1 (rdI cur bad most).2.2):Int) < 0))) (fun w hs => (x_move (.tmp rfl rfl))) ?_
 rcases Bool.eq_false_or_eq_true (decide (((atOf n (rdI cur bad most).2.1 (rdI cur bad most).2.2):Int) < 0)) with hc3 | hc3
 have hp3:((atOf n (rdI cur bad most).2.1 (rdI cur bad most).2.2):Int) < 0:=of_decide_eq_true hc3
 refine q_no (yk 15 true rfl rfl hc3) rfl ?_
 refine q_no (yk 15 true rfl rfl hc3) rfl ?_
 refine q_no (yk 15 true rfl rfl hc3) rfl ?_
 refine q_no (yk 15 true rfl rfl hc3) rfl ?_
 refine q_no (yk 15 true rfl rfl hc3) rfl ?_
 refine q_no (yk 15 true rfl rfl hc3) rfl ?_
 refine q_no (yk 15 true rfl rfl hc3) rfl ?_
 refine q_no (yk 15 true rfl rfl hc3) rfl ?_
 refine q_no (yk 15 true rfl rfl hc3) rfl ?_
 refine q_no (yk 15 true rfl rfl hc3) rfl ?_
 refine q_no (yk 15 true rfl rfl hc3) rfl ?_
 refine q_no (yk 15 true rfl rfl hc3) rfl ?_
 refine q_st (v:=.bool true) (fun w hs => (x_pick_t (.tmp rfl (cVb hc3)) .const)) ?_
 refine q_nil ?_
 intro w hs4
 refine n_then (c_cond_t (t:=true) (.tmp rfl rfl) rfl ?_)
 refine c_seq (c_region (st (v:=.pointer (some ⟨g,0,none⟩)) (x_move (.tmp rfl rfl)) ?_))
 refine st (v:=.pointer (some ⟨g,0,none⟩)) (x_nilCheck (.tmp rfl rfl)) ?_
 refine st (v:=.pointer (some ⟨g,0 + 1,none⟩)) (fa88_1 (.tmp rfl rfl)) ?_
 refine st_m0 (sto3 (cs':=[.slice A n c,.int .i64 (-1)]) (i:=0 + 1) hs4 (v:=.int .i64 (-1)) (.tmp rfl rfl) .const rfl (Nat.le_of_ble_eq_true rfl) one1 rfl) ?_
 rintro w5 hs7
 refine c_nil (n_then (c_seq (c_region (st (v:=.slice none 0 0) (x_assign .const) ?_))))
 refine c_nil (n_then (c_ret (r_then (leave_ret (res_one (v:=.slice none 0 0) rfl (.mk rfl rfl)) ?_))))
 rcases atOf_or n (rdI cur bad most).2.1 (rdI cur bad most).2.2 with ⟨hb9,hx9⟩ | ⟨hb9,hx9⟩
 · rw [rdB_bad (.inl hb9)]; exact ⟨_,_,_,rfl,Bs.nil H none,hs7⟩
 · rw [rdB_bad (.inr (by omega))]; exact ⟨_,_,_,rfl,Bs.nil H none,hs7⟩
 have hp3:¬ (((atOf n (rdI cur bad most).2.1 (rdI cur bad most).2.2):Int) < 0):=of_decide_eq_false hc3
 refine q_yes (yk 15 false rfl rfl hc3) ?_
 refine q_st (v:=.int .i64 (((rdI cur bad most).1:Nat):Int)) (fun w hs => (x_move (.tmp rfl rfl))) ?_
 refine q_yes (yk 15 false rfl rfl hc3) ?_
 refine q_st (v:=.pointer (some ⟨g,0,none⟩)) (fun w hs => (x_move (.tmp rfl rfl))) ?_
 refine q_yes (yk 15 false rfl rfl hc3) ?_
 refine q_st (v:=.pointer (some ⟨g,0,none⟩)) (fun w hs => (x_nilCheck (.tmp rfl rfl))) ?_
 refine q_yes (yk 15 false rfl rfl hc3) ?_
 refine q_st (v:=.pointer (some ⟨g,0 + 0,none⟩)) (fun w hs => (fa88_0 (.tmp rfl rfl))) ?_
 refine q_yes (yk 15 false rfl rfl hc3) ?_
 refine q_st (v:=.slice A n c) (fun w hs => (ld33 (.tmp rfl rfl) (hs.cell 0 rfl (0 + 0) rfl))) ?_
 refine q_yes (yk 15 false rfl rfl hc3) ?_
 refine q_st (v:=.int .i64 ((n:Nat):Int)) (fun w hs => (x_len (n:=n) Try.underlying33 (.tmp rfl rfl))) ?_
 refine q_yes (yk 15 false rfl rfl hc3) ?_
 refine q_st (v:=.pointer (some ⟨g,0,none⟩)) (fun w hs => (x_move (.tmp rfl rfl))) ?_
 refine q_yes (yk 15 false rfl rfl hc3) ?_
 refine q_st (v:=.pointer (some ⟨g,0,none⟩)) (fun w hs => (x_nilCheck (.tmp rfl rfl))) ?_
 refine q_yes (yk 15 false rfl rfl hc3) ?_
 refine q_st (v:=.pointer (some ⟨g,0 + 1,none⟩)) (fun w hs => (fa88_1 (.tmp rfl rfl))) ?_
 refine q_yes (yk 15 false rfl rfl hc3) ?_
 refine q_st (v:=.int .i64 (atOf n (rdI cur bad most).2.1 (rdI cur bad most).2.2)) (fun w hs => (ld3 (.tmp rfl rfl) (hs.cell 0 rfl (0 + 1) rfl))) ?_
 refine q_yes (yk 15 false rfl rfl hc3) ?_
 refine q_st (v:=.int .i64 (((n:Nat):Int) - (atOf n (rdI cur bad most).2.1 (rdI cur bad most).2.2))) (fun w hs => (x_sub (k:=.i64) (a:=((n:Nat):Int)) (b:=(atOf n (rdI cur bad most).2.1 (rdI cur bad most).2.2)) (.tmp rfl rfl) (.tmp rfl rfl) (w64 (by omega) (by omega)))) ?_
 refine q_yes (yk 15 false rfl rfl hc3) ?_
 refine q_st (v:=.bool (decide (((((n:Nat):Int) - (atOf n (rdI cur bad most).2.1 (rdI cur bad most).2.2)):Int) < (((rdI cur bad most).1:Nat):Int)))) (fun w hs => (x_gtr (k:=.i64) (a:=(((rdI cur bad most).1:Nat):Int)) (b:=(((n:Nat):Int) - (atOf n (rdI cur bad most).2.1 (rdI cur bad most).2.2))) (.tmp rfl rfl) (.tmp rfl rfl))) ?_
 refine q_st (v:=.bool (decide (((((n:Nat):Int) - (atOf n (rdI cur bad most).2.1 (rdI cur bad most).2.2)):Int) < (((rdI cur bad most).1:Nat):Int)))) (fun w hs => (x_pick_f (.tmp rfl (cVb hc3)) (.tmp rfl rfl))) ?_
 refine q_nil ?_
 intro w hs8
 refine n_then ?_
 rcases Bool.eq_false_or_eq_true (decide (((((n:Nat):Int) - (atOf n (rdI cur bad most).2.1 (rdI cur bad most).2.2)):Int) < (((rdI cur bad most).1:Nat):Int))) with hc9 | hc9
 have hp9:((((n:Nat):Int) - (atOf n (rdI cur bad most).2.1 (rdI cur bad most).2.2)):Int) < (((rdI cur bad most).1:Nat):Int):=of_decide_eq_true hc9
 refine c_cond_t (t:=true) (.tmp rfl (cVb hc9)) rfl ?_
 refine c_seq (c_region (st (v:=.pointer (some ⟨g,0,none⟩)) (x_move (.tmp rfl rfl)) ?_))
 refine st (v:=.pointer (some ⟨g,0,none⟩)) (x_nilCheck (.tmp rfl rfl)) ?_
 refine st (v:=.pointer (some ⟨g,0 + 1,none⟩)) (fa88_1 (.tmp rfl rfl)) ?_
 refine st_m0 (sto3 (cs':=[.slice A n c,.int .i64 (-1)]) (i:=0 + 1) hs8 (v:=.int .i64 (-1)) (.tmp rfl rfl) .const rfl (Nat.le_of_ble_eq_true rfl) one1 rfl) ?_
 rintro w10 hs12
 refine c_nil (n_then (c_seq (c_region (st (v:=.slice none 0 0) (x_assign .const) ?_))))
 refine c_nil (n_then (c_ret (r_then (leave_ret (res_one (v:=.slice none 0 0) rfl (.mk rfl rfl)) ?_))))
 rcases atOf_or n (rdI cur bad most).2.1 (rdI cur bad most).2.2 with ⟨hb9,hx9⟩ | ⟨hb9,hx9⟩
 · rw [rdB_bad (.inl hb9)]; exact ⟨_,_,_,rfl,Bs.nil H none,hs12⟩
 · rw [rdB_bad (.inr (by omega))]; exact ⟨_,_,_,rfl,Bs.nil H none,hs12⟩
 have hp9:¬ (((((n:Nat):Int) - (atOf n (rdI cur bad most).2.1 (rdI cur bad most).2.2)):Int) < (((rdI cur bad most).1:Nat):Int)):=of_decide_eq_false hc9
 refine c_cond_f (t:=false) (.tmp rfl (cVb hc9)) rfl ?_
 refine c_skip (n_then (c_seq (q_region mixed hs8 (by kernel_rfl) ?_)))
 refine q_st (v:=.pointer (some ⟨g,0,none⟩)) (fun w hs => (x_move (.tmp rfl rfl))) ?_
 refine q_st (v:=.pointer (some ⟨g,0,none⟩)) (fun w hs => (x_nilCheck (.tmp rfl rfl))) ?_
 refine q_st (v:=.pointer (some ⟨g,0 + 0,none⟩)) (fun w hs => (fa88_0 (.tmp rfl rfl))) ?_
 refine q_st (v:=.slice A n c) (fun w hs => (ld33 (.tmp rfl rfl) (hs.cell 0 rfl (0 + 0) rfl))) ?_
 refine q_st (v:=.pointer (some ⟨g,0,none⟩)) (fun w hs => (x_move (.tmp rfl rfl))) ?_
 refine q_st (v:=.pointer (some ⟨g,0,none⟩)) (fun w hs => (x_nilCheck (.tmp rfl rfl))) ?_
 refine q_st (v:=.pointer (some ⟨g,0 + 1,none⟩)) (fun w hs => (fa88_1 (.tmp rfl rfl))) ?_
 refine q_st (v:=.int .i64 (atOf n (rdI cur bad most).2.1 (rdI cur bad most).2.2)) (fun w hs => (ld3 (.tmp rfl rfl) (hs.cell 0 rfl (0 + 1) rfl))) ?_
 refine q_st (v:=.pointer (some ⟨g,0,none⟩)) (fun w hs => (x_move (.tmp rfl rfl))) ?_
 refine q_st (v:=.pointer (some ⟨g,0,none⟩)) (fun w hs => (x_nilCheck (.tmp rfl rfl))) ?_
 refine q_st (v:=.pointer (some ⟨g,0 + 1,none⟩)) (fun w hs => (fa88_1 (.tmp rfl rfl))) ?_
 refine q_st (v:=.int .i64 (atOf n (rdI cur bad most).2.1 (rdI cur bad most).2.2)) (fun w hs => (ld3 (.tmp rfl rfl) (hs.cell 0 rfl (0 + 1) rfl))) ?_
 refine q_st (v:=.int .i64 (((rdI cur bad most).1:Nat):Int)) (fun w hs => (x_move (.tmp rfl rfl))) ?_
 refine q_st (v:=.int .i64 ((atOf n (rdI cur bad most).2.1 (rdI cur bad most).2.2) + (((rdI cur bad most).1:Nat):Int))) (fun w hs => (x_add (k:=.i64) (a:=(atOf n (rdI cur bad most).2.1 (rdI cur bad most).2.2)) (b:=(((rdI cur bad most).1:Nat):Int)) (.tmp rfl rfl) (.tmp rfl rfl) (w64 (by omega) (by omega)))) ?_
 have:=hp.le
 refine q_st (v:=.slice (cutA A c ((atOf n (rdI cur bad most).2.1 (rdI cur bad most).2.2).toNat) 1) (((atOf n (rdI cur bad most).2.1 (rdI cur bad most).2.2) + (((rdI cur bad most).1:Nat):Int)).toNat - (atOf n (rdI cur bad most).2.1 (rdI cur bad most).2.2).toNat) (c - (atOf n (rdI cur bad most).2.1 (rdI cur bad most).2.2).toNat)) (fun w hs => (bs_lh Try.underlying33 inf5 (a:=(atOf n (rdI cur bad most).2.1 (rdI cur bad most).2.2)) (b:=((atOf n (rdI cur bad most).2.1 (rdI cur bad most).2.2) + (((rdI cur bad most).1:Nat):Int))) (.tmp rfl rfl) (.tmp rfl rfl) (.tmp rfl rfl) (by omega) (by omega) (by omega))) ?_
 refine q_st (v:=.slice (cutA A c ((atOf n (rdI cur bad most).2.1 (rdI cur bad most).2.2).toNat) 1) (((atOf n (rdI cur bad most).2.1 (rdI cur bad most).2.2) + (((rdI cur bad most).1:Nat):Int)).toNat - (atOf n (rdI cur bad most).2.1 (rdI cur bad most).2.2).toNat) (c - (atOf n (rdI cur bad most).2.1 (rdI cur bad most).2.2).toNat)) (fun w hs => (x_assign (.tmp rfl rfl))) ?_
 refine q_nil ?_
 intro w hs13
 refine n_then (c_seq (c_region (st (v:=.pointer (some ⟨g,0,none⟩)) (x_move (.tmp rfl rfl)) ?_)))
 refine st (v:=.pointer (some ⟨g,0,none⟩)) (x_nilCheck (.tmp rfl rfl)) ?_
 refine st (v:=.pointer (some ⟨g,0 + 1,none⟩)) (fa88_1 (.tmp rfl rfl)) ?_
 refine st (v:=.int .i64 (atOf n (rdI cur bad most).2.1 (rdI cur bad most).2.2)) (ld3 (.tmp rfl rfl) (hs13.cell 0 rfl (0 + 1) rfl)) ?_
 refine st (v:=.int .i64 (((rdI cur bad most).1:Nat):Int)) (x_move (.tmp rfl rfl)) ?_
 refine st (v:=.int .i64 ((atOf n (rdI cur bad most).2.1 (rdI cur bad most).2.2) + (((rdI cur bad most).1:Nat):Int))) (x_add (k:=.i64) (a:=(atOf n (rdI cur bad most).2.1 (rdI cur bad most).2.2)) (b:=(((rdI cur bad most).1:Nat):Int)) (.tmp rfl rfl) (.tmp rfl rfl) (w64 (by omega) (by omega))) ?_
 refine st (v:=.pointer (some ⟨g,0,none⟩)) (x_nilCheck (.tmp rfl rfl)) ?_
 refine st (v:=.pointer (some ⟨g,0 + 1,none⟩)) (fa88_1 (.tmp rfl rfl)) ?_
 refine st_m0 (sto3 (cs':=[.slice A n c,.int .i64 ((atOf n (rdI cur bad most).2.1 (rdI cur bad most).2.2) + (((rdI cur bad most).1:Nat):Int))]) (i:=0 + 1) hs13 (v:=.int .i64 ((atOf n (rdI cur bad most).2.1 (rdI cur bad most).2.2) + (((rdI cur bad most).1:Nat):Int))) (.tmp rfl rfl) (.tmp rfl rfl) rfl (Nat.le_of_ble_eq_true rfl) one1 rfl) ?_
 rintro w14 hs16
 refine c_nil (n_then (c_seq (c_region (st (v:=.slice (cutA A c ((atOf n (rdI cur bad most).2.1 (rdI cur bad most).2.2).toNat) 1) (((atOf n (rdI cur bad most).2.1 (rdI cur bad most).2.2) + (((rdI cur bad most).1:Nat):Int)).toNat - (atOf n (rdI cur bad most).2.1 (rdI cur bad most).2.2).toNat) (c - (atOf n (rdI cur bad most).2.1 (rdI cur bad most).2.2).toNat)) (x_move (.tmp rfl rfl)) ?_))))
 refine st (v:=.slice (cutA A c ((atOf n (rdI cur bad most).2.1 (rdI cur bad most).2.2).toNat) 1) (((atOf n (rdI cur bad most).2.1 (rdI cur bad most).2.2) + (((rdI cur bad most).1:Nat):Int)).toNat - (atOf n (rdI cur bad most).2.1 (rdI cur bad most).2.2).toNat) (c - (atOf n (rdI cur bad most).2.1 (rdI cur bad most).2.2).toNat)) (x_assign (.tmp rfl rfl)) ?_
 refine c_nil (n_then (c_ret (leave_ret (res_one (v:=.slice (cutA A c ((atOf n (rdI cur bad most).2.1 (rdI cur bad most).2.2).toNat) 1) (((atOf n (rdI cur bad most).2.1 (rdI cur bad most).2.2) + (((rdI cur bad most).1:Nat):Int)).toNat - (atOf n (rdI cur bad most).2.1 (rdI cur bad most).2.2).toNat) (c - (atOf n (rdI cur bad most).2.1 (rdI cur bad most).2.2).toNat)) rfl (.mk rfl rfl)) ?_)))
 rcases atOf_or n (rdI cur bad most).2.1 (rdI cur bad most).2.2 with ⟨hb9,hx9⟩ | ⟨hb9,hx9⟩
 · exfalso; omega
 · have hr9:=rdB_at hlen (hsuf.rdI bad most) (m:=(rdI cur bad most).1) (by omega)
   rw [← hx9] at hr9
   have hp9:=((hp.take (k:=((atOf n (rdI cur bad most).2.1 (rdI cur bad most).2.2) + (((rdI cur bad most).1:Nat):Int)).toNat) (by omega)).drop (k:=(atOf n (rdI cur bad most).2.1 (rdI cur bad most).2.2).toNat) (by omega))
   have hs9:=hs16
   rw [rdB_good hb9 (by omega)]
   refine ⟨_,_,_,rfl,by rw [← hr9]; exact hp9,?_⟩
   rw [atOf_false,List.length_drop,show (n:Int) - (((rdI cur bad most).2.1.length - (rdI cur bad most).1:Nat):Int) = atOf n (rdI cur bad most).2.1 (rdI cur bad most).2.2 + ((rdI cur bad most).1:Int) by omega]
   exact hs9
end Go.Proofs.Ytlfihfmmhhcigaa
