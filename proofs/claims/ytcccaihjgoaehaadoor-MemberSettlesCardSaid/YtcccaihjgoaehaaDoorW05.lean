/- Steps of the proofs over the functions of this seat, printed by a program (gen.py) and checked by Lean. -/
import Derived.Test.YtcccaihjgoaehaaDoorW01
import Derived.Test.YtcccaihjgoaehaaDoorW00
import Derived.Test.YtcccaihjgoaehaaDoorW04
set_option linter.unusedVariables false
set_option linter.unusedSimpArgs false
namespace Go.Proofs.YtcccaihjgoaehaaDoor
open Go Go.FM Go.Proofs
attribute [local irreducible] wpList wpQuiet wpS Code.wp Calls
set_option maxHeartbeats 8000000 in
theorem ahead_X {H:Hp} {w:World} {L:List Res} {g_m m_n m_self m_high:Nat} {m_cur:GView} {m_prom:GViewID} {m_jl:List GState} {m_os:List (GViewID × GViewID)} {A_m:Option Addr} {jn_m jc_m:Nat} {m_prop:Option GProp} {pv_m:Value} (hs:St H w (obj g_m 78 ((.int .i64 ((m_n:Nat):Int))::(.int .i64 ((m_self:Nat):Int))::(.int .u64 ((m_cur.ID.N:Nat):Int))::(.int .i64 m_cur.ID.P)::(.int .u16 ((m_cur.Set:Nat):Int))::(.int .u64 ((m_prom.N:Nat):Int))::(.int .i64 m_prom.P)::(.int .u64 ((m_high:Nat):Int))::pv_m::(.slice A_m jn_m jc_m)::oCells m_os)::L)) (ok_m:MemB H m_n m_self m_cur m_prom m_high A_m jn_m jc_m m_jl m_os) (set:Nat) (b_set:set < 65536) (v:GViewID) {k_v:List Value} (h_v:kViewID.rep H v k_v) (htab:Tab H):Calls Tryd.prog 25 #[.pointer (some ⟨g_m,0,none⟩),.int .u16 ((set:Nat):Int),.agg k_v.toArray] w (fun e w' => e = .returned (.bool (MB.ahead (MB.mk m_n m_self m_cur m_prom m_high m_prop m_jl m_os) set v))∧St H w' (obj g_m 78 ((.int .i64 ((m_n:Nat):Int))::(.int .i64 ((m_self:Nat):Int))::(.int .u64 ((m_cur.ID.N:Nat):Int))::(.int .i64 m_cur.ID.P)::(.int .u16 ((m_cur.Set:Nat):Int))::(.int .u64 ((m_prom.N:Nat):Int))::(.int .i64 m_prom.P)::(.int .u64 ((m_high:Nat):Int))::pv_m::(.slice A_m jn_m jc_m)::oCells m_os)::L)):=by
 have hn1_m:1 ≤ m_n:=ok_m.n1
 have hn16_m:m_n ≤ 16:=ok_m.n16
 have hsf_m:m_self < m_n:=ok_m.self
 have hol_m:m_os.length = 16:=ok_m.len
 have hhi_m:m_high < 18446744073709551616:=ok_m.high
 obtain ⟨rfl,b1,⟨b2,b3⟩⟩:=h_v
 refine enter (args:=[.pointer (some ⟨g_m,0,none⟩),.int .u16 ((set:Nat):Int),.agg #[.int .u64 ((v.N:Nat):Int),.int .i64 v.P]]) (N:=34) Tryd.func25 rfl rfl rfl ?_
 have hll:(lst set).length ≤ 16:=by rw [lst_length]; exact pc_le 16 set
 refine c_seq (c_region (st_m (m_box (cs:=[.int .u64 ((v.N:Nat):Int),.int .i64 v.P]) hs (v:=.agg #[.int .u64 ((v.N:Nat):Int),.int .i64 v.P]) (.tmp rfl rfl) rfl) ?_))
 rintro _ w5 ⟨g4,rfl,hs7⟩
 refine st (v:=.bool false) (x_assign .const) ?_
 refine c_nil (n_then (c_seq (c_seq (c_region (st (v:=.int .u16 ((set:Nat):Int)) (x_move (.tmp rfl rfl)) ?_)))))
 refine st_c cb36 .func (evs1 (.tmp rfl rfl)) (list_spec hs7 htab set b_set) ?_
 rintro e w9 ⟨v8,rfl,ok10,hs11⟩
 refine ⟨_,rfl,?_⟩
 obtain ⟨A13,c14,hv15,hc16⟩:=ok10.slice
 refine st (v:=.int .i64 (((lst set).length:Nat):Int)) (x_len (n:=(lst set).length) Tryd.underlying71 (.tmp rfl hv15)) ?_
 refine st (v:=.int .i64 0) (x_move .const) ?_
 refine c_nil (n_then (c_block (c_loop (fun ρ w mm => ∃ (i:Nat),ρ 0 = .pointer (some ⟨g_m,0,none⟩)∧ρ 5 = .pointer (some ⟨g4,0,none⟩)∧ρ 10 = v8∧ρ 11 = .int .i64 (((lst set).length:Nat):Int)∧ρ 12 = .int .i64 ((i:Nat):Int)∧(i ≤ (lst set).length)∧(((lst set).take i).any (fun j => decide (j ≠ (MB.self (MB.mk m_n m_self m_cur m_prom m_high m_prop m_jl m_os))) && aboveV (MB.other (MB.mk m_n m_self m_cur m_prom m_high m_prop m_jl m_os) j).2 v) = false)∧St H w (row 3 1 v8 ((lst set).length) ((lst set).map encI)::obj g4 34 (clViewID v)::obj g_m 78 ((.int .i64 ((m_n:Nat):Int))::(.int .i64 ((m_self:Nat):Int))::(.int .u64 ((m_cur.ID.N:Nat):Int))::(.int .i64 m_cur.ID.P)::(.int .u16 ((m_cur.Set:Nat):Int))::(.int .u64 ((m_prom.N:Nat):Int))::(.int .i64 m_prom.P)::(.int .u64 ((m_high:Nat):Int))::pv_m::(.slice A_m jn_m jc_m)::oCells m_os)::L)∧mm = (lst set).length - i) _ ⟨0,rfl,rfl,rfl,rfl,rfl,(by omega),rfl,(((hs11.p2).p2).p2),rfl⟩ ?_)))
 rintro ρ w mm ⟨i,hρ18,hρ19,hρ20,hρ21,hρ22,hi,ha,hs23,rfl⟩
 refine c_seq (c_region (st (v:=.bool (decide ((((i:Nat):Int):Int) < (((lst set).length:Nat):Int)))) (x_lss (k:=.i64) (a:=((i:Nat):Int)) (b:=(((lst set).length:Nat):Int)) (.tmp rfl hρ22) (.tmp rfl hρ21)) ?_))
 refine c_nil (n_then (c_seq ?_))
 rcases Bool.eq_false_or_eq_true (decide ((((i:Nat):Int):Int) < (((lst set).length:Nat):Int))) with hc24 | hc24
 have hp24:(((i:Nat):Int):Int) < (((lst set).length:Nat):Int):=of_decide_eq_true hc24
 refine c_cond_t (t:=true) (.tmp rfl (cVb hc24)) rfl ?_
 refine c_skip (n_then (c_seq (c_block (c_seq (c_region ?_)))))
 obtain ⟨g25,c26,hv27⟩:=ok10.pos (by omega)
 refine st (v:=.pointer (some ⟨g25,(i),none⟩)) (ixo71 (.tmp rfl (hρ20.trans hv27)) rfl (i:=((i:Nat):Int)) (.tmp rfl hρ22) (by omega) (by omega) (by omega)) ?_
 obtain ⟨z28,hz29⟩:∃ x,(lst set)[i]? = some x:=⟨_,List.getElem?_eq_getElem (by omega)⟩
 refine st (v:=.int .i64 ((z28:Nat):Int)) (ld3 (.tmp rfl rfl) (hs23.rowEnc (enc:=encI) 0 rfl hv27 i hz29)) ?_
 refine st (v:=.int .i64 ((z28:Nat):Int)) (x_assign (.tmp rfl rfl)) ?_
 refine c_nil (n_then (c_seq (q_region mixed hs23 (by kernel_rfl) ?_)))
 have hz16:=lst_lt hz29
 refine q_st (v:=.int .i64 ((z28:Nat):Int)) (fun w hs => (x_move (.tmp rfl rfl))) ?_
 refine q_st (v:=.pointer (some ⟨g_m,0,none⟩)) (fun w hs => (x_move (.tmp rfl hρ18))) ?_
 refine q_st (v:=.pointer (some ⟨g_m,0,none⟩)) (fun w hs => (x_nilCheck (.tmp rfl rfl))) ?_
 refine q_st (v:=.pointer (some ⟨g_m,0 + 1,none⟩)) (fun w hs => (fa78_1 (.tmp rfl rfl))) ?_
 refine q_st (v:=.int .i64 ((m_self:Nat):Int)) (fun w hs => (ld3 (.tmp rfl rfl) (hs.cell 2 rfl (0 + 1) rfl))) ?_
 refine q_st (v:=.bool (decide ((((z28:Nat):Int):Int) ≠ ((m_self:Nat):Int)))) (fun w hs => (x_neq (k:=.i64) (a:=((z28:Nat):Int)) (b:=((m_self:Nat):Int)) (.tmp rfl rfl) (.tmp rfl rfl))) ?_
 refine q_st (v:=.bool (decide ((((z28:Nat):Int):Int) ≠ ((m_self:Nat):Int)))) (fun w hs => (x_move (.tmp rfl rfl))) ?_
 rcases Bool.eq_false_or_eq_true (decide ((((z28:Nat):Int):Int) ≠ ((m_self:Nat):Int))) with hc30 | hc30
 have hp30:(((z28:Nat):Int):Int) ≠ ((m_self:Nat):Int):=of_decide_eq_true hc30
 refine q_yes (yk 22 true rfl rfl hc30) ?_
 refine q_st (v:=.pointer (some ⟨g_m,0,none⟩)) (fun w hs => (x_move (.tmp rfl hρ18))) ?_
 refine q_yes (yk 22 true rfl rfl hc30) ?_
 refine q_st (v:=.int .i64 ((z28:Nat):Int)) (fun w hs => (x_move (.tmp rfl rfl))) ?_
 refine q_yes (yk 22 true rfl rfl hc30) ?_
 refine q_st (v:=.pointer (some ⟨g_m,0,none⟩)) (fun w hs => (x_nilCheck (.tmp rfl rfl))) ?_
 refine q_yes (yk 22 true rfl rfl hc30) ?_
 refine q_st (v:=.pointer (some ⟨g_m,0 + 10,none⟩)) (fun w hs => (fa78_7 (.tmp rfl rfl))) ?_
 refine q_yes (yk 22 true rfl rfl hc30) ?_
 refine q_st (v:=.pointer (some ⟨g_m,(10 + z28 * 15),none⟩)) (fun w hs => (ixo76 (.tmp rfl rfl) (i:=((z28:Nat):Int)) (.tmp rfl rfl) (by omega) (by omega) (by omega))) ?_
 refine q_yes (yk 22 true rfl rfl hc30) ?_
 refine q_st (v:=.pointer (some ⟨g_m,(10 + z28 * 15) + 7,none⟩)) (fun w hs => (fa51_5 (.tmp rfl rfl))) ?_
 refine q_yes (yk 22 true rfl rfl hc30) ?_
 refine q_st (v:=.agg #[.int .u64 (((m_os.getD z28 (z0,z0)).2.N:Nat):Int),.int .i64 ((m_os.getD z28 (z0,z0)).2.P)]) (fun w hs => (ld34 (cs:=[.int .u64 (((m_os.getD z28 (z0,z0)).2.N:Nat):Int),.int .i64 ((m_os.getD z28 (z0,z0)).2.P)]) (.tmp rfl rfl) (oth_at hs 2 rfl ok_m.len (idx:=z28) (k:=7) (by omega) (ds:=[.int .u64 (((m_os.getD z28 (z0,z0)).2.N:Nat):Int),.int .i64 ((m_os.getD z28 (z0,z0)).2.P)]) rfl) rfl)) ?_
 refine q_yes (yk 22 true rfl rfl hc30) ?_
 refine q_st (v:=.agg #[.int .u64 ((v.N:Nat):Int),.int .i64 v.P]) (fun w hs => (ld34 (cs:=[.int .u64 ((v.N:Nat):Int),.int .i64 v.P]) (.tmp rfl hρ19) (hs.at_ 1 rfl (0) rfl) rfl)) ?_
 refine q_yes (yk 22 true rfl rfl hc30) ?_
 refine q_c (v:=.bool (decide (0 < cmpV ((m_os.getD z28 (z0,z0)).2.N) ((m_os.getD z28 (z0,z0)).2.P) v.N v.P))) cb33 .func (evs2 (.tmp rfl rfl) (.tmp rfl rfl)) (fun w hs => above_spec hs ((m_os.getD z28 (z0,z0)).2.N) ((m_os.getD z28 (z0,z0)).2.P) v.N v.P) ?_
 refine q_st (v:=.bool (decide (0 < cmpV ((m_os.getD z28 (z0,z0)).2.N) ((m_os.getD z28 (z0,z0)).2.P) v.N v.P))) (fun w hs => (x_pick_t (.tmp rfl (cVb hc30)) (.tmp rfl rfl))) ?_
 refine q_nil ?_
 intro w hs31
 refine n_then ?_
 rcases Bool.eq_false_or_eq_true (decide (0 < cmpV ((m_os.getD z28 (z0,z0)).2.N) ((m_os.getD z28 (z0,z0)).2.P) v.N v.P)) with hc32 | hc32
 refine c_cond_t (t:=true) (.tmp rfl (cVb hc32)) rfl ?_
 refine c_seq (c_region (st (v:=.bool true) (x_assign .const) ?_))
 refine c_nil (n_then (c_ret (r_block (r_then (r_then (r_block (r_then (leave_ret (res_one (v:=.bool true) rfl (.mk rfl rfl)) ?_))))))))
 have hans33:(MB.ahead (MB.mk m_n m_self m_cur m_prom m_high m_prop m_jl m_os) set v) = true:=any_yes hz29 (ah_yes hc30 hc32)
 rw [hans33]
 exact ⟨rfl,hs31.drop.drop⟩
 refine c_cond_f (t:=false) (.tmp rfl (cVb hc32)) rfl ?_
 refine c_skip (n_block (n_then (c_region (st (v:=.int .i64 (((i + 1):Nat):Int)) (x_add (k:=.i64) (a:=((i:Nat):Int)) (b:=1) (.tmp rfl hρ22) .const ((w64 (by omega) (by omega)).trans (by omega))) ?_))))
 refine st (v:=.int .i64 (((i + 1):Nat):Int)) (x_move (.tmp rfl rfl)) ?_
 refine c_nil ?_
 refine n_then ⟨_,_,rfl,?_,(i + 1),hρ18,hρ19,hρ20,hρ21,rfl,(by omega),(any_take_no ha hz29 (ah_no2 hc32)),(((hs31.p2).p2).p2),rfl⟩
 omega
 have hp30:¬ ((((z28:Nat):Int):Int) ≠ ((m_self:Nat):Int)):=of_decide_eq_false hc30
 refine q_no (yk 22 false rfl rfl hc30) rfl ?_
 refine q_no (yk 22 false rfl rfl hc30) rfl ?_
 refine q_no (yk 22 false rfl rfl hc30) rfl ?_
 refine q_no (yk 22 false rfl rfl hc30) rfl ?_
 refine q_no (yk 22 false rfl rfl hc30) rfl ?_
 refine q_no (yk 22 false rfl rfl hc30) rfl ?_
 refine q_no (yk 22 false rfl rfl hc30) rfl ?_
 refine q_no (yk 22 false rfl rfl hc30) rfl ?_
 refine q_no (yk 22 false rfl rfl hc30) rfl ?_
 refine q_st (v:=.bool false) (fun w hs => (x_pick_f (.tmp rfl (cVb hc30)) .const)) ?_
 refine q_nil ?_
 intro w hs34
 refine n_then (c_cond_f (t:=false) (.tmp rfl rfl) rfl ?_)
 refine c_skip (n_block (n_then (c_region (st (v:=.int .i64 (((i + 1):Nat):Int)) (x_add (k:=.i64) (a:=((i:Nat):Int)) (b:=1) (.tmp rfl hρ22) .const ((w64 (by omega) (by omega)).trans (by omega))) ?_))))
 refine st (v:=.int .i64 (((i + 1):Nat):Int)) (x_move (.tmp rfl rfl)) ?_
 refine c_nil ?_
 refine n_then ⟨_,_,rfl,?_,(i + 1),hρ18,hρ19,hρ20,hρ21,rfl,(by omega),(any_take_no ha hz29 (ah_no1 hc30)),(((hs34.p2).p2).p2),rfl⟩
 omega
 have hp24:¬ ((((i:Nat):Int):Int) < (((lst set).length:Nat):Int)):=of_decide_eq_false hc24
 refine c_cond_f (t:=false) (.tmp rfl (cVb hc24)) rfl ?_
 refine c_exit (x_then (x_then (x_here (n_then (c_seq (c_region (st (v:=.bool false) (x_assign .const) ?_)))))))
 refine c_nil (n_then (c_ret (leave_ret (res_one (v:=.bool false) rfl (.mk rfl rfl)) ?_)))
 have hans35:(MB.ahead (MB.mk m_n m_self m_cur m_prom m_high m_prop m_jl m_os) set v) = false:=any_take_end ha (by omega)
 rw [hans35]
 exact ⟨rfl,hs23.drop.drop⟩
end Go.Proofs.YtcccaihjgoaehaaDoor

set_option linter.unusedVariables false
set_option linter.unusedSimpArgs false
namespace Go.Proofs.YtcccaihjgoaehaaDoor
open Go Go.FM Go.Proofs
attribute [local irreducible] wpList wpQuiet wpS Code.wp Calls
set_option maxHeartbeats 8000000 in
theorem hear_X {H:Hp} {w:World} {L:List Res} {g_m m_n m_self m_high:Nat} {m_cur:GView} {m_prom:GViewID} {m_jl:List GState} {m_os:List (GViewID × GViewID)} {A_m:Option Addr} {jn_m jc_m:Nat} {m_prop:Option GProp} {pv_m:Value} (hs:St H w (obj g_m 78 ((.int .i64 ((m_n:Nat):Int))::(.int .i64 ((m_self:Nat):Int))::(.int .u64 ((m_cur.ID.N:Nat):Int))::(.int .i64 m_cur.ID.P)::(.int .u16 ((m_cur.Set:Nat):Int))::(.int .u64 ((m_prom.N:Nat):Int))::(.int .i64 m_prom.P)::(.int .u64 ((m_high:Nat):Int))::pv_m::(.slice A_m jn_m jc_m)::oCells m_os)::L)) (ok_m:MemB H m_n m_self m_cur m_prom m_high A_m jn_m jc_m m_jl m_os) (v:GViewID) {k_v:List Value} (h_v:kViewID.rep H v k_v):Calls Tryd.prog 30 #[.pointer (some ⟨g_m,0,none⟩),.agg k_v.toArray] w (fun e w' => e = .returned (.tuple #[])∧MemB H m_n m_self m_cur m_prom (max m_high v.N) A_m jn_m jc_m m_jl m_os∧St H w' (obj g_m 78 ((.int .i64 ((m_n:Nat):Int))::(.int .i64 ((m_self:Nat):Int))::(.int .u64 ((m_cur.ID.N:Nat):Int))::(.int .i64 m_cur.ID.P)::(.int .u16 ((m_cur.Set:Nat):Int))::(.int .u64 ((m_prom.N:Nat):Int))::(.int .i64 m_prom.P)::(.int .u64 (((max m_high v.N):Nat):Int))::pv_m::(.slice A_m jn_m jc_m)::oCells m_os)::L)):=by
 have hn1_m:1 ≤ m_n:=ok_m.n1
 have hn16_m:m_n ≤ 16:=ok_m.n16
 have hsf_m:m_self < m_n:=ok_m.self
 have hol_m:m_os.length = 16:=ok_m.len
 have hhi_m:m_high < 18446744073709551616:=ok_m.high
 obtain ⟨rfl,b1,⟨b2,b3⟩⟩:=h_v
 refine enter (args:=[.pointer (some ⟨g_m,0,none⟩),.agg #[.int .u64 ((v.N:Nat):Int),.int .i64 v.P]]) (N:=14) Tryd.func30 rfl rfl rfl ?_
 refine c_seq (c_region (st_m (m_box (cs:=[.int .u64 ((v.N:Nat):Int),.int .i64 v.P]) hs (v:=.agg #[.int .u64 ((v.N:Nat):Int),.int .i64 v.P]) (.tmp rfl rfl) rfl) ?_))
 rintro _ w5 ⟨g4,rfl,hs7⟩
 refine c_nil (n_then (t_region (L:=obj g4 34 (clViewID v)::obj g_m 78 ((.int .i64 ((m_n:Nat):Int))::(.int .i64 ((m_self:Nat):Int))::(.int .u64 ((m_cur.ID.N:Nat):Int))::(.int .i64 m_cur.ID.P)::(.int .u16 ((m_cur.Set:Nat):Int))::(.int .u64 ((m_prom.N:Nat):Int))::(.int .i64 m_prom.P)::(.int .u64 ((m_high:Nat):Int))::pv_m::(.slice A_m jn_m jc_m)::oCells m_os)::L) (L':=obj g4 34 (clViewID v)::obj g_m 78 ((.int .i64 ((m_n:Nat):Int))::(.int .i64 ((m_self:Nat):Int))::(.int .u64 ((m_cur.ID.N:Nat):Int))::(.int .i64 m_cur.ID.P)::(.int .u16 ((m_cur.Set:Nat):Int))::(.int .u64 ((m_prom.N:Nat):Int))::(.int .i64 m_prom.P)::(.int .u64 ((m_high:Nat):Int))::pv_m::(.slice A_m jn_m jc_m)::oCells m_os)::L) (Z:=[10]) (F:=[]) (pl:=(.q 0 (.q 1 (.q 2 (.q 3 (.q 4 (.q 5 (.q 6 (.q 7 (.q 8 (.q 9 (.e 10 .done)))))))))))) mixed hs7 (fun u hu => hu) (by kernel_rfl) ?_))
 intro w8 hs9
 refine t_st (k:=0) (v:=.pointer (some ⟨g_m,0,none⟩)) rfl rfl (fun w hs => (x_move (.tmp rfl rfl))) ?_
 refine t_st (k:=1) (v:=.pointer (some ⟨g_m,0,none⟩)) rfl rfl (fun w hs => (x_move (.tmp rfl rfl))) ?_
 refine t_st (k:=2) (v:=.pointer (some ⟨g_m,0,none⟩)) rfl rfl (fun w hs => (x_nilCheck (.tmp rfl rfl))) ?_
 refine t_st (k:=3) (v:=.pointer (some ⟨g_m,0 + 7,none⟩)) rfl rfl (fun w hs => (fa78_4 (.tmp rfl rfl))) ?_
 refine t_st (k:=4) (v:=.int .u64 ((m_high:Nat):Int)) rfl rfl (fun w hs => (ld32 (.tmp rfl rfl) (hs.cell 1 rfl (0 + 7) rfl))) ?_
 refine t_st (k:=5) (v:=.pointer (some ⟨g4,0 + 0,none⟩)) rfl rfl (fun w hs => (fa34_0 (.tmp rfl rfl))) ?_
 refine t_st (k:=6) (v:=.int .u64 ((v.N:Nat):Int)) rfl rfl (fun w hs => (ld32 (.tmp rfl rfl) (hs.cell 0 rfl (0 + 0) rfl))) ?_
 have:v.N < 18446744073709551616:=b1
 have:m_high < 18446744073709551616:=ok_m.high
 refine t_st (k:=7) (v:=.int .u64 (((max m_high v.N):Nat):Int)) rfl rfl (fun w hs => (x_maxN (a:=m_high) (b:=v.N) (.tmp rfl rfl) (.tmp rfl rfl))) ?_
 refine t_st (k:=8) (v:=.pointer (some ⟨g_m,0,none⟩)) rfl rfl (fun w hs => (x_nilCheck (.tmp rfl rfl))) ?_
 refine t_st (k:=9) (v:=.pointer (some ⟨g_m,0 + 7,none⟩)) rfl rfl (fun w hs => (fa78_4 (.tmp rfl rfl))) ?_
 refine t_eff (k:=10) rfl ?_
 have hs10:=hs9.p1
 refine st_m0 (sto32 (cs':=((.int .i64 ((m_n:Nat):Int))::(.int .i64 ((m_self:Nat):Int))::(.int .u64 ((m_cur.ID.N:Nat):Int))::(.int .i64 m_cur.ID.P)::(.int .u16 ((m_cur.Set:Nat):Int))::(.int .u64 ((m_prom.N:Nat):Int))::(.int .i64 m_prom.P)::(.int .u64 (((max m_high v.N):Nat):Int))::pv_m::(.slice A_m jn_m jc_m)::oCells m_os)) (i:=0 + 7) hs10 (v:=.int .u64 (((max m_high v.N):Nat):Int)) (.tmp rfl rfl) (.tmp rfl rfl) rfl (Nat.le_of_ble_eq_true rfl) one1 rfl) ?_
 rintro w11 hs13
 refine t_new (S':=fun u => St H u (obj g_m 78 ((.int .i64 ((m_n:Nat):Int))::(.int .i64 ((m_self:Nat):Int))::(.int .u64 ((m_cur.ID.N:Nat):Int))::(.int .i64 m_cur.ID.P)::(.int .u16 ((m_cur.Set:Nat):Int))::(.int .u64 ((m_prom.N:Nat):Int))::(.int .i64 m_prom.P)::(.int .u64 (((max m_high v.N):Nat):Int))::pv_m::(.slice A_m jn_m jc_m)::oCells m_os)::obj g4 34 (clViewID v)::L)) rfl hs13 ?_
 refine t_nil ?_
 refine leave_end (res_none rfl) ?_
 have okm14:MemB H m_n m_self m_cur m_prom (max m_high v.N) A_m jn_m jc_m m_jl m_os:=⟨hn1_m,hn16_m,hsf_m,⟨ok_m.cur.n,ok_m.cur.p⟩,ok_m.set,⟨ok_m.prom.n,ok_m.prom.p⟩,(show (max m_high v.N) < 18446744073709551616 by omega),ok_m.joined,ok_m.len,ok_m.oth⟩
 exact ⟨rfl,okm14,(hs13.p1).drop⟩
end Go.Proofs.YtcccaihjgoaehaaDoor

set_option linter.unusedVariables false
set_option linter.unusedSimpArgs false
namespace Go.Proofs.YtcccaihjgoaehaaDoor
open Go Go.FM Go.Proofs
attribute [local irreducible] wpList wpQuiet wpS Code.wp Calls
set_option maxHeartbeats 8000000 in
theorem commit_S {H:Hp} {w:World} {L:List Res} {g_m m_n m_self m_high:Nat} {m_cur:GView} {m_prom:GViewID} {m_jl:List GState} {m_os:List (GViewID × GViewID)} {A_m:Option Addr} {jn_m jc_m:Nat} {gp_m:Nat} {p_m:GProp} {sv_m:Value} {sc_m:List Value} (hs:St H w (obj g_m 78 ((.int .i64 ((m_n:Nat):Int))::(.int .i64 ((m_self:Nat):Int))::(.int .u64 ((m_cur.ID.N:Nat):Int))::(.int .i64 m_cur.ID.P)::(.int .u16 ((m_cur.Set:Nat):Int))::(.int .u64 ((m_prom.N:Nat):Int))::(.int .i64 m_prom.P)::(.int .u64 ((m_high:Nat):Int))::(.pointer (some ⟨gp_m,0,none⟩))::(.slice A_m jn_m jc_m)::oCells m_os)::obj gp_m 81 (clProp p_m sv_m)::row 37 4 sv_m p_m.states.length sc_m::L)) (ok_m:MemB H m_n m_self m_cur m_prom m_high A_m jn_m jc_m m_jl m_os) (hk_m:PropOk H p_m sv_m sc_m) (i:Nat) (hi:i < 16):Calls Tryd.prog 39 #[.pointer (some ⟨g_m,0,none⟩),.int .i64 ((i:Nat):Int)] w (fun e w' => ∃ (cs0:List Value),e = .returned (.agg cs0.toArray)∧kOut.rep H ((MB.commit (MB.mk m_n m_self m_cur m_prom m_high (some p_m) m_jl m_os) p_m i)) cs0∧St H w' (obj g_m 78 ((.int .i64 ((m_n:Nat):Int))::(.int .i64 ((m_self:Nat):Int))::(.int .u64 ((m_cur.ID.N:Nat):Int))::(.int .i64 m_cur.ID.P)::(.int .u16 ((m_cur.Set:Nat):Int))::(.int .u64 ((m_prom.N:Nat):Int))::(.int .i64 m_prom.P)::(.int .u64 ((m_high:Nat):Int))::(.pointer (some ⟨gp_m,0,none⟩))::(.slice A_m jn_m jc_m)::oCells m_os)::obj gp_m 81 (clProp p_m sv_m)::row 37 4 sv_m p_m.states.length sc_m::L)):=by
 have hn1_m:1 ≤ m_n:=ok_m.n1
 have hn16_m:m_n ≤ 16:=ok_m.n16
 have hsf_m:m_self < m_n:=ok_m.self
 have hol_m:m_os.length = 16:=ok_m.len
 have hhi_m:m_high < 18446744073709551616:=ok_m.high
 refine enter (args:=[.pointer (some ⟨g_m,0,none⟩),.int .i64 ((i:Nat):Int)]) (N:=32) Tryd.func39 rfl rfl rfl ?_
 refine c_seq (c_region (st_m (al53 (cs:=[.int .i64 0,.int .u8 0,.int .i64 0,.int .u64 0,.int .i64 0,.int .u16 0,.int .u64 0,.int .i64 0,.int .u64 0,.int .i64 0,.slice none 0 0,.int .u64 0,.slice none 0 0,.slice none 0 0,.int .u64 0,.int .u64 0]) hs rfl) ?_))
 rintro _ w2 ⟨g1,rfl,hs4⟩
 refine c_nil (n_then (c_seq (s_region (L:=obj g1 53 [.int .i64 0,.int .u8 0,.int .i64 0,.int .u64 0,.int .i64 0,.int .u16 0,.int .u64 0,.int .i64 0,.int .u64 0,.int .i64 0,.slice none 0 0,.int .u64 0,.slice none 0 0,.slice none 0 0,.int .u64 0,.int .u64 0]::obj g_m 78 ((.int .i64 ((m_n:Nat):Int))::(.int .i64 ((m_self:Nat):Int))::(.int .u64 ((m_cur.ID.N:Nat):Int))::(.int .i64 m_cur.ID.P)::(.int .u16 ((m_cur.Set:Nat):Int))::(.int .u64 ((m_prom.N:Nat):Int))::(.int .i64 m_prom.P)::(.int .u64 ((m_high:Nat):Int))::(.pointer (some ⟨gp_m,0,none⟩))::(.slice A_m jn_m jc_m)::oCells m_os)::obj gp_m 81 (clProp p_m sv_m)::row 37 4 sv_m p_m.states.length sc_m::L) (L':=obj g1 53 [.int .i64 0,.int .u8 0,.int .i64 0,.int .u64 0,.int .i64 0,.int .u16 0,.int .u64 0,.int .i64 0,.int .u64 0,.int .i64 0,.slice none 0 0,.int .u64 0,.slice none 0 0,.slice none 0 0,.int .u64 0,.int .u64 0]::obj g_m 78 ((.int .i64 ((m_n:Nat):Int))::(.int .i64 ((m_self:Nat):Int))::(.int .u64 ((m_cur.ID.N:Nat):Int))::(.int .i64 m_cur.ID.P)::(.int .u16 ((m_cur.Set:Nat):Int))::(.int .u64 ((m_prom.N:Nat):Int))::(.int .i64 m_prom.P)::(.int .u64 ((m_high:Nat):Int))::(.pointer (some ⟨gp_m,0,none⟩))::(.slice A_m jn_m jc_m)::oCells m_os)::obj gp_m 81 (clProp p_m sv_m)::row 37 4 sv_m p_m.states.length sc_m::L) (some 27) [(0,true),(1,true),(2,true),(3,true),(4,true),(5,true),(6,true),(7,true),(8,true),(9,true),(10,true),(11,true),(12,true),(13,true),(14,true),(15,true),(16,true),(17,true),(18,true),(19,true),(20,true),(21,true),(22,true),(23,true),(24,true),(25,true),(26,true),(27,false)] mixed hs4 (fun u hu => hu) (by kernel_rfl) ?_)))
 intro w5 hs6
 refine s_st (k:=0) (v:=.int .i64 ((i:Nat):Int)) rfl (fun w hs => (x_move (.tmp rfl rfl))) ?_
 refine s_st (k:=1) (v:=.pointer (some ⟨g_m,0,none⟩)) rfl (fun w hs => (x_move (.tmp rfl rfl))) ?_
 refine s_st (k:=2) (v:=.pointer (some ⟨g_m,0,none⟩)) rfl (fun w hs => (x_nilCheck (.tmp rfl rfl))) ?_
 refine s_st (k:=3) (v:=.pointer (some ⟨g_m,0 + 1,none⟩)) rfl (fun w hs => (fa78_1 (.tmp rfl rfl))) ?_
 refine s_st (k:=4) (v:=.int .i64 ((m_self:Nat):Int)) rfl (fun w hs => (ld3 (.tmp rfl rfl) (hs.cell 1 rfl (0 + 1) rfl))) ?_
 refine s_st (k:=5) (v:=.pointer (some ⟨g_m,0,none⟩)) rfl (fun w hs => (x_move (.tmp rfl rfl))) ?_
 refine s_st (k:=6) (v:=.pointer (some ⟨g_m,0,none⟩)) rfl (fun w hs => (x_nilCheck (.tmp rfl rfl))) ?_
 refine s_st (k:=7) (v:=.pointer (some ⟨g_m,0 + 8,none⟩)) rfl (fun w hs => (fa78_5 (.tmp rfl rfl))) ?_
 refine s_st (k:=8) (v:=.pointer (some ⟨gp_m,0,none⟩)) rfl (fun w hs => (ld75 (.tmp rfl rfl) (hs.cell 1 rfl (0 + 8) rfl))) ?_
 refine s_st (k:=9) (v:=.pointer (some ⟨gp_m,0,none⟩)) rfl (fun w hs => (x_nilCheck (.tmp rfl rfl))) ?_
 refine s_st (k:=10) (v:=.pointer (some ⟨gp_m,0 + 0,none⟩)) rfl (fun w hs => (fa81_0 (.tmp rfl rfl))) ?_
 refine s_st (k:=11) (v:=.pointer (some ⟨gp_m,0 + 0 + 0,none⟩)) rfl (fun w hs => (fa39_0 (.tmp rfl rfl))) ?_
 refine s_st (k:=12) (v:=.agg #[.int .u64 ((p_m.v.ID.N:Nat):Int),.int .i64 p_m.v.ID.P]) rfl (fun w hs => (ld34 (cs:=[.int .u64 ((p_m.v.ID.N:Nat):Int),.int .i64 p_m.v.ID.P]) (.tmp rfl rfl) (hs.at_ 2 rfl (0 + 0 + 0) rfl) rfl)) ?_
 refine s_st (k:=13) (v:=.pointer (some ⟨g_m,0,none⟩)) rfl (fun w hs => (x_move (.tmp rfl rfl))) ?_
 refine s_st (k:=14) (v:=.pointer (some ⟨g_m,0,none⟩)) rfl (fun w hs => (x_nilCheck (.tmp rfl rfl))) ?_
 refine s_st (k:=15) (v:=.pointer (some ⟨g_m,0 + 8,none⟩)) rfl (fun w hs => (fa78_5 (.tmp rfl rfl))) ?_
 refine s_st (k:=16) (v:=.pointer (some ⟨gp_m,0,none⟩)) rfl (fun w hs => (ld75 (.tmp rfl rfl) (hs.cell 1 rfl (0 + 8) rfl))) ?_
 refine s_st (k:=17) (v:=.pointer (some ⟨gp_m,0,none⟩)) rfl (fun w hs => (x_nilCheck (.tmp rfl rfl))) ?_
 refine s_st (k:=18) (v:=.pointer (some ⟨gp_m,0 + 0,none⟩)) rfl (fun w hs => (fa81_0 (.tmp rfl rfl))) ?_
 refine s_st (k:=19) (v:=.pointer (some ⟨gp_m,0 + 0 + 2,none⟩)) rfl (fun w hs => (fa39_1 (.tmp rfl rfl))) ?_
 refine s_st (k:=20) (v:=.int .u16 ((p_m.v.Set:Nat):Int)) rfl (fun w hs => (ld31 (.tmp rfl rfl) (hs.cell 2 rfl (0 + 0 + 2) rfl))) ?_
 refine s_st (k:=21) (v:=.pointer (some ⟨g_m,0,none⟩)) rfl (fun w hs => (x_move (.tmp rfl rfl))) ?_
 refine s_st (k:=22) (v:=.pointer (some ⟨g_m,0,none⟩)) rfl (fun w hs => (x_nilCheck (.tmp rfl rfl))) ?_
 refine s_st (k:=23) (v:=.pointer (some ⟨g_m,0 + 9,none⟩)) rfl (fun w hs => (fa78_6 (.tmp rfl rfl))) ?_
 refine s_st (k:=24) (v:=.slice A_m jn_m jc_m) rfl (fun w hs => (ld40 (.tmp rfl rfl) (hs.cell 1 rfl (0 + 9) rfl))) ?_
 refine s_st (k:=25) (v:=.agg #[.int .u8 5,.int .i64 ((m_self:Nat):Int),.int .u64 ((p_m.v.ID.N:Nat):Int),.int .i64 p_m.v.ID.P,.int .u16 ((p_m.v.Set:Nat):Int),.int .u64 0,.int .i64 0,.int .u64 0,.int .i64 0,.slice A_m jn_m jc_m,.int .u64 0,.slice none 0 0,.slice none 0 0,.int .u64 0,.int .u64 0]) rfl (fun w hs => (bl51 (ps:=[(0,.int .u8 5),(1,.int .i64 ((m_self:Nat):Int)),(2,.agg #[.int .u64 ((p_m.v.ID.N:Nat):Int),.int .i64 p_m.v.ID.P]),(3,.int .u16 ((p_m.v.Set:Nat):Int)),(6,.slice A_m jn_m jc_m)]) (.cons .const (.cons (.tmp rfl rfl) (.cons (.tmp rfl rfl) (.cons (.tmp rfl rfl) (.cons (.tmp rfl rfl) Evp.nil))))) rfl)) ?_
 refine s_st (k:=26) (v:=.agg #[.int .i64 ((i:Nat):Int),.int .u8 5,.int .i64 ((m_self:Nat):Int),.int .u64 ((p_m.v.ID.N:Nat):Int),.int .i64 p_m.v.ID.P,.int .u16 ((p_m.v.Set:Nat):Int),.int .u64 0,.int .i64 0,.int .u64 0,.int .i64 0,.slice A_m jn_m jc_m,.int .u64 0,.slice none 0 0,.slice none 0 0,.int .u64 0,.int .u64 0]) rfl (fun w hs => (bl53 (ps:=[(0,.int .i64 ((i:Nat):Int)),(1,.agg #[.int .u8 5,.int .i64 ((m_self:Nat):Int),.int .u64 ((p_m.v.ID.N:Nat):Int),.int .i64 p_m.v.ID.P,.int .u16 ((p_m.v.Set:Nat):Int),.int .u64 0,.int .i64 0,.int .u64 0,.int .i64 0,.slice A_m jn_m jc_m,.int .u64 0,.slice none 0 0,.slice none 0 0,.int .u64 0,.int .u64 0])]) (.cons (.tmp rfl rfl) (.cons (.tmp rfl rfl) Evp.nil)) rfl)) ?_
 refine s_eff (k:=27) rfl ?_
 refine st_m0 (sto53 (cs':=[.int .i64 ((i:Nat):Int),.int .u8 5,.int .i64 ((m_self:Nat):Int),.int .u64 ((p_m.v.ID.N:Nat):Int),.int .i64 p_m.v.ID.P,.int .u16 ((p_m.v.Set:Nat):Int),.int .u64 0,.int .i64 0,.int .u64 0,.int .i64 0,.slice A_m jn_m jc_m,.int .u64 0,.slice none 0 0,.slice none 0 0,.int .u64 0,.int .u64 0]) (i:=0) hs6 (v:=.agg #[.int .i64 ((i:Nat):Int),.int .u8 5,.int .i64 ((m_self:Nat):Int),.int .u64 ((p_m.v.ID.N:Nat):Int),.int .i64 p_m.v.ID.P,.int .u16 ((p_m.v.Set:Nat):Int),.int .u64 0,.int .i64 0,.int .u64 0,.int .i64 0,.slice A_m jn_m jc_m,.int .u64 0,.slice none 0 0,.slice none 0 0,.int .u64 0,.int .u64 0]) (.tmp rfl rfl) (.tmp rfl rfl) rfl (Nat.le_of_ble_eq_true rfl) (oneA rfl) rfl) ?_
 rintro w7 hs9
 refine s_end ?_
 refine n_then (c_ret (leave_ret (res_one (v:=.agg #[.int .i64 ((i:Nat):Int),.int .u8 5,.int .i64 ((m_self:Nat):Int),.int .u64 ((p_m.v.ID.N:Nat):Int),.int .i64 p_m.v.ID.P,.int .u16 ((p_m.v.Set:Nat):Int),.int .u64 0,.int .i64 0,.int .u64 0,.int .i64 0,.slice A_m jn_m jc_m,.int .u64 0,.slice none 0 0,.slice none 0 0,.int .u64 0,.int .u64 0]) rfl (.mkCell rfl rfl (lv53 (cs:=[.int .i64 ((i:Nat):Int),.int .u8 5,.int .i64 ((m_self:Nat):Int),.int .u64 ((p_m.v.ID.N:Nat):Int),.int .i64 p_m.v.ID.P,.int .u16 ((p_m.v.Set:Nat):Int),.int .u64 0,.int .i64 0,.int .u64 0,.int .i64 0,.slice A_m jn_m jc_m,.int .u64 0,.slice none 0 0,.slice none 0 0,.int .u64 0,.int .u64 0]) (hs9.at_ 0 rfl 0 rfl) rfl))) ?_))
 exact ⟨[.int .i64 ((i:Nat):Int),.int .u8 5,.int .i64 ((m_self:Nat):Int),.int .u64 ((p_m.v.ID.N:Nat):Int),.int .i64 p_m.v.ID.P,.int .u16 ((p_m.v.Set:Nat):Int),.int .u64 0,.int .i64 0,.int .u64 0,.int .i64 0,.slice A_m jn_m jc_m,.int .u64 0,.slice none 0 0,.slice none 0 0,.int .u64 0,.int .u64 0],rfl,⟨A_m,jn_m,jc_m,none,0,0,none,0,0,rfl,(show IB ((i:Nat):Int) from ⟨by omega,by omega⟩),(show 5 < 256 from by omega),(show IB ((m_self:Nat):Int) from ⟨by omega,by omega⟩),hk_m.id.n,hk_m.id.p,hk_m.set,(show 0 < 18446744073709551616 from by omega),(show IB 0 from ⟨by omega,by omega⟩),(show 0 < 18446744073709551616 from by omega),(show IB 0 from ⟨by omega,by omega⟩),ok_m.joined,(show 0 < 18446744073709551616 from by omega),(Sl.nil _ _ none),(Sl.nil _ _ none),(show 0 < 18446744073709551616 from by omega),(show 0 < 18446744073709551616 from by omega)⟩,(((hs9.drop.p2).p2).p2)⟩
end Go.Proofs.YtcccaihjgoaehaaDoor

set_option linter.unusedVariables false
set_option linter.unusedSimpArgs false
namespace Go.Proofs.YtcccaihjgoaehaaDoor
open Go Go.FM Go.Proofs
attribute [local irreducible] wpList wpQuiet wpS Code.wp Calls
set_option maxHeartbeats 8000000 in
theorem agree_S {H:Hp} {w:World} {L:List Res} {g_m m_n m_self m_high:Nat} {m_cur:GView} {m_prom:GViewID} {m_jl:List GState} {m_os:List (GViewID × GViewID)} {A_m:Option Addr} {jn_m jc_m:Nat} {gp_m:Nat} {p_m:GProp} {sv_m:Value} {sc_m:List Value} (hs:St H w (obj g_m 78 ((.int .i64 ((m_n:Nat):Int))::(.int .i64 ((m_self:Nat):Int))::(.int .u64 ((m_cur.ID.N:Nat):Int))::(.int .i64 m_cur.ID.P)::(.int .u16 ((m_cur.Set:Nat):Int))::(.int .u64 ((m_prom.N:Nat):Int))::(.int .i64 m_prom.P)::(.int .u64 ((m_high:Nat):Int))::(.pointer (some ⟨gp_m,0,none⟩))::(.slice A_m jn_m jc_m)::oCells m_os)::obj gp_m 81 (clProp p_m sv_m)::row 37 4 sv_m p_m.states.length sc_m::L)) (ok_m:MemB H m_n m_self m_cur m_prom m_high A_m jn_m jc_m m_jl m_os) (hk_m:PropOk H p_m sv_m sc_m) (hpl:p_m.states.length ≤ 1000000) (hb:∀ s ∈ p_m.states,0 ≤ s.Floor∧s.Floor ≤ 1073741824):Calls Tryd.prog 27 #[.pointer (some ⟨g_m,0,none⟩)] w (fun e w' => ∃ (H':Hp) (iv0:Value) (m_cur':GView) (m_jl':List GState) (A_m':Option Addr) (jn_m' jc_m':Nat) (p_m':GProp) (sv_m':Value) (sc_m':List Value),H.le H'∧e = .returned (iv0)∧InstAt H' ((MB.agree (MB.mk m_n m_self m_cur m_prom m_high (some p_m) m_jl m_os) p_m).2) iv0∧MemB H' m_n m_self m_cur' m_prom m_high A_m' jn_m' jc_m' m_jl' m_os∧PropOk H' p_m' sv_m' sc_m'∧(MB.mk m_n m_self m_cur' m_prom m_high (some p_m') m_jl' m_os) = (MB.agree (MB.mk m_n m_self m_cur m_prom m_high (some p_m) m_jl m_os) p_m).1∧St H' w' (obj g_m 78 ((.int .i64 ((m_n:Nat):Int))::(.int .i64 ((m_self:Nat):Int))::(.int .u64 ((m_cur'.ID.N:Nat):Int))::(.int .i64 m_cur'.ID.P)::(.int .u16 ((m_cur'.Set:Nat):Int))::(.int .u64 ((m_prom.N:Nat):Int))::(.int .i64 m_prom.P)::(.int .u64 ((m_high:Nat):Int))::(.pointer (some ⟨gp_m,0,none⟩))::(.slice A_m' jn_m' jc_m')::oCells m_os)::obj gp_m 81 [.int .u64 ((p_m'.v.ID.N:Nat):Int),.int .i64 p_m'.v.ID.P,.int .u16 ((p_m'.v.Set:Nat):Int),.int .u16 ((p_m'.who:Nat):Int),sv_m',.bool p_m'.done]::row 37 4 sv_m' p_m'.states.length sc_m'::L)):=by
 have hn1_m:1 ≤ m_n:=ok_m.n1
 have hn16_m:m_n ≤ 16:=ok_m.n16
 have hsf_m:m_self < m_n:=ok_m.self
 have hol_m:m_os.length = 16:=ok_m.len
 have hhi_m:m_high < 18446744073709551616:=ok_m.high
 refine enter (args:=[.pointer (some ⟨g_m,0,none⟩)]) (N:=49) Tryd.func27 rfl rfl rfl ?_
 refine c_seq (c_region (st (v:=.pointer none) (x_assign .const) ?_))
 refine c_nil (n_then (c_seq (c_region (st (v:=.pointer (some ⟨g_m,0,none⟩)) (x_move (.tmp rfl rfl)) ?_))))
 refine st (v:=.pointer (some ⟨g_m,0,none⟩)) (x_nilCheck (.tmp rfl rfl)) ?_
 refine st (v:=.pointer (some ⟨g_m,0 + 8,none⟩)) (fa78_5 (.tmp rfl rfl)) ?_
 refine st (v:=.pointer (some ⟨gp_m,0,none⟩)) (ld75 (.tmp rfl rfl) (hs.cell 0 rfl (0 + 8) rfl)) ?_
 refine st (v:=.pointer (some ⟨gp_m,0,none⟩)) (x_assign (.tmp rfl rfl)) ?_
 refine c_nil (n_then (c_seq (c_seq (q_region mixed hs (by kernel_rfl) ?_))))
 refine q_st (v:=.pointer (some ⟨gp_m,0,none⟩)) (fun w hs => (x_move (.tmp rfl rfl))) ?_
 refine q_st (v:=.pointer (some ⟨gp_m,0,none⟩)) (fun w hs => (x_nilCheck (.tmp rfl rfl))) ?_
 refine q_st (v:=.pointer (some ⟨gp_m,0 + 3,none⟩)) (fun w hs => (fa81_1 (.tmp rfl rfl))) ?_
 refine q_st (v:=.int .u16 ((p_m.who:Nat):Int)) (fun w hs => (ld31 (.tmp rfl rfl) (hs.cell 1 rfl (0 + 3) rfl))) ?_
 refine q_st (v:=.pointer (some ⟨gp_m,0,none⟩)) (fun w hs => (x_move (.tmp rfl rfl))) ?_
 refine q_st (v:=.pointer (some ⟨gp_m,0,none⟩)) (fun w hs => (x_nilCheck (.tmp rfl rfl))) ?_
 refine q_st (v:=.pointer (some ⟨gp_m,0 + 0,none⟩)) (fun w hs => (fa81_0 (.tmp rfl rfl))) ?_
 refine q_st (v:=.pointer (some ⟨gp_m,0 + 0 + 2,none⟩)) (fun w hs => (fa39_1 (.tmp rfl rfl))) ?_
 refine q_st (v:=.int .u16 ((p_m.v.Set:Nat):Int)) (fun w hs => (ld31 (.tmp rfl rfl) (hs.cell 1 rfl (0 + 0 + 2) rfl))) ?_
 refine q_st (v:=.bool (decide ((((p_m.who:Nat):Int):Int) ≠ ((p_m.v.Set:Nat):Int)))) (fun w hs => (x_neq (k:=.u16) (a:=((p_m.who:Nat):Int)) (b:=((p_m.v.Set:Nat):Int)) (.tmp rfl rfl) (.tmp rfl rfl))) ?_
 refine q_nil ?_
 intro w hs1
 refine n_then ?_
 rcases Bool.eq_false_or_eq_true (decide ((((p_m.who:Nat):Int):Int) ≠ ((p_m.v.Set:Nat):Int))) with hc2 | hc2
 have hp2:(((p_m.who:Nat):Int):Int) ≠ ((p_m.v.Set:Nat):Int):=of_decide_eq_true hc2
 refine c_cond_t (t:=true) (.tmp rfl (cVb hc2)) rfl ?_
 refine c_seq (c_region (st (v:=.pointer none) (x_assign .const) ?_))
 refine c_nil (n_then (c_ret (r_then (leave_ret (res_one (v:=.pointer none) rfl (.mk rfl rfl)) ?_))))
 have okm3:MemB H m_n m_self m_cur m_prom m_high A_m jn_m jc_m m_jl m_os:=⟨hn1_m,hn16_m,hsf_m,⟨ok_m.cur.n,ok_m.cur.p⟩,ok_m.set,⟨ok_m.prom.n,ok_m.prom.p⟩,ok_m.high,ok_m.joined,ok_m.len,ok_m.oth⟩
 have okp4:PropOk H p_m sv_m sc_m:=⟨⟨hk_m.id.n,hk_m.id.p⟩,hk_m.set,hk_m.who,hk_m.ok,hk_m.hk⟩
 exact ⟨H,(.pointer none),m_cur,m_jl,A_m,jn_m,jc_m,p_m,sv_m,sc_m,(Hp.le.refl _),rfl,(InstAt.none_of (by unfold MB.agree; rw [if_pos (by omega)])),okm3,okp4,(by unfold MB.agree; rw [if_pos (by omega)]),(((hs1.p2).p2).p2)⟩
 have hp2:¬ ((((p_m.who:Nat):Int):Int) ≠ ((p_m.v.Set:Nat):Int)):=of_decide_eq_false hc2
 refine c_cond_f (t:=false) (.tmp rfl (cVb hc2)) rfl ?_
 refine c_skip (n_then (c_seq (c_region (st (v:=.pointer (some ⟨gp_m,0,none⟩)) (x_move (.tmp rfl rfl)) ?_))))
 refine st (v:=.pointer (some ⟨g_m,0,none⟩)) (x_move (.tmp rfl rfl)) ?_
 refine st (v:=.pointer (some ⟨gp_m,0,none⟩)) (x_move (.tmp rfl rfl)) ?_
 refine st (v:=.pointer (some ⟨gp_m,0,none⟩)) (x_nilCheck (.tmp rfl rfl)) ?_
 refine st (v:=.pointer (some ⟨gp_m,0 + 4,none⟩)) (fa81_2 (.tmp rfl rfl)) ?_
 refine st (v:=sv_m) (ld40 (.tmp rfl rfl) (hs1.cell 1 rfl (0 + 4) rfl)) ?_
 have hs5:=hs1.p2
 have:p_m.states.length * 48 ≤ 140737488351232:=by omega
 obtain ⟨H6,A7,c8,hle9,hs10,rfl,sp11⟩:=hs5.freezeSl (d:=kState) hk_m.ok hk_m.hk this
 have:=sp11.len; have:=sp11.le
 refine st_c cb38 .func (evs1 (.tmp rfl rfl)) (join_spec hs10 p_m.states sp11 hb) ?_
 rintro e w12 ⟨v14,cs17,rfl,ok15,hk18,hs13⟩
 have:=sp11.len
 refine ⟨_,rfl,?_⟩
 refine st (v:=.pointer (some ⟨gp_m,0,none⟩)) (x_nilCheck (.tmp rfl rfl)) ?_
 have hjl:(joinS p_m.states).length ≤ p_m.states.length:=joinTo_length _ _
 refine st (v:=.pointer (some ⟨gp_m,0 + 5,none⟩)) (fa81_3 (.tmp rfl rfl)) ?_
 have hs19:=hs13.p2
 refine st_m0 (sto4 (cs':=[.int .u64 ((p_m.v.ID.N:Nat):Int),.int .i64 p_m.v.ID.P,.int .u16 ((p_m.v.Set:Nat):Int),.int .u16 ((p_m.who:Nat):Int),.slice A7 p_m.states.length c8,.bool true]) (i:=0 + 5) hs19 (v:=.bool true) (.tmp rfl rfl) .const rfl (Nat.le_of_ble_eq_true rfl) one1 rfl) ?_
 rintro w20 hs22
 refine st (v:=.pointer (some ⟨g_m,0,none⟩)) (x_nilCheck (.tmp rfl rfl)) ?_
 refine st (v:=.pointer (some ⟨g_m,0 + 9,none⟩)) (fa78_6 (.tmp rfl rfl)) ?_
 have hs23:=hs22.p1
 have:(joinS p_m.states).length * 48 ≤ 140737488351232:=by omega
 obtain ⟨H24,A25,c26,hle27,hs28,rfl,sp29⟩:=hs23.freezeSl (d:=kState) ok15 hk18 this
 have:=sp29.len; have:=sp29.le
 have hs30:=hs28.p1
 refine st_m0 (sto40 (cs':=((.int .i64 ((m_n:Nat):Int))::(.int .i64 ((m_self:Nat):Int))::(.int .u64 ((m_cur.ID.N:Nat):Int))::(.int .i64 m_cur.ID.P)::(.int .u16 ((m_cur.Set:Nat):Int))::(.int .u64 ((m_prom.N:Nat):Int))::(.int .i64 m_prom.P)::(.int .u64 ((m_high:Nat):Int))::(.pointer (some ⟨gp_m,0,none⟩))::(.slice A25 ((joinS p_m.states).length) c26)::oCells m_os)) (i:=0 + 9) hs30 (v:=.slice A25 ((joinS p_m.states).length) c26) (.tmp rfl rfl) (.tmp rfl rfl) rfl (Nat.le_of_ble_eq_true rfl) one1 rfl) ?_
 rintro w31 hs33
 refine c_nil (n_then (c_seq (c_region (st (v:=.pointer (some ⟨gp_m,0,none⟩)) (x_move (.tmp rfl rfl)) ?_))))
 refine st (v:=.pointer (some ⟨gp_m,0,none⟩)) (x_nilCheck (.tmp rfl rfl)) ?_
 refine st (v:=.pointer (some ⟨gp_m,0 + 4,none⟩)) (fa81_2 (.tmp rfl rfl)) ?_
 have hs34:=hs33.p1
 refine st_m0 (sto40 (cs':=[.int .u64 ((p_m.v.ID.N:Nat):Int),.int .i64 p_m.v.ID.P,.int .u16 ((p_m.v.Set:Nat):Int),.int .u16 ((p_m.who:Nat):Int),.slice none 0 0,.bool true]) (i:=0 + 4) hs34 (v:=.slice none 0 0) (.tmp rfl rfl) .const rfl (Nat.le_of_ble_eq_true rfl) one1 rfl) ?_
 rintro w35 hs37
 refine c_nil (n_then (c_seq (c_region (st (v:=.pointer (some ⟨g_m,0,none⟩)) (x_move (.tmp rfl rfl)) ?_))))
 refine st (v:=.pointer (some ⟨gp_m,0,none⟩)) (x_move (.tmp rfl rfl)) ?_
 refine st (v:=.pointer (some ⟨gp_m,0,none⟩)) (x_nilCheck (.tmp rfl rfl)) ?_
 refine st (v:=.pointer (some ⟨gp_m,0 + 0,none⟩)) (fa81_0 (.tmp rfl rfl)) ?_
 refine st (v:=.agg #[.int .u64 ((p_m.v.ID.N:Nat):Int),.int .i64 p_m.v.ID.P,.int .u16 ((p_m.v.Set:Nat):Int)]) (ld39 (cs:=[.int .u64 ((p_m.v.ID.N:Nat):Int),.int .i64 p_m.v.ID.P,.int .u16 ((p_m.v.Set:Nat):Int)]) (.tmp rfl rfl) (hs37.at_ 0 rfl (0 + 0) rfl) rfl) ?_
 refine st (v:=.pointer (some ⟨g_m,0,none⟩)) (x_nilCheck (.tmp rfl rfl)) ?_
 refine st (v:=.pointer (some ⟨g_m,0 + 2,none⟩)) (fa78_2 (.tmp rfl rfl)) ?_
 have hs38:=hs37.p1
 refine st_m0 (sto39 (cs':=((.int .i64 ((m_n:Nat):Int))::(.int .i64 ((m_self:Nat):Int))::(.int .u64 ((p_m.v.ID.N:Nat):Int))::(.int .i64 p_m.v.ID.P)::(.int .u16 ((p_m.v.Set:Nat):Int))::(.int .u64 ((m_prom.N:Nat):Int))::(.int .i64 m_prom.P)::(.int .u64 ((m_high:Nat):Int))::(.pointer (some ⟨gp_m,0,none⟩))::(.slice A25 ((joinS p_m.states).length) c26)::oCells m_os)) (i:=0 + 2) hs38 (v:=.agg #[.int .u64 ((p_m.v.ID.N:Nat):Int),.int .i64 p_m.v.ID.P,.int .u16 ((p_m.v.Set:Nat):Int)]) (.tmp rfl rfl) (.tmp rfl rfl) rfl (Nat.le_of_ble_eq_true rfl) (oneA rfl) rfl) ?_
 rintro w39 hs41
 refine c_nil (n_then (c_seq (s_region (L:=obj g_m 78 ((.int .i64 ((m_n:Nat):Int))::(.int .i64 ((m_self:Nat):Int))::(.int .u64 ((p_m.v.ID.N:Nat):Int))::(.int .i64 p_m.v.ID.P)::(.int .u16 ((p_m.v.Set:Nat):Int))::(.int .u64 ((m_prom.N:Nat):Int))::(.int .i64 m_prom.P)::(.int .u64 ((m_high:Nat):Int))::(.pointer (some ⟨gp_m,0,none⟩))::(.slice A25 ((joinS p_m.states).length) c26)::oCells m_os)::obj gp_m 81 [.int .u64 ((p_m.v.ID.N:Nat):Int),.int .i64 p_m.v.ID.P,.int .u16 ((p_m.v.Set:Nat):Int),.int .u16 ((p_m.who:Nat):Int),.slice none 0 0,.bool true]::L) (L':=obj g_m 78 ((.int .i64 ((m_n:Nat):Int))::(.int .i64 ((m_self:Nat):Int))::(.int .u64 ((p_m.v.ID.N:Nat):Int))::(.int .i64 p_m.v.ID.P)::(.int .u16 ((p_m.v.Set:Nat):Int))::(.int .u64 ((m_prom.N:Nat):Int))::(.int .i64 m_prom.P)::(.int .u64 ((m_high:Nat):Int))::(.pointer (some ⟨gp_m,0,none⟩))::(.slice A25 ((joinS p_m.states).length) c26)::oCells m_os)::obj gp_m 81 [.int .u64 ((p_m.v.ID.N:Nat):Int),.int .i64 p_m.v.ID.P,.int .u16 ((p_m.v.Set:Nat):Int),.int .u16 ((p_m.who:Nat):Int),.slice none 0 0,.bool true]::L) none [(0,true),(1,true),(2,true),(3,true),(4,true),(5,true),(6,true),(7,true),(8,true),(9,false),(10,true)] mixed hs41 (fun u hu => hu) (by kernel_rfl) ?_)))
 intro w42 hs43
 refine s_st (k:=0) (v:=.pointer (some ⟨gp_m,0,none⟩)) rfl (fun w hs => (x_move (.tmp rfl rfl))) ?_
 refine s_st (k:=1) (v:=.pointer (some ⟨gp_m,0,none⟩)) rfl (fun w hs => (x_nilCheck (.tmp rfl rfl))) ?_
 refine s_st (k:=2) (v:=.pointer (some ⟨gp_m,0 + 0,none⟩)) rfl (fun w hs => (fa81_0 (.tmp rfl rfl))) ?_
 refine s_st (k:=3) (v:=.agg #[.int .u64 ((p_m.v.ID.N:Nat):Int),.int .i64 p_m.v.ID.P,.int .u16 ((p_m.v.Set:Nat):Int)]) rfl (fun w hs => (ld39 (cs:=[.int .u64 ((p_m.v.ID.N:Nat):Int),.int .i64 p_m.v.ID.P,.int .u16 ((p_m.v.Set:Nat):Int)]) (.tmp rfl rfl) (hs.at_ 1 rfl (0 + 0) rfl) rfl)) ?_
 refine s_st (k:=4) (v:=.pointer (some ⟨g_m,0,none⟩)) rfl (fun w hs => (x_move (.tmp rfl rfl))) ?_
 refine s_st (k:=5) (v:=.pointer (some ⟨g_m,0,none⟩)) rfl (fun w hs => (x_nilCheck (.tmp rfl rfl))) ?_
 refine s_st (k:=6) (v:=.pointer (some ⟨g_m,0 + 9,none⟩)) rfl (fun w hs => (fa78_6 (.tmp rfl rfl))) ?_
 refine s_st (k:=7) (v:=.slice A25 ((joinS p_m.states).length) c26) rfl (fun w hs => (ld40 (.tmp rfl rfl) (hs.cell 0 rfl (0 + 9) rfl))) ?_
 refine s_st (k:=8) (v:=.agg #[.int .u64 ((p_m.v.ID.N:Nat):Int),.int .i64 p_m.v.ID.P,.int .u16 ((p_m.v.Set:Nat):Int),.slice A25 ((joinS p_m.states).length) c26]) rfl (fun w hs => (bl42 (ps:=[(0,.agg #[.int .u64 ((p_m.v.ID.N:Nat):Int),.int .i64 p_m.v.ID.P,.int .u16 ((p_m.v.Set:Nat):Int)]),(1,.slice A25 ((joinS p_m.states).length) c26)]) (.cons (.tmp rfl rfl) (.cons (.tmp rfl rfl) Evp.nil)) rfl)) ?_
 refine s_eff (k:=9) rfl ?_
 refine st_m (m_box (cs:=[.int .u64 ((p_m.v.ID.N:Nat):Int),.int .i64 p_m.v.ID.P,.int .u16 ((p_m.v.Set:Nat):Int),.slice A25 ((joinS p_m.states).length) c26]) hs43 (v:=.agg #[.int .u64 ((p_m.v.ID.N:Nat):Int),.int .i64 p_m.v.ID.P,.int .u16 ((p_m.v.Set:Nat):Int),.slice A25 ((joinS p_m.states).length) c26]) (.tmp rfl rfl) rfl) ?_
 rintro _ w45 ⟨g44,rfl,hs47⟩
 refine s_on (S':=fun u => St H24 u (obj g44 42 [.int .u64 ((p_m.v.ID.N:Nat):Int),.int .i64 p_m.v.ID.P,.int .u16 ((p_m.v.Set:Nat):Int),.slice A25 ((joinS p_m.states).length) c26]::obj g_m 78 ((.int .i64 ((m_n:Nat):Int))::(.int .i64 ((m_self:Nat):Int))::(.int .u64 ((p_m.v.ID.N:Nat):Int))::(.int .i64 p_m.v.ID.P)::(.int .u16 ((p_m.v.Set:Nat):Int))::(.int .u64 ((m_prom.N:Nat):Int))::(.int .i64 m_prom.P)::(.int .u64 ((m_high:Nat):Int))::(.pointer (some ⟨gp_m,0,none⟩))::(.slice A25 ((joinS p_m.states).length) c26)::oCells m_os)::obj gp_m 81 [.int .u64 ((p_m.v.ID.N:Nat):Int),.int .i64 p_m.v.ID.P,.int .u16 ((p_m.v.Set:Nat):Int),.int .u16 ((p_m.who:Nat):Int),.slice none 0 0,.bool true]::L)) (fun u hu => hu.drop) hs47 ?_
 refine s_st (k:=10) (v:=.pointer (some ⟨g44,0,none⟩)) rfl (fun w hs => (x_assign (.tmp rfl rfl))) ?_
 refine s_nil ?_
 refine n_then (c_ret (leave_ret (res_one (v:=.pointer (some ⟨g44,0,none⟩)) rfl (.mk rfl rfl)) ?_))
 have hr53:kInstall.rep H24 (GInstall.mk p_m.v (joinS p_m.states)) [.int .u64 ((p_m.v.ID.N:Nat):Int),.int .i64 p_m.v.ID.P,.int .u16 ((p_m.v.Set:Nat):Int),.slice A25 ((joinS p_m.states).length) c26]:=⟨A25,((joinS p_m.states).length),c26,rfl,hk_m.id.n,hk_m.id.p,hk_m.set,sp29⟩
 obtain ⟨H48,hle49,hs50,rd51,hb52⟩:=hs47.freezeObj
 have okm54:MemB H48 m_n m_self p_m.v m_prom m_high A25 ((joinS p_m.states).length) c26 (joinS p_m.states) m_os:=⟨hn1_m,hn16_m,hsf_m,⟨hk_m.id.n,hk_m.id.p⟩,hk_m.set,⟨ok_m.prom.n,ok_m.prom.p⟩,ok_m.high,(sp29.mono hle49),ok_m.len,ok_m.oth⟩
 have hs56:=hs50.krowNil 37 kState
 have okp57:PropOk H48 (GProp.mk p_m.v p_m.who ([]:List GState) true) (.slice none 0 0) []:=⟨⟨hk_m.id.n,hk_m.id.p⟩,hk_m.set,hk_m.who,(RowOk.knil kState),(Kn.rows_nil _ _)⟩
 exact ⟨H48,.pointer (some ⟨g44,0,none⟩),p_m.v,(joinS p_m.states),A25,((joinS p_m.states).length),c26,(GProp.mk p_m.v p_m.who ([]:List GState) true),(.slice none 0 0),[],((hle9.trans hle27).trans hle49),rfl,(InstAt.some_of (y:=(GInstall.mk p_m.v (joinS p_m.states))) (by unfold MB.agree; rw [if_neg (by omega)]) rd51 (kInstall.mono hle49 hr53)),okm54,okp57,(by unfold MB.agree; rw [if_neg (by omega)]),((hs56.p2).p2)⟩
end Go.Proofs.YtcccaihjgoaehaaDoor

set_option linter.unusedVariables false
set_option linter.unusedSimpArgs false
namespace Go.Proofs.YtcccaihjgoaehaaDoor
open Go Go.FM Go.Proofs
attribute [local irreducible] wpList wpQuiet wpS Code.wp Calls
set_option maxHeartbeats 8000000 in
theorem again_N {H:Hp} {w:World} {L:List Res} {g_m m_n m_self m_high:Nat} {m_cur:GView} {m_prom:GViewID} {m_jl:List GState} {m_os:List (GViewID × GViewID)} {A_m:Option Addr} {jn_m jc_m:Nat} (hs:St H w (obj g_m 78 ((.int .i64 ((m_n:Nat):Int))::(.int .i64 ((m_self:Nat):Int))::(.int .u64 ((m_cur.ID.N:Nat):Int))::(.int .i64 m_cur.ID.P)::(.int .u16 ((m_cur.Set:Nat):Int))::(.int .u64 ((m_prom.N:Nat):Int))::(.int .i64 m_prom.P)::(.int .u64 ((m_high:Nat):Int))::(.pointer none)::(.slice A_m jn_m jc_m)::oCells m_os)::L)) (ok_m:MemB H m_n m_self m_cur m_prom m_high A_m jn_m jc_m m_jl m_os):Calls Tryd.prog 28 #[.pointer (some ⟨g_m,0,none⟩)] w (fun e w' => ∃ (v0:Value) (cs0:List Value),e = .returned (v0)∧RowOk kOut.sz v0 ((MB.again (MB.mk m_n m_self m_cur m_prom m_high none m_jl m_os))).length cs0∧kOut.toKn.rows H ((MB.again (MB.mk m_n m_self m_cur m_prom m_high none m_jl m_os))) cs0∧St H w' (row 53 kOut.sz v0 ((MB.again (MB.mk m_n m_self m_cur m_prom m_high none m_jl m_os))).length cs0::obj g_m 78 ((.int .i64 ((m_n:Nat):Int))::(.int .i64 ((m_self:Nat):Int))::(.int .u64 ((m_cur.ID.N:Nat):Int))::(.int .i64 m_cur.ID.P)::(.int .u16 ((m_cur.Set:Nat):Int))::(.int .u64 ((m_prom.N:Nat):Int))::(.int .i64 m_prom.P)::(.int .u64 ((m_high:Nat):Int))::(.pointer none)::(.slice A_m jn_m jc_m)::oCells m_os)::L)):=by
 have hn1_m:1 ≤ m_n:=ok_m.n1
 have hn16_m:m_n ≤ 16:=ok_m.n16
 have hsf_m:m_self < m_n:=ok_m.self
 have hol_m:m_os.length = 16:=ok_m.len
 have hhi_m:m_high < 18446744073709551616:=ok_m.high
 refine enter (args:=[.pointer (some ⟨g_m,0,none⟩)]) (N:=106) Tryd.func28 rfl rfl rfl ?_
 refine c_seq (c_region (st (v:=.slice none 0 0) (x_assign .const) ?_))
 refine c_nil (n_then (c_seq (c_region (st (v:=.pointer (some ⟨g_m,0,none⟩)) (x_move (.tmp rfl rfl)) ?_))))
 refine st (v:=.pointer (some ⟨g_m,0,none⟩)) (x_nilCheck (.tmp rfl rfl)) ?_
 refine st (v:=.pointer (some ⟨g_m,0 + 8,none⟩)) (fa78_5 (.tmp rfl rfl)) ?_
 refine st (v:=.pointer none) (ld75 (.tmp rfl rfl) (hs.cell 0 rfl (0 + 8) rfl)) ?_
 refine st (v:=.pointer none) (x_assign (.tmp rfl rfl)) ?_
 refine c_nil (n_then (c_seq (c_seq (q_region mixed hs (by kernel_rfl) ?_))))
 refine q_st (v:=.pointer none) (fun w hs => (x_move (.tmp rfl rfl))) ?_
 refine q_st (v:=.bool true) (fun w hs => (x_eqlP Tryd.underlying75 (.tmp rfl rfl) .const rfl)) ?_
 refine q_st (v:=.bool true) (fun w hs => (x_move (.tmp rfl rfl))) ?_
 refine q_no (yl (dj:=13) (b:=true) rfl rfl rfl) rfl ?_
 refine q_no (yl (dj:=13) (b:=true) rfl rfl rfl) rfl ?_
 refine q_no (yl (dj:=13) (b:=true) rfl rfl rfl) rfl ?_
 refine q_no (yl (dj:=13) (b:=true) rfl rfl rfl) rfl ?_
 refine q_no (yl (dj:=13) (b:=true) rfl rfl rfl) rfl ?_
 refine q_no (yl (dj:=13) (b:=true) rfl rfl rfl) rfl ?_
 refine q_no (yl (dj:=13) (b:=true) rfl rfl rfl) rfl ?_
 refine q_no (yl (dj:=13) (b:=true) rfl rfl rfl) rfl ?_
 refine q_no (yl (dj:=13) (b:=true) rfl rfl rfl) rfl ?_
 refine q_no (yl (dj:=13) (b:=true) rfl rfl rfl) rfl ?_
 refine q_st (v:=.bool true) (fun w hs => (x_pick_t (.tmp rfl rfl) .const)) ?_
 refine q_nil ?_
 intro w hs1
 refine n_then (c_cond_t (t:=true) (.tmp rfl rfl) rfl ?_)
 refine c_seq (c_region (st (v:=.slice none 0 0) (x_assign .const) ?_))
 refine c_nil (n_then (c_ret (r_then (leave_ret (res_one (v:=.slice none 0 0) rfl (.mk rfl rfl)) ?_))))
 have hans:MB.again (MB.mk m_n m_self m_cur m_prom m_high none m_jl m_os) = []:=rfl
 rw [hans]
 have hs2:=hs1.krowNil 53 kOut
 exact ⟨(.slice none 0 0),[],rfl,(RowOk.knil kOut),(Kn.rows_nil _ _),((hs2.p1).p1)⟩
set_option maxHeartbeats 8000000 in
theorem again_S {H:Hp} {w:World} {L:List Res} {g_m m_n m_self m_high:Nat} {m_cur:GView} {m_prom:GViewID} {m_jl:List GState} {m_os:List (GViewID × GViewID)} {A_m:Option Addr} {jn_m jc_m:Nat} {gp_m:Nat} {p_m:GProp} {sv_m:Value} {sc_m:List Value} (hs:St H w (obj g_m 78 ((.int .i64 ((m_n:Nat):Int))::(.int .i64 ((m_self:Nat):Int))::(.int .u64 ((m_cur.ID.N:Nat):Int))::(.int .i64 m_cur.ID.P)::(.int .u16 ((m_cur.Set:Nat):Int))::(.int .u64 ((m_prom.N:Nat):Int))::(.int .i64 m_prom.P)::(.int .u64 ((m_high:Nat):Int))::(.pointer (some ⟨gp_m,0,none⟩))::(.slice A_m jn_m jc_m)::oCells m_os)::obj gp_m 81 (clProp p_m sv_m)::row 37 4 sv_m p_m.states.length sc_m::L)) (ok_m:MemB H m_n m_self m_cur m_prom m_high A_m jn_m jc_m m_jl m_os) (hk_m:PropOk H p_m sv_m sc_m) (htab:Tab H):Calls Tryd.prog 28 #[.pointer (some ⟨g_m,0,none⟩)] w (fun e w' => ∃ (v0:Value) (cs0:List Value),e = .returned (v0)∧RowOk kOut.sz v0 ((MB.again (MB.mk m_n m_self m_cur m_prom m_high (some p_m) m_jl m_os))).length cs0∧kOut.toKn.rows H ((MB.again (MB.mk m_n m_self m_cur m_prom m_high (some p_m) m_jl m_os))) cs0∧St H w' (row 53 kOut.sz v0 ((MB.again (MB.mk m_n m_self m_cur m_prom m_high (some p_m) m_jl m_os))).length cs0::obj g_m 78 ((.int .i64 ((m_n:Nat):Int))::(.int .i64 ((m_self:Nat):Int))::(.int .u64 ((m_cur.ID.N:Nat):Int))::(.int .i64 m_cur.ID.P)::(.int .u16 ((m_cur.Set:Nat):Int))::(.int .u64 ((m_prom.N:Nat):Int))::(.int .i64 m_prom.P)::(.int .u64 ((m_high:Nat):Int))::(.pointer (some ⟨gp_m,0,none⟩))::(.slice A_m jn_m jc_m)::oCells m_os)::obj gp_m 81 (clProp p_m sv_m)::row 37 4 sv_m p_m.states.length sc_m::L)):=by
 have hn1_m:1 ≤ m_n:=ok_m.n1
 have hn16_m:m_n ≤ 16:=ok_m.n16
 have hsf_m:m_self < m_n:=ok_m.self
 have hol_m:m_os.length = 16:=ok_m.len
 have hhi_m:m_high < 18446744073709551616:=ok_m.high
 refine enter (args:=[.pointer (some ⟨g_m,0,none⟩)]) (N:=106) Tryd.func28 rfl rfl rfl ?_
 have hll:(lst p_m.v.Set).length ≤ 16:=lst_len16 _
 refine c_seq (c_region (st (v:=.slice none 0 0) (x_assign .const) ?_))
 refine c_nil (n_then (c_seq (c_region (st (v:=.pointer (some ⟨g_m,0,none⟩)) (x_move (.tmp rfl rfl)) ?_))))
 refine st (v:=.pointer (some ⟨g_m,0,none⟩)) (x_nilCheck (.tmp rfl rfl)) ?_
 refine st (v:=.pointer (some ⟨g_m,0 + 8,none⟩)) (fa78_5 (.tmp rfl rfl)) ?_
 refine st (v:=.pointer (some ⟨gp_m,0,none⟩)) (ld75 (.tmp rfl rfl) (hs.cell 0 rfl (0 + 8) rfl)) ?_
 refine st (v:=.pointer (some ⟨gp_m,0,none⟩)) (x_assign (.tmp rfl rfl)) ?_
 refine c_nil (n_then (c_seq (c_seq (q_region mixed hs (by kernel_rfl) ?_))))
 refine q_st (v:=.pointer (some ⟨gp_m,0,none⟩)) (fun w hs => (x_move (.tmp rfl rfl))) ?_
 refine q_st (v:=.bool false) (fun w hs => (x_eqlP Tryd.underlying75 (.tmp rfl rfl) .const rfl)) ?_
 refine q_st (v:=.bool false) (fun w hs => (x_move (.tmp rfl rfl))) ?_
 refine q_yes (yl (dj:=13) (b:=false) rfl rfl rfl) ?_
 refine q_st (v:=.pointer (some ⟨g_m,0,none⟩)) (fun w hs => (x_move (.tmp rfl rfl))) ?_
 refine q_yes (yl (dj:=13) (b:=false) rfl rfl rfl) ?_
 refine q_st (v:=.pointer (some ⟨g_m,0,none⟩)) (fun w hs => (x_nilCheck (.tmp rfl rfl))) ?_
 refine q_yes (yl (dj:=13) (b:=false) rfl rfl rfl) ?_
 refine q_st (v:=.pointer (some ⟨g_m,0 + 5,none⟩)) (fun w hs => (fa78_3 (.tmp rfl rfl))) ?_
 refine q_yes (yl (dj:=13) (b:=false) rfl rfl rfl) ?_
 refine q_st (v:=.agg #[.int .u64 ((m_prom.N:Nat):Int),.int .i64 m_prom.P]) (fun w hs => (ld34 (cs:=[.int .u64 ((m_prom.N:Nat):Int),.int .i64 m_prom.P]) (.tmp rfl rfl) (hs.at_ 0 rfl (0 + 5) rfl) rfl)) ?_
 refine q_yes (yl (dj:=13) (b:=false) rfl rfl rfl) ?_
 refine q_st (v:=.pointer (some ⟨gp_m,0,none⟩)) (fun w hs => (x_move (.tmp rfl rfl))) ?_
 refine q_yes (yl (dj:=13) (b:=false) rfl rfl rfl) ?_
 refine q_st (v:=.pointer (some ⟨gp_m,0,none⟩)) (fun w hs => (x_nilCheck (.tmp rfl rfl))) ?_
 refine q_yes (yl (dj:=13) (b:=false) rfl rfl rfl) ?_
 refine q_st (v:=.pointer (some ⟨gp_m,0 + 0,none⟩)) (fun w hs => (fa81_0 (.tmp rfl rfl))) ?_
 refine q_yes (yl (dj:=13) (b:=false) rfl rfl rfl) ?_
 refine q_st (v:=.pointer (some ⟨gp_m,0 + 0 + 0,none⟩)) (fun w hs => (fa39_0 (.tmp rfl rfl))) ?_
 refine q_yes (yl (dj:=13) (b:=false) rfl rfl rfl) ?_
 refine q_st (v:=.agg #[.int .u64 ((p_m.v.ID.N:Nat):Int),.int .i64 p_m.v.ID.P]) (fun w hs => (ld34 (cs:=[.int .u64 ((p_m.v.ID.N:Nat):Int),.int .i64 p_m.v.ID.P]) (.tmp rfl rfl) (hs.at_ 1 rfl (0 + 0 + 0) rfl) rfl)) ?_
 refine q_yes (yl (dj:=13) (b:=false) rfl rfl rfl) ?_
 refine q_st (v:=.bool (!((((m_prom.N:Nat):Int) == ((p_m.v.ID.N:Nat):Int)) && ((m_prom.P == p_m.v.ID.P) && true)))) (fun w hs => (x_neqA eqg34 (.tmp rfl rfl) (.tmp rfl rfl) (fun d => eqs34 (d + 98) _ ((m_prom.N:Nat):Int) ((p_m.v.ID.N:Nat):Int) m_prom.P p_m.v.ID.P))) ?_
 refine q_st (v:=.bool (!(decide (m_prom = p_m.v.ID)))) (fun w hs => (x_pick_f (.tmp rfl rfl) (.tmp rfl (congrArg (fun z => Value.bool (!z)) (GViewID.beq_dec m_prom p_m.v.ID))))) ?_
 refine q_nil ?_
 intro w hs1
 refine n_then ?_
 rcases Bool.eq_false_or_eq_true (decide (m_prom = p_m.v.ID)) with hc2 | hc2
 have hp2:m_prom = p_m.v.ID:=of_decide_eq_true hc2
 refine c_cond_f (t:=false) (.tmp rfl (cVb (by rw [hc2]; rfl))) rfl ?_
 refine c_skip (n_then (c_seq (c_region (st (v:=.slice none 0 0) (x_assign .const) ?_))))
 refine c_nil (n_then (c_seq (c_seq (c_region (st (v:=.pointer (some ⟨gp_m,0,none⟩)) (x_move (.tmp rfl rfl)) ?_)))))
 refine st (v:=.pointer (some ⟨gp_m,0,none⟩)) (x_nilCheck (.tmp rfl rfl)) ?_
 refine st (v:=.pointer (some ⟨gp_m,0 + 0,none⟩)) (fa81_0 (.tmp rfl rfl)) ?_
 refine st (v:=.pointer (some ⟨gp_m,0 + 0 + 2,none⟩)) (fa39_1 (.tmp rfl rfl)) ?_
 refine st (v:=.int .u16 ((p_m.v.Set:Nat):Int)) (ld31 (.tmp rfl rfl) (hs1.cell 1 rfl (0 + 0 + 2) rfl)) ?_
 refine st_c cb36 .func (evs1 (.tmp rfl rfl)) (list_spec hs1 htab p_m.v.Set hk_m.set) ?_
 rintro e w4 ⟨v3,rfl,ok5,hs6⟩
 refine ⟨_,rfl,?_⟩
 obtain ⟨A8,c9,hv10,hc11⟩:=ok5.slice
 refine st (v:=.int .i64 (((lst p_m.v.Set).length:Nat):Int)) (x_len (n:=(lst p_m.v.Set).length) Tryd.underlying71 (.tmp rfl hv10)) ?_
 refine st (v:=.int .i64 0) (x_move .const) ?_
 refine c_nil (n_then (c_block ?_))
 have hs13:=hs6.krowNil 53 kOut
 have:([]:List GOut).length = 0:=rfl
 refine c_loop (fun ρ w mm => ∃ (out:List GOut) (v_out:Value) (c_out:List Value) (i:Nat),ρ 0 = .pointer (some ⟨g_m,0,none⟩)∧ρ 3 = .pointer (some ⟨gp_m,0,none⟩)∧ρ 4 = v_out∧ρ 30 = v3∧ρ 31 = .int .i64 (((lst p_m.v.Set).length:Nat):Int)∧ρ 32 = .int .i64 ((i:Nat):Int)∧(RowOk kOut.sz v_out out.length c_out)∧(kOut.toKn.rows H out c_out)∧(i ≤ (lst p_m.v.Set).length)∧(out = ((lst p_m.v.Set).take i).flatMap (MB.again1 (MB.mk m_n m_self m_cur m_prom m_high (some p_m) m_jl m_os) p_m))∧(out.length ≤ i)∧St H w (row 53 16 v_out out.length c_out::row 3 1 v3 ((lst p_m.v.Set).length) ((lst p_m.v.Set).map encI)::obj g_m 78 ((.int .i64 ((m_n:Nat):Int))::(.int .i64 ((m_self:Nat):Int))::(.int .u64 ((m_cur.ID.N:Nat):Int))::(.int .i64 m_cur.ID.P)::(.int .u16 ((m_cur.Set:Nat):Int))::(.int .u64 ((m_prom.N:Nat):Int))::(.int .i64 m_prom.P)::(.int .u64 ((m_high:Nat):Int))::(.pointer (some ⟨gp_m,0,none⟩))::(.slice A_m jn_m jc_m)::oCells m_os)::obj gp_m 81 (clProp p_m sv_m)::row 37 4 sv_m p_m.states.length sc_m::L)∧mm = (lst p_m.v.Set).length - i) _ ⟨([]:List GOut),(.slice none 0 0),[],0,rfl,rfl,rfl,rfl,rfl,rfl,(RowOk.knil kOut),(Kn.rows_nil _ _),(by omega),rfl,(Nat.zero_le _),(((((hs13.p4).p4).p4).p4).p4),rfl⟩ ?_
 rintro ρ w mm ⟨out,v_out,c_out,i,hρ15,hρ16,hρ17,hρ18,hρ19,hρ20,ok_out,hk_out,hi,hout,hol,hs21,rfl⟩
 refine c_seq (c_region (st (v:=.bool (decide ((((i:Nat):Int):Int) < (((lst p_m.v.Set).length:Nat):Int)))) (x_lss (k:=.i64) (a:=((i:Nat):Int)) (b:=(((lst p_m.v.Set).length:Nat):Int)) (.tmp rfl hρ20) (.tmp rfl hρ19)) ?_))
 refine c_nil (n_then (c_seq ?_))
 rcases Bool.eq_false_or_eq_true (decide ((((i:Nat):Int):Int) < (((lst p_m.v.Set).length:Nat):Int))) with hc22 | hc22
 have hp22:(((i:Nat):Int):Int) < (((lst p_m.v.Set).length:Nat):Int):=of_decide_eq_true hc22
 refine c_cond_t (t:=true) (.tmp rfl (cVb hc22)) rfl ?_
 refine c_skip (n_then (c_seq (c_block (c_seq (c_region ?_)))))
 obtain ⟨g23,c24,hv25⟩:=ok5.pos (by omega)
 refine st (v:=.pointer (some ⟨g23,(i),none⟩)) (ixo71 (.tmp rfl (hρ18.trans hv25)) rfl (i:=((i:Nat):Int)) (.tmp rfl hρ20) (by omega) (by omega) (by omega)) ?_
 obtain ⟨z26,hz27⟩:∃ x,(lst p_m.v.Set)[i]? = some x:=⟨_,List.getElem?_eq_getElem (by omega)⟩
 refine st (v:=.int .i64 ((z26:Nat):Int)) (ld3 (.tmp rfl rfl) (hs21.rowEnc (enc:=encI) 1 rfl hv25 i hz27)) ?_
 refine st (v:=.int .i64 ((z26:Nat):Int)) (x_assign (.tmp rfl rfl)) ?_
 refine c_nil (n_then (c_block (c_seq (c_region ?_))))
 have hz16:=lst_lt hz27
 refine st (v:=.int .i64 ((z26:Nat):Int)) (x_move (.tmp rfl rfl)) ?_
 refine st (v:=.pointer (some ⟨g_m,0,none⟩)) (x_move (.tmp rfl hρ15)) ?_
 refine st (v:=.pointer (some ⟨g_m,0,none⟩)) (x_nilCheck (.tmp rfl rfl)) ?_
 refine st (v:=.pointer (some ⟨g_m,0 + 1,none⟩)) (fa78_1 (.tmp rfl rfl)) ?_
 refine st (v:=.int .i64 ((m_self:Nat):Int)) (ld3 (.tmp rfl rfl) (hs21.cell 2 rfl (0 + 1) rfl)) ?_
 refine st (v:=.bool (decide ((((z26:Nat):Int):Int) = ((m_self:Nat):Int)))) (x_eql (k:=.i64) (a:=((z26:Nat):Int)) (b:=((m_self:Nat):Int)) (.tmp rfl rfl) (.tmp rfl rfl)) ?_
 refine st (v:=.bool (decide ((((z26:Nat):Int):Int) = ((m_self:Nat):Int)))) (x_assign (.tmp rfl rfl)) ?_
 refine c_nil (n_then ?_)
 rcases Bool.eq_false_or_eq_true (decide ((((z26:Nat):Int):Int) = ((m_self:Nat):Int))) with hc28 | hc28
 have hp28:(((z26:Nat):Int):Int) = ((m_self:Nat):Int):=of_decide_eq_true hc28
 refine c_cond_t (t:=true) (.tmp rfl (cVb hc28)) rfl ?_
 refine c_skip (n_block (n_block (n_then (c_region (st (v:=.int .i64 (((i + 1):Nat):Int)) (x_add (k:=.i64) (a:=((i:Nat):Int)) (b:=1) (.tmp rfl hρ20) .const ((w64 (by omega) (by omega)).trans (by omega))) ?_)))))
 refine st (v:=.int .i64 (((i + 1):Nat):Int)) (x_move (.tmp rfl rfl)) ?_
 refine c_nil ?_
 refine n_then ⟨_,_,rfl,?_,out,v_out,c_out,(i + 1),hρ15,hρ16,hρ17,hρ18,hρ19,rfl,ok_out,hk_out,(by omega),(flat_next0 hz27 hout (ag_self hc28)),(by omega),(((((hs21.p4).p4).p4).p4).p4),rfl⟩
 omega
 have hp28:¬ ((((z26:Nat):Int):Int) = ((m_self:Nat):Int)):=of_decide_eq_false hc28
 refine c_cond_f (t:=false) (.tmp rfl (cVb hc28)) rfl ?_
 refine c_seq (q_region mixed hs21 (by kernel_rfl) ?_)
 refine q_st (v:=.pointer (some ⟨gp_m,0,none⟩)) (fun w hs => (x_move (.tmp rfl hρ16))) ?_
 refine q_st (v:=.pointer (some ⟨gp_m,0,none⟩)) (fun w hs => (x_nilCheck (.tmp rfl rfl))) ?_
 refine q_st (v:=.pointer (some ⟨gp_m,0 + 5,none⟩)) (fun w hs => (fa81_3 (.tmp rfl rfl))) ?_
 refine q_st (v:=.bool p_m.done) (fun w hs => (ld4 (.tmp rfl rfl) (hs.cell 3 rfl (0 + 5) rfl))) ?_
 refine q_st (v:=.bool p_m.done) (fun w hs => (x_move (.tmp rfl rfl))) ?_
 refine jq 14 (fun ρ => ρ 62 = .bool (p_m.done && (!(decide (((m_os.getD z26 (z0,z0)).1) = p_m.v.ID))))∧ρ 0 = .pointer (some ⟨g_m,0,none⟩)∧ρ 3 = .pointer (some ⟨gp_m,0,none⟩)∧ρ 4 = v_out∧ρ 30 = v3∧ρ 31 = .int .i64 (((lst p_m.v.Set).length:Nat):Int)∧ρ 32 = .int .i64 ((i:Nat):Int)∧ρ 6 = .int .i64 ((z26:Nat):Int)∧True) ?_ ?_
 rcases Bool.eq_false_or_eq_true p_m.done with hc29 | hc29
 refine q_yes (yk 48 true rfl rfl hc29) ?_
 refine q_st (v:=.pointer (some ⟨g_m,0,none⟩)) (fun w hs => (x_move (.tmp rfl hρ15))) ?_
 refine q_yes (yk 48 true rfl rfl hc29) ?_
 refine q_st (v:=.int .i64 ((z26:Nat):Int)) (fun w hs => (x_move (.tmp rfl rfl))) ?_
 refine q_yes (yk 48 true rfl rfl hc29) ?_
 refine q_st (v:=.pointer (some ⟨g_m,0,none⟩)) (fun w hs => (x_nilCheck (.tmp rfl rfl))) ?_
 refine q_yes (yk 48 true rfl rfl hc29) ?_
 refine q_st (v:=.pointer (some ⟨g_m,0 + 10,none⟩)) (fun w hs => (fa78_7 (.tmp rfl rfl))) ?_
 refine q_yes (yk 48 true rfl rfl hc29) ?_
 refine q_st (v:=.pointer (some ⟨g_m,(10 + z26 * 15),none⟩)) (fun w hs => (ixo76 (.tmp rfl rfl) (i:=((z26:Nat):Int)) (.tmp rfl rfl) (by omega) (by omega) (by omega))) ?_
 refine q_yes (yk 48 true rfl rfl hc29) ?_
 refine q_st (v:=.pointer (some ⟨g_m,(10 + z26 * 15) + 5,none⟩)) (fun w hs => (fa51_4 (.tmp rfl rfl))) ?_
 refine q_yes (yk 48 true rfl rfl hc29) ?_
 refine q_st (v:=.agg #[.int .u64 (((m_os.getD z26 (z0,z0)).1.N:Nat):Int),.int .i64 ((m_os.getD z26 (z0,z0)).1.P)]) (fun w hs => (ld34 (cs:=[.int .u64 (((m_os.getD z26 (z0,z0)).1.N:Nat):Int),.int .i64 ((m_os.getD z26 (z0,z0)).1.P)]) (.tmp rfl rfl) (oth_at hs 2 rfl ok_m.len (idx:=z26) (k:=5) (by omega) (ds:=[.int .u64 (((m_os.getD z26 (z0,z0)).1.N:Nat):Int),.int .i64 ((m_os.getD z26 (z0,z0)).1.P)]) rfl) rfl)) ?_
 refine q_yes (yk 48 true rfl rfl hc29) ?_
 refine q_st (v:=.pointer (some ⟨gp_m,0,none⟩)) (fun w hs => (x_move (.tmp rfl hρ16))) ?_
 refine q_yes (yk 48 true rfl rfl hc29) ?_
 refine q_st (v:=.pointer (some ⟨gp_m,0,none⟩)) (fun w hs => (x_nilCheck (.tmp rfl rfl))) ?_
 refine q_yes (yk 48 true rfl rfl hc29) ?_
 refine q_st (v:=.pointer (some ⟨gp_m,0 + 0,none⟩)) (fun w hs => (fa81_0 (.tmp rfl rfl))) ?_
 refine q_yes (yk 48 true rfl rfl hc29) ?_
 refine q_st (v:=.pointer (some ⟨gp_m,0 + 0 + 0,none⟩)) (fun w hs => (fa39_0 (.tmp rfl rfl))) ?_
 refine q_yes (yk 48 true rfl rfl hc29) ?_
 refine q_st (v:=.agg #[.int .u64 ((p_m.v.ID.N:Nat):Int),.int .i64 p_m.v.ID.P]) (fun w hs => (ld34 (cs:=[.int .u64 ((p_m.v.ID.N:Nat):Int),.int .i64 p_m.v.ID.P]) (.tmp rfl rfl) (hs.at_ 3 rfl (0 + 0 + 0) rfl) rfl)) ?_
 refine q_yes (yk 48 true rfl rfl hc29) ?_
 refine q_st (v:=.bool (!(((((m_os.getD z26 (z0,z0)).1.N:Nat):Int) == ((p_m.v.ID.N:Nat):Int)) && ((((m_os.getD z26 (z0,z0)).1.P) == p_m.v.ID.P) && true)))) (fun w hs => (x_neqA eqg34 (.tmp rfl rfl) (.tmp rfl rfl) (fun d => eqs34 (d + 98) _ (((m_os.getD z26 (z0,z0)).1.N:Nat):Int) ((p_m.v.ID.N:Nat):Int) ((m_os.getD z26 (z0,z0)).1.P) p_m.v.ID.P))) ?_
 refine q_st (v:=.bool (!(decide (((m_os.getD z26 (z0,z0)).1) = p_m.v.ID)))) (fun w hs => (x_pick_t (.tmp rfl (cVb hc29)) (.tmp rfl (congrArg (fun z => Value.bool (!z)) (GViewID.beq_dec ((m_os.getD z26 (z0,z0)).1) p_m.v.ID))))) ?_
 exact jq_end ⟨(cVb (jand_t hc29)),hρ15,hρ16,hρ17,hρ18,hρ19,hρ20,rfl,True.intro⟩
 refine q_no (yk 48 false rfl rfl hc29) rfl ?_
 refine q_no (yk 48 false rfl rfl hc29) rfl ?_
 refine q_no (yk 48 false rfl rfl hc29) rfl ?_
 refine q_no (yk 48 false rfl rfl hc29) rfl ?_
 refine q_no (yk 48 false rfl rfl hc29) rfl ?_
 refine q_no (yk 48 false rfl rfl hc29) rfl ?_
 refine q_no (yk 48 false rfl rfl hc29) rfl ?_
 refine q_no (yk 48 false rfl rfl hc29) rfl ?_
 refine q_no (yk 48 false rfl rfl hc29) rfl ?_
 refine q_no (yk 48 false rfl rfl hc29) rfl ?_
 refine q_no (yk 48 false rfl rfl hc29) rfl ?_
 refine q_no (yk 48 false rfl rfl hc29) rfl ?_
 refine q_no (yk 48 false rfl rfl hc29) rfl ?_
 refine q_st (v:=.bool false) (fun w hs => (x_pick_f (.tmp rfl (cVb hc29)) .const)) ?_
 exact jq_end ⟨(cVb (jand_f hc29)),hρ15,hρ16,hρ17,hρ18,hρ19,hρ20,rfl,True.intro⟩
 rintro ρ ⟨hρ30,hρ31,hρ32,hρ33,hρ34,hρ35,hρ36,hρ37,_⟩
 refine q_st (v:=.bool (p_m.done && (!(decide (((m_os.getD z26 (z0,z0)).1) = p_m.v.ID))))) (fun w hs => (x_assign (.tmp rfl hρ30))) ?_
 refine q_nil ?_
 intro w hs39
 refine n_then ?_
 rcases Bool.eq_false_or_eq_true (p_m.done && (!(decide (((m_os.getD z26 (z0,z0)).1) = p_m.v.ID)))) with hc40 | hc40
 have hp40:(p_m.done = true)∧(¬ (((m_os.getD z26 (z0,z0)).1) = p_m.v.ID)):=((J_and Iff.rfl (J_not decide_eq_true_iff))).1 hc40
 refine c_cond_t (t:=true) (.tmp rfl (cVb hc40)) rfl ?_
 refine c_region (st (v:=v_out) (x_move (.tmp rfl hρ33)) ?_)
 refine st (v:=.pointer (some ⟨g_m,0,none⟩)) (x_move (.tmp rfl hρ31)) ?_
 refine st (v:=.int .i64 ((z26:Nat):Int)) (x_move (.tmp rfl hρ37)) ?_
 have hs41:=hs39.p4
 have hs42:=hs41.p4
 have hs43:=hs42.p4
 have okm44:MemB H m_n m_self m_cur m_prom m_high A_m jn_m jc_m m_jl m_os:=⟨hn1_m,hn16_m,hsf_m,⟨ok_m.cur.n,ok_m.cur.p⟩,ok_m.set,⟨ok_m.prom.n,ok_m.prom.p⟩,ok_m.high,ok_m.joined,ok_m.len,ok_m.oth⟩
 have okp45:PropOk H p_m sv_m sc_m:=⟨⟨hk_m.id.n,hk_m.id.p⟩,hk_m.set,hk_m.who,hk_m.ok,hk_m.hk⟩
 refine st_c cb39 .func (evs2 (.tmp rfl rfl) (.tmp rfl rfl)) (commit_S hs43 (p_m:=p_m) (m_n:=m_n) (m_self:=m_self) (m_cur:=m_cur) (m_prom:=m_prom) (m_high:=m_high) (m_jl:=m_jl) (m_os:=m_os) okm44 okp45 z26 (by omega)) ?_
 rintro e w46 ⟨cs48,rfl,hr49,hs47⟩
 obtain ⟨A65,n66,c67,A70,n71,c72,A74,n75,c76,rfl,⟨b50,b51⟩,b52,⟨b53,b54⟩,b55,⟨b56,b57⟩,b58,b59,⟨b60,b61⟩,b62,⟨b63,b64⟩,hl68,b69,hl73,hl77,b78,b79⟩:=hr49
 have:=hl68.len; have:n66 * 48 ≤ 140737488351232:=hl68.bnd; have:=hl68.le
 have:=hl73.len; have:n71 * 24 ≤ 140737488351232:=hl73.bnd; have:=hl73.le
 have:=hl77.len; have:n75 * 32 ≤ 140737488351232:=hl77.bnd; have:=hl77.le
 refine ⟨_,rfl,?_⟩
 refine st_m (m_lit (n:=1) (ps:=[(0,.agg #[.int .i64 ((MB.commit (MB.mk m_n m_self m_cur m_prom m_high (some p_m) m_jl m_os) p_m z26).To),.int .u8 (((((MB.commit (MB.mk m_n m_self m_cur m_prom m_high (some p_m) m_jl m_os) p_m z26).F).Kind):Nat):Int),.int .i64 (((MB.commit (MB.mk m_n m_self m_cur m_prom m_high (some p_m) m_jl m_os) p_m z26).F).From),.int .u64 ((((((MB.commit (MB.mk m_n m_self m_cur m_prom m_high (some p_m) m_jl m_os) p_m z26).F).ID).N):Nat):Int),.int .i64 ((((MB.commit (MB.mk m_n m_self m_cur m_prom m_high (some p_m) m_jl m_os) p_m z26).F).ID).P),.int .u16 (((((MB.commit (MB.mk m_n m_self m_cur m_prom m_high (some p_m) m_jl m_os) p_m z26).F).Set):Nat):Int),.int .u64 ((((((MB.commit (MB.mk m_n m_self m_cur m_prom m_high (some p_m) m_jl m_os) p_m z26).F).Cur).N):Nat):Int),.int .i64 ((((MB.commit (MB.mk m_n m_self m_cur m_prom m_high (some p_m) m_jl m_os) p_m z26).F).Cur).P),.int .u64 ((((((MB.commit (MB.mk m_n m_self m_cur m_prom m_high (some p_m) m_jl m_os) p_m z26).F).Prom).N):Nat):Int),.int .i64 ((((MB.commit (MB.mk m_n m_self m_cur m_prom m_high (some p_m) m_jl m_os) p_m z26).F).Prom).P),.slice A65 n66 c67,.int .u64 (((((MB.commit (MB.mk m_n m_self m_cur m_prom m_high (some p_m) m_jl m_os) p_m z26).F).Base):Nat):Int),.slice A70 n71 c72,.slice A74 n75 c76,.int .u64 (((((MB.commit (MB.mk m_n m_self m_cur m_prom m_high (some p_m) m_jl m_os) p_m z26).F).Ack):Nat):Int),.int .u64 (((((MB.commit (MB.mk m_n m_self m_cur m_prom m_high (some p_m) m_jl m_os) p_m z26).F).Safe):Nat):Int)])]) (cs:=[.int .i64 ((MB.commit (MB.mk m_n m_self m_cur m_prom m_high (some p_m) m_jl m_os) p_m z26).To),.int .u8 (((((MB.commit (MB.mk m_n m_self m_cur m_prom m_high (some p_m) m_jl m_os) p_m z26).F).Kind):Nat):Int),.int .i64 (((MB.commit (MB.mk m_n m_self m_cur m_prom m_high (some p_m) m_jl m_os) p_m z26).F).From),.int .u64 ((((((MB.commit (MB.mk m_n m_self m_cur m_prom m_high (some p_m) m_jl m_os) p_m z26).F).ID).N):Nat):Int),.int .i64 ((((MB.commit (MB.mk m_n m_self m_cur m_prom m_high (some p_m) m_jl m_os) p_m z26).F).ID).P),.int .u16 (((((MB.commit (MB.mk m_n m_self m_cur m_prom m_high (some p_m) m_jl m_os) p_m z26).F).Set):Nat):Int),.int .u64 ((((((MB.commit (MB.mk m_n m_self m_cur m_prom m_high (some p_m) m_jl m_os) p_m z26).F).Cur).N):Nat):Int),.int .i64 ((((MB.commit (MB.mk m_n m_self m_cur m_prom m_high (some p_m) m_jl m_os) p_m z26).F).Cur).P),.int .u64 ((((((MB.commit (MB.mk m_n m_self m_cur m_prom m_high (some p_m) m_jl m_os) p_m z26).F).Prom).N):Nat):Int),.int .i64 ((((MB.commit (MB.mk m_n m_self m_cur m_prom m_high (some p_m) m_jl m_os) p_m z26).F).Prom).P),.slice A65 n66 c67,.int .u64 (((((MB.commit (MB.mk m_n m_self m_cur m_prom m_high (some p_m) m_jl m_os) p_m z26).F).Base):Nat):Int),.slice A70 n71 c72,.slice A74 n75 c76,.int .u64 (((((MB.commit (MB.mk m_n m_self m_cur m_prom m_high (some p_m) m_jl m_os) p_m z26).F).Ack):Nat):Int),.int .u64 (((((MB.commit (MB.mk m_n m_self m_cur m_prom m_high (some p_m) m_jl m_os) p_m z26).F).Safe):Nat):Int)]) Tryd.underlying27 inf53 (.cons (.tmp rfl rfl) Evp.nil) (by decide) (by decide) rfl rfl hs47) ?_
 rintro _ w81 ⟨g80,rfl,hs83⟩
 have hs84:=hs83.p4
 have hr92:kOut.rep H (MB.commit (MB.mk m_n m_self m_cur m_prom m_high (some p_m) m_jl m_os) p_m z26) [.int .i64 ((MB.commit (MB.mk m_n m_self m_cur m_prom m_high (some p_m) m_jl m_os) p_m z26).To),.int .u8 (((((MB.commit (MB.mk m_n m_self m_cur m_prom m_high (some p_m) m_jl m_os) p_m z26).F).Kind):Nat):Int),.int .i64 (((MB.commit (MB.mk m_n m_self m_cur m_prom m_high (some p_m) m_jl m_os) p_m z26).F).From),.int .u64 ((((((MB.commit (MB.mk m_n m_self m_cur m_prom m_high (some p_m) m_jl m_os) p_m z26).F).ID).N):Nat):Int),.int .i64 ((((MB.commit (MB.mk m_n m_self m_cur m_prom m_high (some p_m) m_jl m_os) p_m z26).F).ID).P),.int .u16 (((((MB.commit (MB.mk m_n m_self m_cur m_prom m_high (some p_m) m_jl m_os) p_m z26).F).Set):Nat):Int),.int .u64 ((((((MB.commit (MB.mk m_n m_self m_cur m_prom m_high (some p_m) m_jl m_os) p_m z26).F).Cur).N):Nat):Int),.int .i64 ((((MB.commit (MB.mk m_n m_self m_cur m_prom m_high (some p_m) m_jl m_os) p_m z26).F).Cur).P),.int .u64 ((((((MB.commit (MB.mk m_n m_self m_cur m_prom m_high (some p_m) m_jl m_os) p_m z26).F).Prom).N):Nat):Int),.int .i64 ((((MB.commit (MB.mk m_n m_self m_cur m_prom m_high (some p_m) m_jl m_os) p_m z26).F).Prom).P),.slice A65 n66 c67,.int .u64 (((((MB.commit (MB.mk m_n m_self m_cur m_prom m_high (some p_m) m_jl m_os) p_m z26).F).Base):Nat):Int),.slice A70 n71 c72,.slice A74 n75 c76,.int .u64 (((((MB.commit (MB.mk m_n m_self m_cur m_prom m_high (some p_m) m_jl m_os) p_m z26).F).Ack):Nat):Int),.int .u64 (((((MB.commit (MB.mk m_n m_self m_cur m_prom m_high (some p_m) m_jl m_os) p_m z26).F).Safe):Nat):Int)]:=⟨A65,n66,c67,A70,n71,c72,A74,n75,c76,rfl,⟨b50,b51⟩,b52,⟨b53,b54⟩,b55,⟨b56,b57⟩,b58,b59,⟨b60,b61⟩,b62,⟨b63,b64⟩,hl68,b69,hl73,hl77,b78,b79⟩
 refine st_m (m_appK (d:=kOut) (ys:=[(MB.commit (MB.mk m_n m_self m_cur m_prom m_high (some p_m) m_jl m_os) p_m z26)]) (news:=[.int .i64 ((MB.commit (MB.mk m_n m_self m_cur m_prom m_high (some p_m) m_jl m_os) p_m z26).To),.int .u8 (((((MB.commit (MB.mk m_n m_self m_cur m_prom m_high (some p_m) m_jl m_os) p_m z26).F).Kind):Nat):Int),.int .i64 (((MB.commit (MB.mk m_n m_self m_cur m_prom m_high (some p_m) m_jl m_os) p_m z26).F).From),.int .u64 ((((((MB.commit (MB.mk m_n m_self m_cur m_prom m_high (some p_m) m_jl m_os) p_m z26).F).ID).N):Nat):Int),.int .i64 ((((MB.commit (MB.mk m_n m_self m_cur m_prom m_high (some p_m) m_jl m_os) p_m z26).F).ID).P),.int .u16 (((((MB.commit (MB.mk m_n m_self m_cur m_prom m_high (some p_m) m_jl m_os) p_m z26).F).Set):Nat):Int),.int .u64 ((((((MB.commit (MB.mk m_n m_self m_cur m_prom m_high (some p_m) m_jl m_os) p_m z26).F).Cur).N):Nat):Int),.int .i64 ((((MB.commit (MB.mk m_n m_self m_cur m_prom m_high (some p_m) m_jl m_os) p_m z26).F).Cur).P),.int .u64 ((((((MB.commit (MB.mk m_n m_self m_cur m_prom m_high (some p_m) m_jl m_os) p_m z26).F).Prom).N):Nat):Int),.int .i64 ((((MB.commit (MB.mk m_n m_self m_cur m_prom m_high (some p_m) m_jl m_os) p_m z26).F).Prom).P),.slice A65 n66 c67,.int .u64 (((((MB.commit (MB.mk m_n m_self m_cur m_prom m_high (some p_m) m_jl m_os) p_m z26).F).Base):Nat):Int),.slice A70 n71 c72,.slice A74 n75 c76,.int .u64 (((((MB.commit (MB.mk m_n m_self m_cur m_prom m_high (some p_m) m_jl m_os) p_m z26).F).Ack):Nat):Int),.int .u64 (((((MB.commit (MB.mk m_n m_self m_cur m_prom m_high (some p_m) m_jl m_os) p_m z26).F).Safe):Nat):Int)]) Tryd.underlying27 inf53 rfl hs84 ok_out hk_out (.tmp rfl rfl) (.tmp rfl rfl) (Kn.rows_one hr92) rfl (hs84.at_ 1 rfl 0 rfl) (by have:([(MB.commit (MB.mk m_n m_self m_cur m_prom m_high (some p_m) m_jl m_os) p_m z26)]:List GOut).length = 1:=rfl; omega) (by decide)) ?_
 rintro v85 w86 ⟨cs87,ok88,hk89,hs90⟩
 have hn91:(out ++ [(MB.commit (MB.mk m_n m_self m_cur m_prom m_high (some p_m) m_jl m_os) p_m z26)]).length = out.length + 1:=by simp
 refine st (v:=v85) (x_assign (.tmp rfl rfl)) ?_
 refine c_nil (n_block (n_block (n_then (c_region (st (v:=.int .i64 (((i + 1):Nat):Int)) (x_add (k:=.i64) (a:=((i:Nat):Int)) (b:=1) (.tmp rfl hρ36) .const ((w64 (by omega) (by omega)).trans (by omega))) ?_)))))
 refine st (v:=.int .i64 (((i + 1):Nat):Int)) (x_move (.tmp rfl rfl)) ?_
 refine c_nil ?_
 refine n_then ⟨_,_,rfl,?_,(out ++ [(MB.commit (MB.mk m_n m_self m_cur m_prom m_high (some p_m) m_jl m_os) p_m z26)]),v85,cs87,(i + 1),hρ31,hρ32,rfl,hρ34,hρ35,rfl,ok88,hk89,(by omega),(flat_next hz27 hout (ag_commit hc28 hc40)),(by have h9:=hol; simp only [List.length_append,List.length_singleton]; omega),((((((hs90.p1).drop.p3).p3).p3).p4).p4),rfl⟩
 omega
 have hp40:¬ ((p_m.done = true)∧(¬ (((m_os.getD z26 (z0,z0)).1) = p_m.v.ID))):=J_no (J_and Iff.rfl (J_not decide_eq_true_iff)) hc40
 refine c_cond_f (t:=false) (.tmp rfl (cVb hc40)) rfl ?_
 refine c_seq (c_region (st (v:=.pointer (some ⟨gp_m,0,none⟩)) (x_move (.tmp rfl hρ32)) ?_))
 refine st (v:=.pointer (some ⟨gp_m,0,none⟩)) (x_nilCheck (.tmp rfl rfl)) ?_
 refine st (v:=.pointer (some ⟨gp_m,0 + 5,none⟩)) (fa81_3 (.tmp rfl rfl)) ?_
 refine st (v:=.bool p_m.done) (ld4 (.tmp rfl rfl) (hs39.cell 3 rfl (0 + 5) rfl)) ?_
 refine st (v:=.bool (!p_m.done)) (x_not (.tmp rfl rfl)) ?_
 refine st (v:=.bool (!p_m.done)) (x_move (.tmp rfl rfl)) ?_
 refine jw 8 (fun ρ w => ρ 83 = .bool ((!p_m.done) && (!(has p_m.who ((z26:Nat):Int))))∧ρ 0 = .pointer (some ⟨g_m,0,none⟩)∧ρ 3 = .pointer (some ⟨gp_m,0,none⟩)∧ρ 4 = v_out∧ρ 30 = v3∧ρ 31 = .int .i64 (((lst p_m.v.Set).length:Nat):Int)∧ρ 32 = .int .i64 ((i:Nat):Int)∧ρ 6 = .int .i64 ((z26:Nat):Int)∧St H w (row 53 16 v_out out.length c_out::row 3 1 v3 ((lst p_m.v.Set).length) ((lst p_m.v.Set).map encI)::obj g_m 78 ((.int .i64 ((m_n:Nat):Int))::(.int .i64 ((m_self:Nat):Int))::(.int .u64 ((m_cur.ID.N:Nat):Int))::(.int .i64 m_cur.ID.P)::(.int .u16 ((m_cur.Set:Nat):Int))::(.int .u64 ((m_prom.N:Nat):Int))::(.int .i64 m_prom.P)::(.int .u64 ((m_high:Nat):Int))::(.pointer (some ⟨gp_m,0,none⟩))::(.slice A_m jn_m jc_m)::oCells m_os)::obj gp_m 81 (clProp p_m sv_m)::row 37 4 sv_m p_m.states.length sc_m::L)) ?_ ?_
 rcases Bool.eq_false_or_eq_true p_m.done with hc93 | hc93
 refine g_no (yl (dj:=75) (b:=false) rfl rfl (cVb (by rw [hc93]; rfl))) rfl ?_
 refine g_no (yl (dj:=75) (b:=false) rfl rfl (cVb (by rw [hc93]; rfl))) rfl ?_
 refine g_no (yl (dj:=75) (b:=false) rfl rfl (cVb (by rw [hc93]; rfl))) rfl ?_
 refine g_no (yl (dj:=75) (b:=false) rfl rfl (cVb (by rw [hc93]; rfl))) rfl ?_
 refine g_no (yl (dj:=75) (b:=false) rfl rfl (cVb (by rw [hc93]; rfl))) rfl ?_
 refine g_no (yl (dj:=75) (b:=false) rfl rfl (cVb (by rw [hc93]; rfl))) rfl ?_
 refine g_no (yl (dj:=75) (b:=false) rfl rfl (cVb (by rw [hc93]; rfl))) rfl ?_
 refine st (v:=.bool false) (x_pick_f (.tmp rfl (cVb (by rw [hc93]; rfl))) .const) ?_
 exact jw_end ⟨(cVb (jand_f (by rw [hc93]; rfl))),hρ31,hρ32,hρ33,hρ34,hρ35,hρ36,hρ37,hs39⟩
 refine g_yes (yl (dj:=75) (b:=true) rfl rfl (cVb (by rw [hc93]; rfl))) ?_
 refine st (v:=.pointer (some ⟨gp_m,0,none⟩)) (x_move (.tmp rfl hρ32)) ?_
 refine g_yes (yl (dj:=75) (b:=true) rfl rfl (cVb (by rw [hc93]; rfl))) ?_
 refine st (v:=.pointer (some ⟨gp_m,0,none⟩)) (x_nilCheck (.tmp rfl rfl)) ?_
 refine g_yes (yl (dj:=75) (b:=true) rfl rfl (cVb (by rw [hc93]; rfl))) ?_
 refine st (v:=.pointer (some ⟨gp_m,0 + 3,none⟩)) (fa81_1 (.tmp rfl rfl)) ?_
 refine g_yes (yl (dj:=75) (b:=true) rfl rfl (cVb (by rw [hc93]; rfl))) ?_
 refine st (v:=.int .u16 ((p_m.who:Nat):Int)) (ld31 (.tmp rfl rfl) (hs39.cell 3 rfl (0 + 3) rfl)) ?_
 refine g_yes (yl (dj:=75) (b:=true) rfl rfl (cVb (by rw [hc93]; rfl))) ?_
 refine st (v:=.int .i64 ((z26:Nat):Int)) (x_move (.tmp rfl hρ37)) ?_
 refine g_yes (yl (dj:=75) (b:=true) rfl rfl (cVb (by rw [hc93]; rfl))) ?_
 refine st_c cb34 .func (evs2 (.tmp rfl rfl) (.tmp rfl rfl)) (has_spec hs39 p_m.who ((z26:Nat):Int) hk_m.who (by omega)) ?_
 rintro e w94 ⟨rfl,hs95⟩
 refine ⟨_,rfl,?_⟩
 refine g_yes (yl (dj:=75) (b:=true) rfl rfl (cVb (by rw [hc93]; rfl))) ?_
 refine st (v:=.bool (!(has p_m.who ((z26:Nat):Int)))) (x_not (.tmp rfl rfl)) ?_
 refine st (v:=.bool (!(has p_m.who ((z26:Nat):Int)))) (x_pick_t (.tmp rfl (cVb (by rw [hc93]; rfl))) (.tmp rfl rfl)) ?_
 exact jw_end ⟨(cVb (jand_t (by rw [hc93]; rfl))),hρ31,hρ32,hρ33,hρ34,hρ35,hρ36,hρ37,hs95⟩
 rintro ρ w ⟨hρ96,hρ97,hρ98,hρ99,hρ100,hρ101,hρ102,hρ103,hs104⟩
 refine st (v:=.bool ((!p_m.done) && (!(has p_m.who ((z26:Nat):Int))))) (x_assign (.tmp rfl hρ96)) ?_
 refine c_nil (n_then ?_)
 rcases Bool.eq_false_or_eq_true ((!p_m.done) && (!(has p_m.who ((z26:Nat):Int)))) with hc105 | hc105
 have hp105:(¬ (p_m.done = true))∧(¬ ((has p_m.who ((z26:Nat):Int)) = true)):=((J_and (J_not Iff.rfl) (J_not Iff.rfl))).1 hc105
 refine c_cond_t (t:=true) (.tmp rfl (cVb hc105)) rfl ?_
 refine t_region (L:=row 53 16 v_out out.length c_out::row 3 1 v3 ((lst p_m.v.Set).length) ((lst p_m.v.Set).map encI)::obj g_m 78 ((.int .i64 ((m_n:Nat):Int))::(.int .i64 ((m_self:Nat):Int))::(.int .u64 ((m_cur.ID.N:Nat):Int))::(.int .i64 m_cur.ID.P)::(.int .u16 ((m_cur.Set:Nat):Int))::(.int .u64 ((m_prom.N:Nat):Int))::(.int .i64 m_prom.P)::(.int .u64 ((m_high:Nat):Int))::(.pointer (some ⟨gp_m,0,none⟩))::(.slice A_m jn_m jc_m)::oCells m_os)::obj gp_m 81 (clProp p_m sv_m)::row 37 4 sv_m p_m.states.length sc_m::L) (L':=row 53 16 v_out out.length c_out::row 3 1 v3 ((lst p_m.v.Set).length) ((lst p_m.v.Set).map encI)::obj g_m 78 ((.int .i64 ((m_n:Nat):Int))::(.int .i64 ((m_self:Nat):Int))::(.int .u64 ((m_cur.ID.N:Nat):Int))::(.int .i64 m_cur.ID.P)::(.int .u16 ((m_cur.Set:Nat):Int))::(.int .u64 ((m_prom.N:Nat):Int))::(.int .i64 m_prom.P)::(.int .u64 ((m_high:Nat):Int))::(.pointer (some ⟨gp_m,0,none⟩))::(.slice A_m jn_m jc_m)::oCells m_os)::obj gp_m 81 (clProp p_m sv_m)::row 37 4 sv_m p_m.states.length sc_m::L) (Z:=[18,19]) (F:=[0,2,3,4,6,7,8,9,11,12,13,14]) (pl:=(.q 0 (.q 1 (.q 2 (.q 3 (.q 4 (.q 5 (.q 6 (.q 7 (.q 8 (.q 9 (.q 10 (.q 11 (.q 12 (.q 13 (.q 14 (.q 15 (.q 16 (.q 17 (.e 18 (.e 19 (.q 20 .done)))))))))))))))))))))) mixed hs104 (fun u hu => hu) (by kernel_rfl) ?_
 intro w106 hs107
 refine t_fr (k:=0) (v:=v_out) rfl (fun w _ => (x_move (.tmp rfl hρ99))) ?_
 refine t_st (k:=1) (v:=.int .i64 ((z26:Nat):Int)) rfl rfl (fun w hs => (x_move (.tmp rfl hρ103))) ?_
 refine t_fr (k:=2) (v:=.pointer (some ⟨g_m,0,none⟩)) rfl (fun w _ => (x_move (.tmp rfl hρ97))) ?_
 refine t_fr (k:=3) (v:=.pointer (some ⟨g_m,0,none⟩)) rfl (fun w _ => (x_nilCheck (.tmp rfl rfl))) ?_
 refine t_fr (k:=4) (v:=.pointer (some ⟨g_m,0 + 1,none⟩)) rfl (fun w _ => (fa78_1 (.tmp rfl rfl))) ?_
 refine t_st (k:=5) (v:=.int .i64 ((m_self:Nat):Int)) rfl rfl (fun w hs => (ld3 (.tmp rfl rfl) (hs.cell 2 rfl (0 + 1) rfl))) ?_
 refine t_fr (k:=6) (v:=.pointer (some ⟨gp_m,0,none⟩)) rfl (fun w _ => (x_move (.tmp rfl hρ98))) ?_
 refine t_fr (k:=7) (v:=.pointer (some ⟨gp_m,0,none⟩)) rfl (fun w _ => (x_nilCheck (.tmp rfl rfl))) ?_
 refine t_fr (k:=8) (v:=.pointer (some ⟨gp_m,0 + 0,none⟩)) rfl (fun w _ => (fa81_0 (.tmp rfl rfl))) ?_
 refine t_fr (k:=9) (v:=.pointer (some ⟨gp_m,0 + 0 + 0,none⟩)) rfl (fun w _ => (fa39_0 (.tmp rfl rfl))) ?_
 refine t_st (k:=10) (v:=.agg #[.int .u64 ((p_m.v.ID.N:Nat):Int),.int .i64 p_m.v.ID.P]) rfl rfl (fun w hs => (ld34 (cs:=[.int .u64 ((p_m.v.ID.N:Nat):Int),.int .i64 p_m.v.ID.P]) (.tmp rfl rfl) (hs.at_ 3 rfl (0 + 0 + 0) rfl) rfl)) ?_
 refine t_fr (k:=11) (v:=.pointer (some ⟨gp_m,0,none⟩)) rfl (fun w _ => (x_move (.tmp rfl hρ98))) ?_
 refine t_fr (k:=12) (v:=.pointer (some ⟨gp_m,0,none⟩)) rfl (fun w _ => (x_nilCheck (.tmp rfl rfl))) ?_
 refine t_fr (k:=13) (v:=.pointer (some ⟨gp_m,0 + 0,none⟩)) rfl (fun w _ => (fa81_0 (.tmp rfl rfl))) ?_
 refine t_fr (k:=14) (v:=.pointer (some ⟨gp_m,0 + 0 + 2,none⟩)) rfl (fun w _ => (fa39_1 (.tmp rfl rfl))) ?_
 refine t_st (k:=15) (v:=.int .u16 ((p_m.v.Set:Nat):Int)) rfl rfl (fun w hs => (ld31 (.tmp rfl rfl) (hs.cell 3 rfl (0 + 0 + 2) rfl))) ?_
 refine t_st (k:=16) (v:=.agg #[.int .u8 2,.int .i64 ((m_self:Nat):Int),.int .u64 ((p_m.v.ID.N:Nat):Int),.int .i64 p_m.v.ID.P,.int .u16 ((p_m.v.Set:Nat):Int),.int .u64 0,.int .i64 0,.int .u64 0,.int .i64 0,.slice none 0 0,.int .u64 0,.slice none 0 0,.slice none 0 0,.int .u64 0,.int .u64 0]) rfl rfl (fun w hs => (bl51 (ps:=[(0,.int .u8 2),(1,.int .i64 ((m_self:Nat):Int)),(2,.agg #[.int .u64 ((p_m.v.ID.N:Nat):Int),.int .i64 p_m.v.ID.P]),(3,.int .u16 ((p_m.v.Set:Nat):Int))]) (.cons .const (.cons (.tmp rfl rfl) (.cons (.tmp rfl rfl) (.cons (.tmp rfl rfl) Evp.nil)))) rfl)) ?_
 refine t_st (k:=17) (v:=.agg #[.int .i64 ((z26:Nat):Int),.int .u8 2,.int .i64 ((m_self:Nat):Int),.int .u64 ((p_m.v.ID.N:Nat):Int),.int .i64 p_m.v.ID.P,.int .u16 ((p_m.v.Set:Nat):Int),.int .u64 0,.int .i64 0,.int .u64 0,.int .i64 0,.slice none 0 0,.int .u64 0,.slice none 0 0,.slice none 0 0,.int .u64 0,.int .u64 0]) rfl rfl (fun w hs => (bl53 (ps:=[(0,.int .i64 ((z26:Nat):Int)),(1,.agg #[.int .u8 2,.int .i64 ((m_self:Nat):Int),.int .u64 ((p_m.v.ID.N:Nat):Int),.int .i64 p_m.v.ID.P,.int .u16 ((p_m.v.Set:Nat):Int),.int .u64 0,.int .i64 0,.int .u64 0,.int .i64 0,.slice none 0 0,.int .u64 0,.slice none 0 0,.slice none 0 0,.int .u64 0,.int .u64 0])]) (.cons (.tmp rfl rfl) (.cons (.tmp rfl rfl) Evp.nil)) rfl)) ?_
 refine t_eff (k:=18) rfl ?_
 refine st_m (m_lit (n:=1) (ps:=[(0,.agg #[.int .i64 ((z26:Nat):Int),.int .u8 2,.int .i64 ((m_self:Nat):Int),.int .u64 ((p_m.v.ID.N:Nat):Int),.int .i64 p_m.v.ID.P,.int .u16 ((p_m.v.Set:Nat):Int),.int .u64 0,.int .i64 0,.int .u64 0,.int .i64 0,.slice none 0 0,.int .u64 0,.slice none 0 0,.slice none 0 0,.int .u64 0,.int .u64 0])]) (cs:=[.int .i64 ((z26:Nat):Int),.int .u8 2,.int .i64 ((m_self:Nat):Int),.int .u64 ((p_m.v.ID.N:Nat):Int),.int .i64 p_m.v.ID.P,.int .u16 ((p_m.v.Set:Nat):Int),.int .u64 0,.int .i64 0,.int .u64 0,.int .i64 0,.slice none 0 0,.int .u64 0,.slice none 0 0,.slice none 0 0,.int .u64 0,.int .u64 0]) Tryd.underlying27 inf53 (.cons (.tmp rfl rfl) Evp.nil) (by decide) (by decide) rfl rfl hs107) ?_
 rintro _ w109 ⟨g108,rfl,hs111⟩
 refine t_new (S':=fun u => St H u (obj g108 53 [.int .i64 ((z26:Nat):Int),.int .u8 2,.int .i64 ((m_self:Nat):Int),.int .u64 ((p_m.v.ID.N:Nat):Int),.int .i64 p_m.v.ID.P,.int .u16 ((p_m.v.Set:Nat):Int),.int .u64 0,.int .i64 0,.int .u64 0,.int .i64 0,.slice none 0 0,.int .u64 0,.slice none 0 0,.slice none 0 0,.int .u64 0,.int .u64 0]::row 53 16 v_out out.length c_out::row 3 1 v3 ((lst p_m.v.Set).length) ((lst p_m.v.Set).map encI)::obj g_m 78 ((.int .i64 ((m_n:Nat):Int))::(.int .i64 ((m_self:Nat):Int))::(.int .u64 ((m_cur.ID.N:Nat):Int))::(.int .i64 m_cur.ID.P)::(.int .u16 ((m_cur.Set:Nat):Int))::(.int .u64 ((m_prom.N:Nat):Int))::(.int .i64 m_prom.P)::(.int .u64 ((m_high:Nat):Int))::(.pointer (some ⟨gp_m,0,none⟩))::(.slice A_m jn_m jc_m)::oCells m_os)::obj gp_m 81 (clProp p_m sv_m)::row 37 4 sv_m p_m.states.length sc_m::L)) rfl hs111 ?_
 refine t_eff (k:=19) rfl ?_
 have hs112:=hs111.p1
 have hr120:kOut.rep H (GOut.mk ((z26:Nat):Int) (GFrame.mk 2 ((m_self:Nat):Int) p_m.v.ID p_m.v.Set (GViewID.mk 0 0) (GViewID.mk 0 0) [] 0 [] [] 0 0)) [.int .i64 ((z26:Nat):Int),.int .u8 2,.int .i64 ((m_self:Nat):Int),.int .u64 ((p_m.v.ID.N:Nat):Int),.int .i64 p_m.v.ID.P,.int .u16 ((p_m.v.Set:Nat):Int),.int .u64 0,.int .i64 0,.int .u64 0,.int .i64 0,.slice none 0 0,.int .u64 0,.slice none 0 0,.slice none 0 0,.int .u64 0,.int .u64 0]:=⟨none,0,0,none,0,0,none,0,0,rfl,(show IB ((z26:Nat):Int) from ⟨by omega,by omega⟩),(show 2 < 256 from by omega),(show IB ((m_self:Nat):Int) from ⟨by omega,by omega⟩),hk_m.id.n,hk_m.id.p,hk_m.set,(show 0 < 18446744073709551616 from by omega),(show IB 0 from ⟨by omega,by omega⟩),(show 0 < 18446744073709551616 from by omega),(show IB 0 from ⟨by omega,by omega⟩),(Sl.nil _ _ none),(show 0 < 18446744073709551616 from by omega),(Sl.nil _ _ none),(Sl.nil _ _ none),(show 0 < 18446744073709551616 from by omega),(show 0 < 18446744073709551616 from by omega)⟩
 refine st_m (m_appK (d:=kOut) (ys:=[(GOut.mk ((z26:Nat):Int) (GFrame.mk 2 ((m_self:Nat):Int) p_m.v.ID p_m.v.Set (GViewID.mk 0 0) (GViewID.mk 0 0) [] 0 [] [] 0 0))]) (news:=[.int .i64 ((z26:Nat):Int),.int .u8 2,.int .i64 ((m_self:Nat):Int),.int .u64 ((p_m.v.ID.N:Nat):Int),.int .i64 p_m.v.ID.P,.int .u16 ((p_m.v.Set:Nat):Int),.int .u64 0,.int .i64 0,.int .u64 0,.int .i64 0,.slice none 0 0,.int .u64 0,.slice none 0 0,.slice none 0 0,.int .u64 0,.int .u64 0]) Tryd.underlying27 inf53 rfl hs112 ok_out hk_out (.tmp rfl rfl) (.tmp rfl rfl) (Kn.rows_one hr120) rfl (hs112.at_ 1 rfl 0 rfl) (by have:([(GOut.mk ((z26:Nat):Int) (GFrame.mk 2 ((m_self:Nat):Int) p_m.v.ID p_m.v.Set (GViewID.mk 0 0) (GViewID.mk 0 0) [] 0 [] [] 0 0))]:List GOut).length = 1:=rfl; omega) (by decide)) ?_
 rintro v113 w114 ⟨cs115,ok116,hk117,hs118⟩
 have hn119:(out ++ [(GOut.mk ((z26:Nat):Int) (GFrame.mk 2 ((m_self:Nat):Int) p_m.v.ID p_m.v.Set (GViewID.mk 0 0) (GViewID.mk 0 0) [] 0 [] [] 0 0))]).length = out.length + 1:=by simp
 refine t_new (S':=fun u => St H u (row 53 16 v113 ((out ++ [(GOut.mk ((z26:Nat):Int) (GFrame.mk 2 ((m_self:Nat):Int) p_m.v.ID p_m.v.Set (GViewID.mk 0 0) (GViewID.mk 0 0) [] 0 [] [] 0 0))]).length) cs115::obj g108 53 [.int .i64 ((z26:Nat):Int),.int .u8 2,.int .i64 ((m_self:Nat):Int),.int .u64 ((p_m.v.ID.N:Nat):Int),.int .i64 p_m.v.ID.P,.int .u16 ((p_m.v.Set:Nat):Int),.int .u64 0,.int .i64 0,.int .u64 0,.int .i64 0,.slice none 0 0,.int .u64 0,.slice none 0 0,.slice none 0 0,.int .u64 0,.int .u64 0]::row 3 1 v3 ((lst p_m.v.Set).length) ((lst p_m.v.Set).map encI)::obj g_m 78 ((.int .i64 ((m_n:Nat):Int))::(.int .i64 ((m_self:Nat):Int))::(.int .u64 ((m_cur.ID.N:Nat):Int))::(.int .i64 m_cur.ID.P)::(.int .u16 ((m_cur.Set:Nat):Int))::(.int .u64 ((m_prom.N:Nat):Int))::(.int .i64 m_prom.P)::(.int .u64 ((m_high:Nat):Int))::(.pointer (some ⟨gp_m,0,none⟩))::(.slice A_m jn_m jc_m)::oCells m_os)::obj gp_m 81 (clProp p_m sv_m)::row 37 4 sv_m p_m.states.length sc_m::L)) rfl hs118 ?_
 refine t_st (k:=20) (v:=v113) rfl rfl (fun w hs => (x_assign (.tmp rfl rfl))) ?_
 refine t_nil ?_
 refine n_block (n_block (n_then (c_region (st (v:=.int .i64 (((i + 1):Nat):Int)) (x_add (k:=.i64) (a:=((i:Nat):Int)) (b:=1) (.tmp rfl hρ102) .const ((w64 (by omega) (by omega)).trans (by omega))) ?_))))
 refine st (v:=.int .i64 (((i + 1):Nat):Int)) (x_move (.tmp rfl rfl)) ?_
 refine c_nil ?_
 refine n_then ⟨_,_,rfl,?_,(out ++ [(GOut.mk ((z26:Nat):Int) (GFrame.mk 2 ((m_self:Nat):Int) p_m.v.ID p_m.v.Set (GViewID.mk 0 0) (GViewID.mk 0 0) [] 0 [] [] 0 0))]),v113,cs115,(i + 1),hρ97,hρ98,rfl,hρ100,hρ101,rfl,ok116,hk117,(by omega),(flat_next hz27 hout (ag_propose hc28 hc105)),(by have h9:=hol; simp only [List.length_append,List.length_singleton]; omega),((((((hs118.p1).drop.p4).p4).p4).p4).p4),rfl⟩
 omega
 have hp105:¬ ((¬ (p_m.done = true))∧(¬ ((has p_m.who ((z26:Nat):Int)) = true))):=J_no (J_and (J_not Iff.rfl) (J_not Iff.rfl)) hc105
 refine c_cond_f (t:=false) (.tmp rfl (cVb hc105)) rfl ?_
 refine c_skip (n_block (n_block (n_then (c_region (st (v:=.int .i64 (((i + 1):Nat):Int)) (x_add (k:=.i64) (a:=((i:Nat):Int)) (b:=1) (.tmp rfl hρ102) .const ((w64 (by omega) (by omega)).trans (by omega))) ?_)))))
 refine st (v:=.int .i64 (((i + 1):Nat):Int)) (x_move (.tmp rfl rfl)) ?_
 refine c_nil ?_
 refine n_then ⟨_,_,rfl,?_,out,v_out,c_out,(i + 1),hρ97,hρ98,hρ99,hρ100,hρ101,rfl,ok_out,hk_out,(by omega),(flat_next0 hz27 hout (ag_none hc28 hc40 hc105)),(by omega),(((((hs104.p4).p4).p4).p4).p4),rfl⟩
 omega
 have hp22:¬ ((((i:Nat):Int):Int) < (((lst p_m.v.Set).length:Nat):Int)):=of_decide_eq_false hc22
 refine c_cond_f (t:=false) (.tmp rfl (cVb hc22)) rfl ?_
 refine c_exit (x_then (x_then (x_here (n_then (c_seq (c_region (st (v:=v_out) (x_move (.tmp rfl hρ17)) ?_)))))))
 refine st (v:=v_out) (x_assign (.tmp rfl rfl)) ?_
 refine c_nil (n_then (c_ret (leave_ret (res_one (v:=v_out) rfl (.mk rfl rfl)) ?_)))
 have hans:MB.again (MB.mk m_n m_self m_cur m_prom m_high (some p_m) m_jl m_os) = out:=again_yes hc2 (by rw [hout,List.take_of_length_le (by omega)])
 rw [hans]
 exact ⟨v_out,c_out,rfl,ok_out,hk_out,(((((hs21.p1).drop.p3).p3).p3).p3)⟩
 have hp2:¬ (m_prom = p_m.v.ID):=of_decide_eq_false hc2
 refine c_cond_t (t:=true) (.tmp rfl (cVb (by rw [hc2]; rfl))) rfl ?_
 refine c_seq (c_region (st (v:=.slice none 0 0) (x_assign .const) ?_))
 refine c_nil (n_then (c_ret (r_then (leave_ret (res_one (v:=.slice none 0 0) rfl (.mk rfl rfl)) ?_))))
 have hans:MB.again (MB.mk m_n m_self m_cur m_prom m_high (some p_m) m_jl m_os) = []:=again_ne hc2
 rw [hans]
 have hs121:=hs1.krowNil 53 kOut
 exact ⟨(.slice none 0 0),[],rfl,(RowOk.knil kOut),(Kn.rows_nil _ _),((((hs121.p3).p3).p3).p3)⟩
end Go.Proofs.YtcccaihjgoaehaaDoor
