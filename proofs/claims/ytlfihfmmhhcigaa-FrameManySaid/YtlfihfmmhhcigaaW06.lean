/- Steps of the proofs over the functions of this seat, printed by a program (gen.py) and checked by Lean. -/
import Derived.Test.YtlfihfmmhhcigaaW01
import Derived.Test.YtlfihfmmhhcigaaW00
import Derived.Test.YtlfihfmmhhcigaaW05
set_option linter.unusedVariables false
set_option linter.unusedSimpArgs false
namespace Go.Proofs.Ytlfihfmmhhcigaa
open Go Go.FM Go.Proofs
attribute [local irreducible] wpList wpQuiet wpS Code.wp Calls
set_option maxHeartbeats 8000000 in
theorem statesdec_spec {H:Hp} {w:World} {L:List Res} {g_r:Nat} {A_r:Option Addr} {n_r c_r:Nat} {r:List Nat} {b_r:Bool} (hs:St H w (obj g_r 98 [.slice A_r n_r c_r,.bool b_r]::L)) (hp_r:Bs H A_r n_r c_r r) (hn_r:n_r ≤ 140737488355320):Calls Try.prog 35 #[.pointer (some ⟨g_r,0,none⟩)] w (fun e w' => ∃ (H':Hp) (A0:Option Addr) (n0 c0:Nat) (q_r:(List GState × Bool) × List Nat × Bool) (A_r':Option Addr) (n_r' c_r':Nat),H.le H'∧e = .returned (.tuple #[.slice A0 n0 c0,.bool q_r.1.2])∧Sl kState H' A0 n0 c0 (q_r.1.1)∧q_r = statesC r b_r∧Bs H' A_r' n_r' c_r' q_r.2.1∧n_r' ≤ n_r∧St H' w' (obj g_r 98 [.slice A_r' n_r' c_r',.bool q_r.2.2]::L)):=by
 have:=hp_r.len
 refine enter (args:=[.pointer (some ⟨g_r,0,none⟩)]) (N:=43) Try.func35 rfl rfl rfl ?_
 refine c_seq (c_region (st (v:=.slice none 0 0) (x_assign .const) ?_))
 refine st (v:=.bool false) (x_assign .const) ?_
 refine c_nil (n_then (c_seq (c_region (st (v:=.slice none 0 0) (x_assign .const) ?_))))
 refine c_nil (n_then (c_seq (c_seq (c_region (st (v:=.pointer (some ⟨g_r,0,none⟩)) (x_move (.tmp rfl rfl)) ?_)))))
 refine st_c cb33 .func (evs2 (.tmp rfl rfl) .const) (int_q hp_r b_r 4096 (by omega) (by omega) hs) ?_
 rintro e w5 ⟨q1,A2,n3,c4,hq6,hb7,hn8,rfl,hp9,hs10⟩
 refine ⟨_,rfl,?_⟩
 refine st (v:=.int .i64 ((q1.1:Nat):Int)) (x_assign (.tmp rfl rfl)) ?_
 refine c_nil (n_then (c_block ?_))
 have hs13:St H _ (row 52 4 (.slice none 0 0) (([]:List GState).length) []::obj g_r 98 [.slice A2 n3 c4,.bool q1.2.2]::L):=hs10.krowNil 52 kState
 have:([]:List GState).length = 0:=rfl
 refine c_loop (fun ρ w mm => ∃ (H11:Hp) (k:Int) (l:List GState) (v_l:Value) (c_l:List Value) (A2:Option Addr) (n2:Nat) (c2:Nat) (cur:List Nat) (bad:Bool),ρ 0 = .pointer (some ⟨g_r,0,none⟩)∧ρ 4 = v_l∧ρ 5 = .int .i64 k∧(H.le H11)∧(RowOk kState.sz v_l l.length c_l)∧(kState.toKn.rows H11 l c_l)∧(Bs H11 A2 n2 c2 cur)∧(n2 ≤ n_r)∧(0 ≤ k)∧(k ≤ 4096)∧((l.length:Int) + k ≤ 4096)∧(StInv r b_r l k cur bad)∧St H11 w (row 52 4 v_l l.length c_l::obj g_r 98 [.slice A2 n2 c2,.bool bad]::L)∧mm = k.toNat) _ ⟨H,((q1.1:Nat):Int),([]:List GState),(.slice none 0 0),[],A2,n3,c4,q1.2.1,q1.2.2,rfl,rfl,rfl,(Hp.le.refl _),(RowOk.knil kState),(Kn.rows_nil _ _),hp9,(by omega),(by omega),(by omega),(by omega),(st_start hq6),((hs13.p1).p1),rfl⟩ ?_
 rintro ρ w mm ⟨H11,k,l,v_l,c_l,A2,n2,c2,cur,bad,hρ15,hρ16,hρ17,hg12,ok_l,hk_l,hp2,hn2,hk,hk2,hl,inv,hs18,rfl⟩
 refine c_seq (c_seq (c_region (st (v:=.int .i64 k) (x_move (.tmp rfl hρ17)) ?_)))
 refine st (v:=.bool (decide ((0:Int) < k))) (x_gtr (k:=.i64) (a:=k) (b:=0) (.tmp rfl rfl) .const) ?_
 refine st (v:=.bool (decide ((0:Int) < k))) (x_move (.tmp rfl rfl)) ?_
 rcases Bool.eq_false_or_eq_true (decide ((0:Int) < k)) with hc19 | hc19
 have hp19:(0:Int) < k:=of_decide_eq_true hc19
 refine g_yes (yk 13 true rfl rfl hc19) ?_
 refine st (v:=.pointer (some ⟨g_r,0,none⟩)) (x_move (.tmp rfl hρ15)) ?_
 refine g_yes (yk 13 true rfl rfl hc19) ?_
 have hs20:=hs18.p1
 refine st_c cb37 .func (evs1 (.tmp rfl rfl)) (bad_own hs20) ?_
 rintro e w21 ⟨rfl,hs22⟩
 refine ⟨_,rfl,?_⟩
 refine g_yes (yk 13 true rfl rfl hc19) ?_
 refine st (v:=.bool (!bad)) (x_not (.tmp rfl rfl)) ?_
 refine st (v:=.bool (!bad)) (x_pick_t (.tmp rfl (congrArg Value.bool hc19)) (.tmp rfl rfl)) ?_
 refine c_nil (n_then ?_)
 rcases Bool.eq_false_or_eq_true bad with hc23 | hc23
 refine c_cond_f (t:=false) (.tmp rfl (congrArg Value.bool (by rw [hc23]; rfl))) rfl ?_
 refine c_exit (x_then (x_then (x_here (n_then (c_seq (c_region (st (v:=v_l) (x_move (.tmp rfl hρ16)) ?_)))))))
 refine st (v:=v_l) (x_assign (.tmp rfl rfl)) ?_
 refine st (v:=.bool true) (x_assign .const) ?_
 refine c_nil (n_then (c_ret (leave_ret (res_two (v:=v_l) (u:=.bool true) rfl (.mk rfl rfl) (.mk rfl rfl)) ?_)))
 have hs24:=hs22.p1
 have:l.length * 48 ≤ 140737488351232:=by omega
 obtain ⟨H25,A26,c27,hle28,hs29,rfl,sp30⟩:=hs24.freezeSl (d:=kState) ok_l hk_l this
 have:=sp30.len; have:=sp30.le
 exact ⟨H25,A26,l.length,c27,((l,true),cur,bad),A2,n2,c2,(hg12.trans hle28),rfl,sp30,(st_done inv (.inr hc23)),(hp2.mono hle28),(by omega),hs29⟩
 refine c_cond_t (t:=true) (.tmp rfl (congrArg Value.bool (by rw [hc23]; rfl))) rfl ?_
 refine c_skip (n_then (c_seq (c_block (c_seq (c_region (st (v:=.pointer (some ⟨g_r,0,none⟩)) (x_move (.tmp rfl hρ15)) ?_))))))
 refine st_c cb34 .func (evs1 (.tmp rfl rfl)) (vdec_spec hs22 hp2 (by omega) ) ?_
 rintro e w32 ⟨cs34,q31,A36,n37,c38,rfl,hr35,hq39,hp40,hn41,hs33⟩
 obtain ⟨rfl,b42,⟨b43,b44⟩⟩:=hr35
 refine ⟨_,rfl,?_⟩
 refine st (v:=.tuple #[.agg #[.int .u64 ((q31.1.1.N:Nat):Int),.int .i64 q31.1.1.P],.bool q31.1.2]) (x_move (.tmp rfl rfl)) ?_
 refine st (v:=.agg #[.int .u64 ((q31.1.1.N:Nat):Int),.int .i64 q31.1.1.P]) (x_extract (.tmp rfl rfl) (i:=0) rfl) ?_
 refine st (v:=.bool q31.1.2) (x_extract (.tmp rfl rfl) (i:=1) rfl) ?_
 refine st_m (al24 (cs:=[.int .u64 0,.int .i64 0]) hs33 rfl) ?_
 rintro _ w46 ⟨g45,rfl,hs48⟩
 refine st_m0 (sto24 (cs':=[.int .u64 ((q31.1.1.N:Nat):Int),.int .i64 q31.1.1.P]) (i:=0) hs48 (v:=.agg #[.int .u64 ((q31.1.1.N:Nat):Int),.int .i64 q31.1.1.P]) (.tmp rfl rfl) (.tmp rfl rfl) rfl (Nat.le_of_ble_eq_true rfl) (oneA rfl) rfl) ?_
 rintro w49 hs51
 refine st (v:=.bool q31.1.2) (x_assign (.tmp rfl rfl)) ?_
 refine c_nil (n_then (c_seq (t_region (L:=obj g45 24 [.int .u64 ((q31.1.1.N:Nat):Int),.int .i64 q31.1.1.P]::obj g_r 98 [.slice A36 n37 c38,.bool q31.2.2]::row 52 4 v_l l.length c_l::L) (L':=obj g45 24 [.int .u64 ((q31.1.1.N:Nat):Int),.int .i64 q31.1.1.P]::row 52 4 v_l l.length c_l::L) (Z:=[7]) (F:=[]) (pl:=(.q 0 (.q 1 (.q 3 (.two 2 (.two 4 (.q 5 (.e 6 (.e 7 .done))) 6 (.e 4 (.q 5 (.e 7 .done)))) 6 (.e 2 (.e 4 (.q 5 (.e 7 .done))))))))) mixed hs51 (fun u hu => (hu.p1).drop) (by kernel_rfl) ?_)))
 intro w52 hs53
 refine t_st (k:=0) (v:=.agg #[.int .u64 ((q31.1.1.N:Nat):Int),.int .i64 q31.1.1.P]) rfl rfl (fun w hs => (ld24 (cs:=[.int .u64 ((q31.1.1.N:Nat):Int),.int .i64 q31.1.1.P]) (.tmp rfl rfl) (hs.at_ 0 rfl (0) rfl) rfl)) ?_
 refine t_st (k:=1) (v:=.pointer (some ⟨g_r,0,none⟩)) rfl rfl (fun w hs => (x_move (.tmp rfl hρ15))) ?_
 refine t_st (k:=3) (v:=.pointer (some ⟨g_r,0,none⟩)) rfl rfl (fun w hs => (x_move (.tmp rfl hρ15))) ?_
 refine t_two ?_ ?_
 refine t_eff (k:=2) rfl ?_
 have hs54:=hs53.p1
 refine st_c cb33 .func (evs2 (.tmp rfl rfl) .const) (int_q hp40 q31.2.2 1073741824 (by omega) (by omega) hs54) ?_
 rintro e w59 ⟨q55,A56,n57,c58,hq60,hb61,hn62,rfl,hp63,hs64⟩
 refine ⟨_,rfl,?_⟩
 refine t_on (S':=fun u => St H11 u (obj g45 24 [.int .u64 ((q31.1.1.N:Nat):Int),.int .i64 q31.1.1.P]::row 52 4 v_l l.length c_l::L)) (fun u hu => hu) hs64.drop ?_
 refine t_two ?_ ?_
 refine t_eff (k:=4) rfl ?_
 refine st_c cb39 .func (evs1 (.tmp rfl rfl)) (itemsdec_spec hs64 hp63 (by omega) ) ?_
 rintro e w66 ⟨H68,A70,n71,c72,q65,A74,n75,c76,hle69,rfl,sp73,hq77,hp78,hn79,hs67⟩
 have:=sp73.len; have:=sp73.le; have:n71 * 32 ≤ 140737488351232:=sp73.bnd
 refine ⟨_,rfl,?_⟩
 refine t_on (S':=fun u => St H68 u (obj g45 24 [.int .u64 ((q31.1.1.N:Nat):Int),.int .i64 q31.1.1.P]::row 52 4 v_l l.length c_l::L)) (fun u hu => hu.weaken hle69) hs67.drop ?_
 refine t_st (k:=5) (v:=.agg #[.int .u64 ((q31.1.1.N:Nat):Int),.int .i64 q31.1.1.P,.int .i64 ((q55.1:Nat):Int),.slice A70 n71 c72]) rfl rfl (fun w hs => (bl52 (ps:=[(0,.agg #[.int .u64 ((q31.1.1.N:Nat):Int),.int .i64 q31.1.1.P]),(1,.int .i64 ((q55.1:Nat):Int)),(2,.slice A70 n71 c72)]) (.cons (.tmp rfl rfl) (.cons (.tmp rfl rfl) (.cons (.tmp rfl rfl) Evp.nil))) rfl)) ?_
 refine t_eff (k:=6) rfl ?_
 refine st_m (al52 (cs:=[.int .u64 0,.int .i64 0,.int .i64 0,.slice none 0 0]) hs67 rfl) ?_
 rintro _ w81 ⟨g80,rfl,hs83⟩
 refine t_on (S':=fun u => St H68 u (obj g80 52 [.int .u64 0,.int .i64 0,.int .i64 0,.slice none 0 0]::obj g45 24 [.int .u64 ((q31.1.1.N:Nat):Int),.int .i64 q31.1.1.P]::row 52 4 v_l l.length c_l::L)) (fun u hu => hu.drop) (hs83.p1).drop ?_
 refine t_eff (k:=7) rfl ?_
 refine st_m0 (sto52 (cs':=[.int .u64 ((q31.1.1.N:Nat):Int),.int .i64 q31.1.1.P,.int .i64 ((q55.1:Nat):Int),.slice A70 n71 c72]) (i:=0) hs83 (v:=.agg #[.int .u64 ((q31.1.1.N:Nat):Int),.int .i64 q31.1.1.P,.int .i64 ((q55.1:Nat):Int),.slice A70 n71 c72]) (.tmp rfl rfl) (.tmp rfl rfl) rfl (Nat.le_of_ble_eq_true rfl) (oneA rfl) rfl) ?_
 rintro w84 hs86
 refine t_new (S':=fun u => St H68 u (obj g80 52 [.int .u64 ((q31.1.1.N:Nat):Int),.int .i64 q31.1.1.P,.int .i64 ((q55.1:Nat):Int),.slice A70 n71 c72]::obj g_r 98 [.slice A74 n75 c76,.bool q65.2.2]::obj g45 24 [.int .u64 ((q31.1.1.N:Nat):Int),.int .i64 q31.1.1.P]::row 52 4 v_l l.length c_l::L)) rfl hs86 ?_
 refine t_nil ?_
 refine n_then (c_seq (c_seq (c_region (st (v:=.bool q31.1.2) (x_move (.tmp rfl rfl)) ?_))))
 refine st (v:=.bool (!q31.1.2)) (x_not (.tmp rfl rfl)) ?_
 refine st (v:=.bool (!q31.1.2)) (x_move (.tmp rfl rfl)) ?_
 rcases Bool.eq_false_or_eq_true q31.1.2 with hc87 | hc87
 refine g_yes (yl (dj:=33) (b:=false) rfl rfl (congrArg Value.bool (by rw [hc87]; rfl))) ?_
 refine st (v:=.agg #[.int .u64 ((q31.1.1.N:Nat):Int),.int .i64 q31.1.1.P,.int .i64 ((q55.1:Nat):Int),.slice A70 n71 c72]) (ld52 (cs:=[.int .u64 ((q31.1.1.N:Nat):Int),.int .i64 q31.1.1.P,.int .i64 ((q55.1:Nat):Int),.slice A70 n71 c72]) (.tmp rfl rfl) (hs86.at_ 0 rfl (0) rfl) rfl) ?_
 refine g_yes (yl (dj:=33) (b:=false) rfl rfl (congrArg Value.bool (by rw [hc87]; rfl))) ?_
 have hr88:kState.rep H68 (GState.mk q31.1.1 ((q55.1:Nat):Int) q65.1) [.int .u64 ((q31.1.1.N:Nat):Int),.int .i64 q31.1.1.P,.int .i64 ((q55.1:Nat):Int),.slice A70 n71 c72]:=⟨A70,n71,c72,rfl,b42,⟨b43,b44⟩,(show IB ((q55.1:Nat):Int) from ⟨by omega,by omega⟩),sp73⟩
 refine st_c cb57 .func (evs1 (.tmp rfl rfl)) (cform_spec hs86 (GState.mk q31.1.1 ((q55.1:Nat):Int) q65.1) hr88 ) ?_
 rintro e w89 ⟨rfl,hs90⟩
 refine ⟨_,rfl,?_⟩
 refine g_yes (yl (dj:=33) (b:=false) rfl rfl (congrArg Value.bool (by rw [hc87]; rfl))) ?_
 refine st (v:=.bool (!(sForm (GState.mk q31.1.1 ((q55.1:Nat):Int) q65.1)))) (x_not (.tmp rfl rfl)) ?_
 refine st (v:=.bool (!(sForm (GState.mk q31.1.1 ((q55.1:Nat):Int) q65.1)))) (x_pick_f (.tmp rfl (congrArg Value.bool (by rw [hc87]; rfl))) (.tmp rfl rfl)) ?_
 refine c_nil (n_then ?_)
 rcases Bool.eq_false_or_eq_true (sForm (GState.mk q31.1.1 ((q55.1:Nat):Int) q65.1)) with hc91 | hc91
 refine c_cond_f (t:=false) (.tmp rfl (congrArg Value.bool (by rw [hc91]; rfl))) rfl ?_
 refine c_skip (n_then (c_region (st (v:=v_l) (x_move (.tmp rfl hρ16)) ?_)))
 refine st (v:=.agg #[.int .u64 ((q31.1.1.N:Nat):Int),.int .i64 q31.1.1.P,.int .i64 ((q55.1:Nat):Int),.slice A70 n71 c72]) (ld52 (cs:=[.int .u64 ((q31.1.1.N:Nat):Int),.int .i64 q31.1.1.P,.int .i64 ((q55.1:Nat):Int),.slice A70 n71 c72]) (.tmp rfl rfl) (hs90.at_ 0 rfl (0) rfl) rfl) ?_
 refine st_m (m_lit (n:=1) (ps:=[(0,.agg #[.int .u64 ((q31.1.1.N:Nat):Int),.int .i64 q31.1.1.P,.int .i64 ((q55.1:Nat):Int),.slice A70 n71 c72])]) (cs:=[.int .u64 ((q31.1.1.N:Nat):Int),.int .i64 q31.1.1.P,.int .i64 ((q55.1:Nat):Int),.slice A70 n71 c72]) Try.underlying26 inf52 (.cons (.tmp rfl rfl) Evp.nil) (by decide) (by decide) rfl rfl hs90) ?_
 rintro _ w93 ⟨g92,rfl,hs95⟩
 have hs96:=hs95.p4
 have hr104:kState.rep H68 (GState.mk q31.1.1 ((q55.1:Nat):Int) q65.1) [.int .u64 ((q31.1.1.N:Nat):Int),.int .i64 q31.1.1.P,.int .i64 ((q55.1:Nat):Int),.slice A70 n71 c72]:=⟨A70,n71,c72,rfl,b42,⟨b43,b44⟩,(show IB ((q55.1:Nat):Int) from ⟨by omega,by omega⟩),sp73⟩
 refine st_m (m_appK (d:=kState) (ys:=[(GState.mk q31.1.1 ((q55.1:Nat):Int) q65.1)]) (news:=[.int .u64 ((q31.1.1.N:Nat):Int),.int .i64 q31.1.1.P,.int .i64 ((q55.1:Nat):Int),.slice A70 n71 c72]) Try.underlying26 inf52 rfl hs96 ok_l (Kn.rows_mono hk_l hle69) (.tmp rfl rfl) (.tmp rfl rfl) (Kn.rows_one hr104) rfl (hs96.at_ 1 rfl 0 rfl) (by have:([(GState.mk q31.1.1 ((q55.1:Nat):Int) q65.1)]:List GState).length = 1:=rfl; omega) (by decide)) ?_
 rintro v97 w98 ⟨cs99,ok100,hk101,hs102⟩
 have hn103:(l ++ [(GState.mk q31.1.1 ((q55.1:Nat):Int) q65.1)]).length = l.length + 1:=by simp
 refine st (v:=v97) (x_assign (.tmp rfl rfl)) ?_
 refine c_nil (n_block (n_then (c_region (st (v:=.int .i64 k) (x_move (.tmp rfl hρ17)) ?_))))
 refine st (v:=.int .i64 (k - 1)) (x_sub (k:=.i64) (a:=k) (b:=1) (.tmp rfl rfl) .const (w64 (by omega) (by omega))) ?_
 refine st (v:=.int .i64 (k - 1)) (x_assign (.tmp rfl rfl)) ?_
 refine c_nil ?_
 refine n_then ⟨_,_,rfl,?_,H68,(k - 1),(l ++ [(GState.mk q31.1.1 ((q55.1:Nat):Int) q65.1)]),v97,cs99,A74,n75,c76,q65.2.1,q65.2.2,hρ15,rfl,rfl,(hg12.trans hle69),ok100,hk101,hp78,(by omega),(by omega),(by omega),(by omega),(st_step inv (by omega) hc23 hq39 hq60 hq77 hc87 hc91),(((((hs102.p1).drop.p1).drop.p2).drop.p1).p1),rfl⟩
 omega
 refine c_cond_t (t:=true) (.tmp rfl (congrArg Value.bool (by rw [hc91]; rfl))) rfl ?_
 refine c_seq (c_region (st (v:=.slice none 0 0) (x_assign .const) ?_))
 refine st (v:=.bool false) (x_assign .const) ?_
 refine c_nil (n_then (c_ret (r_then (r_block (r_then (r_then (r_block (r_then (leave_ret (res_two (v:=.slice none 0 0) (u:=.bool false) rfl (.mk rfl rfl) (.mk rfl rfl)) ?_)))))))))
 exact ⟨H68,none,0,0,(([],false),q65.2),A74,n75,c76,(hg12.trans hle69),rfl,(Sl.nil _ _ none),(st_no inv (by omega) hc23 hq39 hq60 hq77 (.inr hc91)),hp78,(by omega),((hs90.drop.p1).drop.p1).drop⟩
 refine g_no (yl (dj:=33) (b:=true) rfl rfl (congrArg Value.bool (by rw [hc87]; rfl))) rfl ?_
 refine g_no (yl (dj:=33) (b:=true) rfl rfl (congrArg Value.bool (by rw [hc87]; rfl))) rfl ?_
 refine g_no (yl (dj:=33) (b:=true) rfl rfl (congrArg Value.bool (by rw [hc87]; rfl))) rfl ?_
 refine st (v:=.bool true) (x_pick_t (.tmp rfl (congrArg Value.bool (by rw [hc87]; rfl))) .const) ?_
 refine c_nil (n_then (c_cond_t (t:=true) (.tmp rfl rfl) rfl ?_))
 refine c_seq (c_region (st (v:=.slice none 0 0) (x_assign .const) ?_))
 refine st (v:=.bool false) (x_assign .const) ?_
 refine c_nil (n_then (c_ret (r_then (r_block (r_then (r_then (r_block (r_then (leave_ret (res_two (v:=.slice none 0 0) (u:=.bool false) rfl (.mk rfl rfl) (.mk rfl rfl)) ?_)))))))))
 exact ⟨H68,none,0,0,(([],false),q65.2),A74,n75,c76,(hg12.trans hle69),rfl,(Sl.nil _ _ none),(st_no inv (by omega) hc23 hq39 hq60 hq77 (.inl hc87)),hp78,(by omega),((hs86.drop.p1).drop.p1).drop⟩
 refine t_eff (k:=6) rfl ?_
 refine st_m (al52 (cs:=[.int .u64 0,.int .i64 0,.int .i64 0,.slice none 0 0]) hs64 rfl) ?_
 rintro _ w106 ⟨g105,rfl,hs108⟩
 refine t_on (S':=fun u => St H11 u (obj g105 52 [.int .u64 0,.int .i64 0,.int .i64 0,.slice none 0 0]::obj g45 24 [.int .u64 ((q31.1.1.N:Nat):Int),.int .i64 q31.1.1.P]::row 52 4 v_l l.length c_l::L)) (fun u hu => hu.drop) (hs108.p1).drop ?_
 refine t_eff (k:=4) rfl ?_
 have hs109:=hs108.p1
 refine st_c cb39 .func (evs1 (.tmp rfl rfl)) (itemsdec_spec hs109 hp63 (by omega) ) ?_
 rintro e w111 ⟨H113,A115,n116,c117,q110,A119,n120,c121,hle114,rfl,sp118,hq122,hp123,hn124,hs112⟩
 have:=sp118.len; have:=sp118.le; have:n116 * 32 ≤ 140737488351232:=sp118.bnd
 refine ⟨_,rfl,?_⟩
 refine t_on (S':=fun u => St H113 u (obj g105 52 [.int .u64 0,.int .i64 0,.int .i64 0,.slice none 0 0]::obj g45 24 [.int .u64 ((q31.1.1.N:Nat):Int),.int .i64 q31.1.1.P]::row 52 4 v_l l.length c_l::L)) (fun u hu => hu.weaken hle114) hs112.drop ?_
 refine t_st (k:=5) (v:=.agg #[.int .u64 ((q31.1.1.N:Nat):Int),.int .i64 q31.1.1.P,.int .i64 ((q55.1:Nat):Int),.slice A115 n116 c117]) rfl rfl (fun w hs => (bl52 (ps:=[(0,.agg #[.int .u64 ((q31.1.1.N:Nat):Int),.int .i64 q31.1.1.P]),(1,.int .i64 ((q55.1:Nat):Int)),(2,.slice A115 n116 c117)]) (.cons (.tmp rfl rfl) (.cons (.tmp rfl rfl) (.cons (.tmp rfl rfl) Evp.nil))) rfl)) ?_
 refine t_eff (k:=7) rfl ?_
 have hs125:=hs112.p1
 refine st_m0 (sto52 (cs':=[.int .u64 ((q31.1.1.N:Nat):Int),.int .i64 q31.1.1.P,.int .i64 ((q55.1:Nat):Int),.slice A115 n116 c117]) (i:=0) hs125 (v:=.agg #[.int .u64 ((q31.1.1.N:Nat):Int),.int .i64 q31.1.1.P,.int .i64 ((q55.1:Nat):Int),.slice A115 n116 c117]) (.tmp rfl rfl) (.tmp rfl rfl) rfl (Nat.le_of_ble_eq_true rfl) (oneA rfl) rfl) ?_
 rintro w126 hs128
 refine t_new (S':=fun u => St H113 u (obj g105 52 [.int .u64 ((q31.1.1.N:Nat):Int),.int .i64 q31.1.1.P,.int .i64 ((q55.1:Nat):Int),.slice A115 n116 c117]::obj g_r 98 [.slice A119 n120 c121,.bool q110.2.2]::obj g45 24 [.int .u64 ((q31.1.1.N:Nat):Int),.int .i64 q31.1.1.P]::row 52 4 v_l l.length c_l::L)) rfl hs128 ?_
 refine t_nil ?_
 refine n_then (c_seq (c_seq (c_region (st (v:=.bool q31.1.2) (x_move (.tmp rfl rfl)) ?_))))
 refine st (v:=.bool (!q31.1.2)) (x_not (.tmp rfl rfl)) ?_
 refine st (v:=.bool (!q31.1.2)) (x_move (.tmp rfl rfl)) ?_
 rcases Bool.eq_false_or_eq_true q31.1.2 with hc129 | hc129
 refine g_yes (yl (dj:=33) (b:=false) rfl rfl (congrArg Value.bool (by rw [hc129]; rfl))) ?_
 refine st (v:=.agg #[.int .u64 ((q31.1.1.N:Nat):Int),.int .i64 q31.1.1.P,.int .i64 ((q55.1:Nat):Int),.slice A115 n116 c117]) (ld52 (cs:=[.int .u64 ((q31.1.1.N:Nat):Int),.int .i64 q31.1.1.P,.int .i64 ((q55.1:Nat):Int),.slice A115 n116 c117]) (.tmp rfl rfl) (hs128.at_ 0 rfl (0) rfl) rfl) ?_
 refine g_yes (yl (dj:=33) (b:=false) rfl rfl (congrArg Value.bool (by rw [hc129]; rfl))) ?_
 have hr130:kState.rep H113 (GState.mk q31.1.1 ((q55.1:Nat):Int) q110.1) [.int .u64 ((q31.1.1.N:Nat):Int),.int .i64 q31.1.1.P,.int .i64 ((q55.1:Nat):Int),.slice A115 n116 c117]:=⟨A115,n116,c117,rfl,b42,⟨b43,b44⟩,(show IB ((q55.1:Nat):Int) from ⟨by omega,by omega⟩),sp118⟩
 refine st_c cb57 .func (evs1 (.tmp rfl rfl)) (cform_spec hs128 (GState.mk q31.1.1 ((q55.1:Nat):Int) q110.1) hr130 ) ?_
 rintro e w131 ⟨rfl,hs132⟩
 refine ⟨_,rfl,?_⟩
 refine g_yes (yl (dj:=33) (b:=false) rfl rfl (congrArg Value.bool (by rw [hc129]; rfl))) ?_
 refine st (v:=.bool (!(sForm (GState.mk q31.1.1 ((q55.1:Nat):Int) q110.1)))) (x_not (.tmp rfl rfl)) ?_
 refine st (v:=.bool (!(sForm (GState.mk q31.1.1 ((q55.1:Nat):Int) q110.1)))) (x_pick_f (.tmp rfl (congrArg Value.bool (by rw [hc129]; rfl))) (.tmp rfl rfl)) ?_
 refine c_nil (n_then ?_)
 rcases Bool.eq_false_or_eq_true (sForm (GState.mk q31.1.1 ((q55.1:Nat):Int) q110.1)) with hc133 | hc133
 refine c_cond_f (t:=false) (.tmp rfl (congrArg Value.bool (by rw [hc133]; rfl))) rfl ?_
 refine c_skip (n_then (c_region (st (v:=v_l) (x_move (.tmp rfl hρ16)) ?_)))
 refine st (v:=.agg #[.int .u64 ((q31.1.1.N:Nat):Int),.int .i64 q31.1.1.P,.int .i64 ((q55.1:Nat):Int),.slice A115 n116 c117]) (ld52 (cs:=[.int .u64 ((q31.1.1.N:Nat):Int),.int .i64 q31.1.1.P,.int .i64 ((q55.1:Nat):Int),.slice A115 n116 c117]) (.tmp rfl rfl) (hs132.at_ 0 rfl (0) rfl) rfl) ?_
 refine st_m (m_lit (n:=1) (ps:=[(0,.agg #[.int .u64 ((q31.1.1.N:Nat):Int),.int .i64 q31.1.1.P,.int .i64 ((q55.1:Nat):Int),.slice A115 n116 c117])]) (cs:=[.int .u64 ((q31.1.1.N:Nat):Int),.int .i64 q31.1.1.P,.int .i64 ((q55.1:Nat):Int),.slice A115 n116 c117]) Try.underlying26 inf52 (.cons (.tmp rfl rfl) Evp.nil) (by decide) (by decide) rfl rfl hs132) ?_
 rintro _ w135 ⟨g134,rfl,hs137⟩
 have hs138:=hs137.p4
 have hr146:kState.rep H113 (GState.mk q31.1.1 ((q55.1:Nat):Int) q110.1) [.int .u64 ((q31.1.1.N:Nat):Int),.int .i64 q31.1.1.P,.int .i64 ((q55.1:Nat):Int),.slice A115 n116 c117]:=⟨A115,n116,c117,rfl,b42,⟨b43,b44⟩,(show IB ((q55.1:Nat):Int) from ⟨by omega,by omega⟩),sp118⟩
 refine st_m (m_appK (d:=kState) (ys:=[(GState.mk q31.1.1 ((q55.1:Nat):Int) q110.1)]) (news:=[.int .u64 ((q31.1.1.N:Nat):Int),.int .i64 q31.1.1.P,.int .i64 ((q55.1:Nat):Int),.slice A115 n116 c117]) Try.underlying26 inf52 rfl hs138 ok_l (Kn.rows_mono hk_l hle114) (.tmp rfl rfl) (.tmp rfl rfl) (Kn.rows_one hr146) rfl (hs138.at_ 1 rfl 0 rfl) (by have:([(GState.mk q31.1.1 ((q55.1:Nat):Int) q110.1)]:List GState).length = 1:=rfl; omega) (by decide)) ?_
 rintro v139 w140 ⟨cs141,ok142,hk143,hs144⟩
 have hn145:(l ++ [(GState.mk q31.1.1 ((q55.1:Nat):Int) q110.1)]).length = l.length + 1:=by simp
 refine st (v:=v139) (x_assign (.tmp rfl rfl)) ?_
 refine c_nil (n_block (n_then (c_region (st (v:=.int .i64 k) (x_move (.tmp rfl hρ17)) ?_))))
 refine st (v:=.int .i64 (k - 1)) (x_sub (k:=.i64) (a:=k) (b:=1) (.tmp rfl rfl) .const (w64 (by omega) (by omega))) ?_
 refine st (v:=.int .i64 (k - 1)) (x_assign (.tmp rfl rfl)) ?_
 refine c_nil ?_
 refine n_then ⟨_,_,rfl,?_,H113,(k - 1),(l ++ [(GState.mk q31.1.1 ((q55.1:Nat):Int) q110.1)]),v139,cs141,A119,n120,c121,q110.2.1,q110.2.2,hρ15,rfl,rfl,(hg12.trans hle114),ok142,hk143,hp123,(by omega),(by omega),(by omega),(by omega),(st_step inv (by omega) hc23 hq39 hq60 hq122 hc129 hc133),(((((hs144.p1).drop.p1).drop.p2).drop.p1).p1),rfl⟩
 omega
 refine c_cond_t (t:=true) (.tmp rfl (congrArg Value.bool (by rw [hc133]; rfl))) rfl ?_
 refine c_seq (c_region (st (v:=.slice none 0 0) (x_assign .const) ?_))
 refine st (v:=.bool false) (x_assign .const) ?_
 refine c_nil (n_then (c_ret (r_then (r_block (r_then (r_then (r_block (r_then (leave_ret (res_two (v:=.slice none 0 0) (u:=.bool false) rfl (.mk rfl rfl) (.mk rfl rfl)) ?_)))))))))
 exact ⟨H113,none,0,0,(([],false),q110.2),A119,n120,c121,(hg12.trans hle114),rfl,(Sl.nil _ _ none),(st_no inv (by omega) hc23 hq39 hq60 hq122 (.inr hc133)),hp123,(by omega),((hs132.drop.p1).drop.p1).drop⟩
 refine g_no (yl (dj:=33) (b:=true) rfl rfl (congrArg Value.bool (by rw [hc129]; rfl))) rfl ?_
 refine g_no (yl (dj:=33) (b:=true) rfl rfl (congrArg Value.bool (by rw [hc129]; rfl))) rfl ?_
 refine g_no (yl (dj:=33) (b:=true) rfl rfl (congrArg Value.bool (by rw [hc129]; rfl))) rfl ?_
 refine st (v:=.bool true) (x_pick_t (.tmp rfl (congrArg Value.bool (by rw [hc129]; rfl))) .const) ?_
 refine c_nil (n_then (c_cond_t (t:=true) (.tmp rfl rfl) rfl ?_))
 refine c_seq (c_region (st (v:=.slice none 0 0) (x_assign .const) ?_))
 refine st (v:=.bool false) (x_assign .const) ?_
 refine c_nil (n_then (c_ret (r_then (r_block (r_then (r_then (r_block (r_then (leave_ret (res_two (v:=.slice none 0 0) (u:=.bool false) rfl (.mk rfl rfl) (.mk rfl rfl)) ?_)))))))))
 exact ⟨H113,none,0,0,(([],false),q110.2),A119,n120,c121,(hg12.trans hle114),rfl,(Sl.nil _ _ none),(st_no inv (by omega) hc23 hq39 hq60 hq122 (.inl hc129)),hp123,(by omega),((hs128.drop.p1).drop.p1).drop⟩
 refine t_eff (k:=6) rfl ?_
 refine st_m (al52 (cs:=[.int .u64 0,.int .i64 0,.int .i64 0,.slice none 0 0]) hs53 rfl) ?_
 rintro _ w148 ⟨g147,rfl,hs150⟩
 refine t_on (S':=fun u => St H11 u (obj g147 52 [.int .u64 0,.int .i64 0,.int .i64 0,.slice none 0 0]::obj g45 24 [.int .u64 ((q31.1.1.N:Nat):Int),.int .i64 q31.1.1.P]::row 52 4 v_l l.length c_l::L)) (fun u hu => hu.drop) (hs150.p2).drop ?_
 refine t_eff (k:=2) rfl ?_
 have hs151:=hs150.p2
 refine st_c cb33 .func (evs2 (.tmp rfl rfl) .const) (int_q hp40 q31.2.2 1073741824 (by omega) (by omega) hs151) ?_
 rintro e w156 ⟨q152,A153,n154,c155,hq157,hb158,hn159,rfl,hp160,hs161⟩
 refine ⟨_,rfl,?_⟩
 refine t_on (S':=fun u => St H11 u (obj g147 52 [.int .u64 0,.int .i64 0,.int .i64 0,.slice none 0 0]::obj g45 24 [.int .u64 ((q31.1.1.N:Nat):Int),.int .i64 q31.1.1.P]::row 52 4 v_l l.length c_l::L)) (fun u hu => hu) hs161.drop ?_
 refine t_eff (k:=4) rfl ?_
 refine st_c cb39 .func (evs1 (.tmp rfl rfl)) (itemsdec_spec hs161 hp160 (by omega) ) ?_
 rintro e w163 ⟨H165,A167,n168,c169,q162,A171,n172,c173,hle166,rfl,sp170,hq174,hp175,hn176,hs164⟩
 have:=sp170.len; have:=sp170.le; have:n168 * 32 ≤ 140737488351232:=sp170.bnd
 refine ⟨_,rfl,?_⟩
 refine t_on (S':=fun u => St H165 u (obj g147 52 [.int .u64 0,.int .i64 0,.int .i64 0,.slice none 0 0]::obj g45 24 [.int .u64 ((q31.1.1.N:Nat):Int),.int .i64 q31.1.1.P]::row 52 4 v_l l.length c_l::L)) (fun u hu => hu.weaken hle166) hs164.drop ?_
 refine t_st (k:=5) (v:=.agg #[.int .u64 ((q31.1.1.N:Nat):Int),.int .i64 q31.1.1.P,.int .i64 ((q152.1:Nat):Int),.slice A167 n168 c169]) rfl rfl (fun w hs => (bl52 (ps:=[(0,.agg #[.int .u64 ((q31.1.1.N:Nat):Int),.int .i64 q31.1.1.P]),(1,.int .i64 ((q152.1:Nat):Int)),(2,.slice A167 n168 c169)]) (.cons (.tmp rfl rfl) (.cons (.tmp rfl rfl) (.cons (.tmp rfl rfl) Evp.nil))) rfl)) ?_
 refine t_eff (k:=7) rfl ?_
 have hs177:=hs164.p1
 refine st_m0 (sto52 (cs':=[.int .u64 ((q31.1.1.N:Nat):Int),.int .i64 q31.1.1.P,.int .i64 ((q152.1:Nat):Int),.slice A167 n168 c169]) (i:=0) hs177 (v:=.agg #[.int .u64 ((q31.1.1.N:Nat):Int),.int .i64 q31.1.1.P,.int .i64 ((q152.1:Nat):Int),.slice A167 n168 c169]) (.tmp rfl rfl) (.tmp rfl rfl) rfl (Nat.le_of_ble_eq_true rfl) (oneA rfl) rfl) ?_
 rintro w178 hs180
 refine t_new (S':=fun u => St H165 u (obj g147 52 [.int .u64 ((q31.1.1.N:Nat):Int),.int .i64 q31.1.1.P,.int .i64 ((q152.1:Nat):Int),.slice A167 n168 c169]::obj g_r 98 [.slice A171 n172 c173,.bool q162.2.2]::obj g45 24 [.int .u64 ((q31.1.1.N:Nat):Int),.int .i64 q31.1.1.P]::row 52 4 v_l l.length c_l::L)) rfl hs180 ?_
 refine t_nil ?_
 refine n_then (c_seq (c_seq (c_region (st (v:=.bool q31.1.2) (x_move (.tmp rfl rfl)) ?_))))
 refine st (v:=.bool (!q31.1.2)) (x_not (.tmp rfl rfl)) ?_
 refine st (v:=.bool (!q31.1.2)) (x_move (.tmp rfl rfl)) ?_
 rcases Bool.eq_false_or_eq_true q31.1.2 with hc181 | hc181
 refine g_yes (yl (dj:=33) (b:=false) rfl rfl (congrArg Value.bool (by rw [hc181]; rfl))) ?_
 refine st (v:=.agg #[.int .u64 ((q31.1.1.N:Nat):Int),.int .i64 q31.1.1.P,.int .i64 ((q152.1:Nat):Int),.slice A167 n168 c169]) (ld52 (cs:=[.int .u64 ((q31.1.1.N:Nat):Int),.int .i64 q31.1.1.P,.int .i64 ((q152.1:Nat):Int),.slice A167 n168 c169]) (.tmp rfl rfl) (hs180.at_ 0 rfl (0) rfl) rfl) ?_
 refine g_yes (yl (dj:=33) (b:=false) rfl rfl (congrArg Value.bool (by rw [hc181]; rfl))) ?_
 have hr182:kState.rep H165 (GState.mk q31.1.1 ((q152.1:Nat):Int) q162.1) [.int .u64 ((q31.1.1.N:Nat):Int),.int .i64 q31.1.1.P,.int .i64 ((q152.1:Nat):Int),.slice A167 n168 c169]:=⟨A167,n168,c169,rfl,b42,⟨b43,b44⟩,(show IB ((q152.1:Nat):Int) from ⟨by omega,by omega⟩),sp170⟩
 refine st_c cb57 .func (evs1 (.tmp rfl rfl)) (cform_spec hs180 (GState.mk q31.1.1 ((q152.1:Nat):Int) q162.1) hr182 ) ?_
 rintro e w183 ⟨rfl,hs184⟩
 refine ⟨_,rfl,?_⟩
 refine g_yes (yl (dj:=33) (b:=false) rfl rfl (congrArg Value.bool (by rw [hc181]; rfl))) ?_
 refine st (v:=.bool (!(sForm (GState.mk q31.1.1 ((q152.1:Nat):Int) q162.1)))) (x_not (.tmp rfl rfl)) ?_
 refine st (v:=.bool (!(sForm (GState.mk q31.1.1 ((q152.1:Nat):Int) q162.1)))) (x_pick_f (.tmp rfl (congrArg Value.bool (by rw [hc181]; rfl))) (.tmp rfl rfl)) ?_
 refine c_nil (n_then ?_)
 rcases Bool.eq_false_or_eq_true (sForm (GState.mk q31.1.1 ((q152.1:Nat):Int) q162.1)) with hc185 | hc185
 refine c_cond_f (t:=false) (.tmp rfl (congrArg Value.bool (by rw [hc185]; rfl))) rfl ?_
 refine c_skip (n_then (c_region (st (v:=v_l) (x_move (.tmp rfl hρ16)) ?_)))
 refine st (v:=.agg #[.int .u64 ((q31.1.1.N:Nat):Int),.int .i64 q31.1.1.P,.int .i64 ((q152.1:Nat):Int),.slice A167 n168 c169]) (ld52 (cs:=[.int .u64 ((q31.1.1.N:Nat):Int),.int .i64 q31.1.1.P,.int .i64 ((q152.1:Nat):Int),.slice A167 n168 c169]) (.tmp rfl rfl) (hs184.at_ 0 rfl (0) rfl) rfl) ?_
 refine st_m (m_lit (n:=1) (ps:=[(0,.agg #[.int .u64 ((q31.1.1.N:Nat):Int),.int .i64 q31.1.1.P,.int .i64 ((q152.1:Nat):Int),.slice A167 n168 c169])]) (cs:=[.int .u64 ((q31.1.1.N:Nat):Int),.int .i64 q31.1.1.P,.int .i64 ((q152.1:Nat):Int),.slice A167 n168 c169]) Try.underlying26 inf52 (.cons (.tmp rfl rfl) Evp.nil) (by decide) (by decide) rfl rfl hs184) ?_
 rintro _ w187 ⟨g186,rfl,hs189⟩
 have hs190:=hs189.p4
 have hr198:kState.rep H165 (GState.mk q31.1.1 ((q152.1:Nat):Int) q162.1) [.int .u64 ((q31.1.1.N:Nat):Int),.int .i64 q31.1.1.P,.int .i64 ((q152.1:Nat):Int),.slice A167 n168 c169]:=⟨A167,n168,c169,rfl,b42,⟨b43,b44⟩,(show IB ((q152.1:Nat):Int) from ⟨by omega,by omega⟩),sp170⟩
 refine st_m (m_appK (d:=kState) (ys:=[(GState.mk q31.1.1 ((q152.1:Nat):Int) q162.1)]) (news:=[.int .u64 ((q31.1.1.N:Nat):Int),.int .i64 q31.1.1.P,.int .i64 ((q152.1:Nat):Int),.slice A167 n168 c169]) Try.underlying26 inf52 rfl hs190 ok_l (Kn.rows_mono hk_l hle166) (.tmp rfl rfl) (.tmp rfl rfl) (Kn.rows_one hr198) rfl (hs190.at_ 1 rfl 0 rfl) (by have:([(GState.mk q31.1.1 ((q152.1:Nat):Int) q162.1)]:List GState).length = 1:=rfl; omega) (by decide)) ?_
 rintro v191 w192 ⟨cs193,ok194,hk195,hs196⟩
 have hn197:(l ++ [(GState.mk q31.1.1 ((q152.1:Nat):Int) q162.1)]).length = l.length + 1:=by simp
 refine st (v:=v191) (x_assign (.tmp rfl rfl)) ?_
 refine c_nil (n_block (n_then (c_region (st (v:=.int .i64 k) (x_move (.tmp rfl hρ17)) ?_))))
 refine st (v:=.int .i64 (k - 1)) (x_sub (k:=.i64) (a:=k) (b:=1) (.tmp rfl rfl) .const (w64 (by omega) (by omega))) ?_
 refine st (v:=.int .i64 (k - 1)) (x_assign (.tmp rfl rfl)) ?_
 refine c_nil ?_
 refine n_then ⟨_,_,rfl,?_,H165,(k - 1),(l ++ [(GState.mk q31.1.1 ((q152.1:Nat):Int) q162.1)]),v191,cs193,A171,n172,c173,q162.2.1,q162.2.2,hρ15,rfl,rfl,(hg12.trans hle166),ok194,hk195,hp175,(by omega),(by omega),(by omega),(by omega),(st_step inv (by omega) hc23 hq39 hq157 hq174 hc181 hc185),(((((hs196.p1).drop.p1).drop.p2).drop.p1).p1),rfl⟩
 omega
 refine c_cond_t (t:=true) (.tmp rfl (congrArg Value.bool (by rw [hc185]; rfl))) rfl ?_
 refine c_seq (c_region (st (v:=.slice none 0 0) (x_assign .const) ?_))
 refine st (v:=.bool false) (x_assign .const) ?_
 refine c_nil (n_then (c_ret (r_then (r_block (r_then (r_then (r_block (r_then (leave_ret (res_two (v:=.slice none 0 0) (u:=.bool false) rfl (.mk rfl rfl) (.mk rfl rfl)) ?_)))))))))
 exact ⟨H165,none,0,0,(([],false),q162.2),A171,n172,c173,(hg12.trans hle166),rfl,(Sl.nil _ _ none),(st_no inv (by omega) hc23 hq39 hq157 hq174 (.inr hc185)),hp175,(by omega),((hs184.drop.p1).drop.p1).drop⟩
 refine g_no (yl (dj:=33) (b:=true) rfl rfl (congrArg Value.bool (by rw [hc181]; rfl))) rfl ?_
 refine g_no (yl (dj:=33) (b:=true) rfl rfl (congrArg Value.bool (by rw [hc181]; rfl))) rfl ?_
 refine g_no (yl (dj:=33) (b:=true) rfl rfl (congrArg Value.bool (by rw [hc181]; rfl))) rfl ?_
 refine st (v:=.bool true) (x_pick_t (.tmp rfl (congrArg Value.bool (by rw [hc181]; rfl))) .const) ?_
 refine c_nil (n_then (c_cond_t (t:=true) (.tmp rfl rfl) rfl ?_))
 refine c_seq (c_region (st (v:=.slice none 0 0) (x_assign .const) ?_))
 refine st (v:=.bool false) (x_assign .const) ?_
 refine c_nil (n_then (c_ret (r_then (r_block (r_then (r_then (r_block (r_then (leave_ret (res_two (v:=.slice none 0 0) (u:=.bool false) rfl (.mk rfl rfl) (.mk rfl rfl)) ?_)))))))))
 exact ⟨H165,none,0,0,(([],false),q162.2),A171,n172,c173,(hg12.trans hle166),rfl,(Sl.nil _ _ none),(st_no inv (by omega) hc23 hq39 hq157 hq174 (.inl hc181)),hp175,(by omega),((hs180.drop.p1).drop.p1).drop⟩
 have hp19:¬ ((0:Int) < k):=of_decide_eq_false hc19
 refine g_no (yk 13 false rfl rfl hc19) rfl ?_
 refine g_no (yk 13 false rfl rfl hc19) rfl ?_
 refine g_no (yk 13 false rfl rfl hc19) rfl ?_
 refine st (v:=.bool false) (x_pick_f (.tmp rfl (congrArg Value.bool hc19)) .const) ?_
 refine c_nil (n_then (c_cond_f (t:=false) (.tmp rfl rfl) rfl ?_))
 refine c_exit (x_then (x_then (x_here (n_then (c_seq (c_region (st (v:=v_l) (x_move (.tmp rfl hρ16)) ?_)))))))
 refine st (v:=v_l) (x_assign (.tmp rfl rfl)) ?_
 refine st (v:=.bool true) (x_assign .const) ?_
 refine c_nil (n_then (c_ret (leave_ret (res_two (v:=v_l) (u:=.bool true) rfl (.mk rfl rfl) (.mk rfl rfl)) ?_)))
 have:l.length * 48 ≤ 140737488351232:=by omega
 obtain ⟨H199,A200,c201,hle202,hs203,rfl,sp204⟩:=hs18.freezeSl (d:=kState) ok_l hk_l this
 have:=sp204.len; have:=sp204.le
 exact ⟨H199,A200,l.length,c201,((l,true),cur,bad),A2,n2,c2,(hg12.trans hle202),rfl,sp204,(st_done inv (.inl (by omega))),(hp2.mono hle202),(by omega),hs203⟩
end Go.Proofs.Ytlfihfmmhhcigaa
