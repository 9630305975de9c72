/- Steps of the proofs over the functions of this seat, printed by a program (gen.py) and checked by Lean. -/
import Derived.Test.YtlfihfmmhhcigaaW01
import Derived.Test.YtlfihfmmhhcigaaW00
import Derived.Test.YtlfihfmmhhcigaaW11
set_option linter.unusedVariables false
set_option linter.unusedSimpArgs false
namespace Go.Proofs.Ytlfihfmmhhcigaa
open Go Go.FM Go.Proofs
attribute [local irreducible] wpList wpQuiet wpS Code.wp Calls
set_option maxHeartbeats 8000000 in
theorem unitems_spec {H:Hp} {w:World} {L:List Res} {g_r:Nat} {A_r:Option Addr} {n_r c_r:Nat} {p_r r:List Nat} {b_r:Bool} (hs:St H w (obj g_r 88 [.slice A_r n_r c_r,.int .i64 (atOf n_r r b_r)]::L)) (hp_r:Bs H A_r n_r c_r p_r) (hf_r:Suf p_r r) (hn_r:n_r ≤ 140737488355320):Calls Try.prog 53 #[.pointer (some ⟨g_r,0,none⟩)] w (fun e w' => ∃ (H':Hp) (A0:Option Addr) (n0 c0:Nat) (q_r:List GItem × List Nat × Bool),H.le H'∧e = .returned (.slice A0 n0 c0)∧Sl kItem H' A0 n0 c0 (q_r.1)∧q_r = rdItems r b_r∧Suf p_r q_r.2.1∧St H' w' (obj g_r 88 [.slice A_r n_r c_r,.int .i64 (atOf n_r q_r.2.1 q_r.2.2)]::L)):=by
 have:=hp_r.len
 have:=hp_r.le
 have hl1:r.length ≤ n_r:=by have h1:=Suf.len hf_r; have h2:=hp_r.len; omega
 have:=atOf_bound (n:=n_r) (cur:=r) (bad:=b_r) hl1
 refine enter (args:=[.pointer (some ⟨g_r,0,none⟩)]) (N:=32) Try.func53 rfl rfl rfl ?_
 refine c_seq (c_region (st (v:=.slice none 0 0) (x_assign .const) ?_))
 refine c_nil (n_then (c_seq (c_region (st (v:=.slice none 0 0) (x_assign .const) ?_))))
 refine c_nil (n_then (c_seq (c_region (st (v:=.pointer (some ⟨g_r,0,none⟩)) (x_move (.tmp rfl rfl)) ?_))))
 refine st_c cb48 .func (evs2 (.tmp rfl rfl) .const) (rint_r hs hp_r hf_r hn_r 4096 (by omega) (by omega)) ?_
 rintro e w2 ⟨q4,hq5,hb6,hf7,rfl,hs3⟩
 refine ⟨_,rfl,?_⟩
 have hl9:q4.2.1.length ≤ n_r:=by have h1:=Suf.len hf7; have h2:=hp_r.len; omega
 have:=atOf_bound (n:=n_r) (cur:=q4.2.1) (bad:=q4.2.2) hl9
 refine st (v:=.int .i64 ((q4.1:Nat):Int)) (x_assign (.tmp rfl rfl)) ?_
 refine c_nil (n_then (c_seq (c_seq (c_region (st (v:=.int .i64 0) (x_assign .const) ?_)))))
 refine c_nil (n_then (c_block ?_))
 have hs12:St H _ (row 49 2 (.slice none 0 0) (([]:List GItem).length) []::obj g_r 88 [.slice A_r n_r c_r,.int .i64 (atOf n_r q4.2.1 q4.2.2)]::L):=hs3.krowNil 49 kItem
 have:([]:List GItem).length = 0:=rfl
 refine c_loop (fun ρ w mm => ∃ (H10:Hp) (i:Nat) (l:List GItem) (v_l:Value) (c_l:List Value) (cur:List Nat) (bad:Bool),ρ 0 = .pointer (some ⟨g_r,0,none⟩)∧ρ 3 = v_l∧ρ 4 = .int .i64 ((q4.1:Nat):Int)∧ρ 5 = .int .i64 ((i:Nat):Int)∧(H.le H10)∧(RowOk kItem.sz v_l l.length c_l)∧(kItem.toKn.rows H10 l c_l)∧(Bs H10 A_r n_r c_r p_r)∧(Suf p_r cur)∧(cur.length ≤ n_r)∧(i ≤ q4.1)∧(l.length ≤ i)∧(ItInv r b_r l (((q4.1:Nat):Int) - ((i:Nat):Int)) cur bad)∧St H10 w (row 49 2 v_l l.length c_l::obj g_r 88 [.slice A_r n_r c_r,.int .i64 (atOf n_r cur bad)]::L)∧mm = q4.1 - i) _ ⟨H,0,([]:List GItem),(.slice none 0 0),[],q4.2.1,q4.2.2,rfl,rfl,rfl,rfl,(Hp.le.refl _),(RowOk.knil kItem),(Kn.rows_nil _ _),hp_r,hf7,hl9,(by omega),(by omega),(it_from hq5 (by omega)),((hs12.p1).p1),rfl⟩ ?_
 rintro ρ w mm ⟨H10,i,l,v_l,c_l,cur,bad,hρ14,hρ15,hρ16,hρ17,hg11,ok_l,hk_l,hp2,hf2,hlc,hi,hl,inv,hs18,rfl⟩
 refine c_seq (c_seq (c_region ?_))
 have hab9:=atOf_bound (n:=n_r) (cur:=cur) (bad:=bad) hlc
 refine st (v:=.int .i64 ((i:Nat):Int)) (x_move (.tmp rfl hρ17)) ?_
 refine st (v:=.int .i64 ((q4.1:Nat):Int)) (x_move (.tmp rfl hρ16)) ?_
 refine st (v:=.bool (decide ((((i:Nat):Int):Int) < ((q4.1:Nat):Int)))) (x_lss (k:=.i64) (a:=((i:Nat):Int)) (b:=((q4.1:Nat):Int)) (.tmp rfl rfl) (.tmp rfl rfl)) ?_
 refine st (v:=.bool (decide ((((i:Nat):Int):Int) < ((q4.1:Nat):Int)))) (x_move (.tmp rfl rfl)) ?_
 rcases Bool.eq_false_or_eq_true (decide ((((i:Nat):Int):Int) < ((q4.1:Nat):Int))) with hc19 | hc19
 have hp19:(((i:Nat):Int):Int) < ((q4.1:Nat):Int):=of_decide_eq_true hc19
 refine g_yes (yk 12 true rfl rfl hc19) ?_
 refine st (v:=.pointer (some ⟨g_r,0,none⟩)) (x_move (.tmp rfl hρ14)) ?_
 refine g_yes (yk 12 true rfl rfl hc19) ?_
 refine st (v:=.pointer (some ⟨g_r,0,none⟩)) (x_nilCheck (.tmp rfl rfl)) ?_
 refine g_yes (yk 12 true rfl rfl hc19) ?_
 refine st (v:=.pointer (some ⟨g_r,0 + 1,none⟩)) (fa88_1 (.tmp rfl rfl)) ?_
 refine g_yes (yk 12 true rfl rfl hc19) ?_
 refine st (v:=.int .i64 (atOf n_r cur bad)) (ld3 (.tmp rfl rfl) (hs18.cell 1 rfl (0 + 1) rfl)) ?_
 refine g_yes (yk 12 true rfl rfl hc19) ?_
 refine st (v:=.bool (decide ((0:Int) ≤ (atOf n_r cur bad)))) (x_geq (k:=.i64) (a:=(atOf n_r cur bad)) (b:=0) (.tmp rfl rfl) .const) ?_
 refine st (v:=.bool (decide ((0:Int) ≤ (atOf n_r cur bad)))) (x_pick_t (.tmp rfl (congrArg Value.bool hc19)) (.tmp rfl rfl)) ?_
 refine c_nil (n_then ?_)
 rcases Bool.eq_false_or_eq_true (decide ((0:Int) ≤ (atOf n_r cur bad))) with hc20 | hc20
 have hp20:(0:Int) ≤ (atOf n_r cur bad):=of_decide_eq_true hc20
 refine c_cond_t (t:=true) (.tmp rfl (congrArg Value.bool hc20)) rfl ?_
 refine c_skip (n_then (c_seq (c_block (c_seq (c_region (st (v:=.pointer (some ⟨g_r,0,none⟩)) (x_move (.tmp rfl hρ14)) ?_))))))
 have hs21:=hs18.p1
 refine st_c cb48 .func (evs2 (.tmp rfl rfl) .const) (rint_r hs21 hp2 hf2 hn_r 15 (by omega) (by omega)) ?_
 rintro e w22 ⟨q24,hq25,hb26,hf27,rfl,hs23⟩
 refine ⟨_,rfl,?_⟩
 have hl29:q24.2.1.length ≤ n_r:=by have h1:=Suf.len hf27; have h2:=hp2.len; omega
 have:=atOf_bound (n:=n_r) (cur:=q24.2.1) (bad:=q24.2.2) hl29
 refine st (v:=.agg #[.int .i64 ((q24.1:Nat):Int),.slice none 0 0]) (bl49 (ps:=[(0,.int .i64 ((q24.1:Nat):Int))]) (.cons (.tmp rfl rfl) Evp.nil) rfl) ?_
 refine st_m (al49 (cs:=[.int .i64 0,.slice none 0 0]) hs23 rfl) ?_
 rintro _ w31 ⟨g30,rfl,hs33⟩
 refine st_m0 (sto49 (cs':=[.int .i64 ((q24.1:Nat):Int),.slice none 0 0]) (i:=0) hs33 (v:=.agg #[.int .i64 ((q24.1:Nat):Int),.slice none 0 0]) (.tmp rfl rfl) (.tmp rfl rfl) rfl (Nat.le_of_ble_eq_true rfl) (oneA rfl) rfl) ?_
 rintro w34 hs36
 refine c_nil (n_then (c_seq (c_region (st (v:=.pointer (some ⟨g_r,0,none⟩)) (x_move (.tmp rfl hρ14)) ?_))))
 have hs37:=hs36.p1
 refine st_c cb52 .func (evs2 (.tmp rfl rfl) .const) (rbytes_r hs37 hp2 hf27 hn_r 1048576 (by omega) (by omega)) ?_
 rintro e w38 ⟨A45,n46,c47,q40,hq41,hb42,hf43,rfl,hp48,hs39⟩
 refine ⟨_,rfl,?_⟩
 have hl50:q40.2.1.length ≤ n_r:=by have h1:=Suf.len hf43; have h2:=hp2.len; omega
 have:=atOf_bound (n:=n_r) (cur:=q40.2.1) (bad:=q40.2.2) hl50
 have:=hp48.len
 have hy49:By H10 A45 n46 c47 q40.1:=⟨hp48,by omega⟩
 have:=hy49.le
 refine st (v:=.pointer (some ⟨g30,0 + 1,none⟩)) (fa49_1 (.tmp rfl rfl)) ?_
 have hs51:=hs39.p1
 refine st_m0 (sto33 (cs':=[.int .i64 ((q24.1:Nat):Int),.slice A45 n46 c47]) (i:=0 + 1) hs51 (v:=.slice A45 n46 c47) (.tmp rfl rfl) (.tmp rfl rfl) rfl (Nat.le_of_ble_eq_true rfl) one1 rfl) ?_
 rintro w52 hs54
 refine c_nil (n_then (c_region (st (v:=v_l) (x_move (.tmp rfl hρ15)) ?_)))
 refine st (v:=.agg #[.int .i64 ((q24.1:Nat):Int),.slice A45 n46 c47]) (ld49 (cs:=[.int .i64 ((q24.1:Nat):Int),.slice A45 n46 c47]) (.tmp rfl rfl) (hs54.at_ 0 rfl (0) rfl) rfl) ?_
 refine st_m (m_lit (n:=1) (ps:=[(0,.agg #[.int .i64 ((q24.1:Nat):Int),.slice A45 n46 c47])]) (cs:=[.int .i64 ((q24.1:Nat):Int),.slice A45 n46 c47]) Try.underlying28 inf49 (.cons (.tmp rfl rfl) Evp.nil) (by decide) (by decide) rfl rfl hs54) ?_
 rintro _ w56 ⟨g55,rfl,hs58⟩
 have hs59:=hs58.p3
 have hr67:kItem.rep H10 (GItem.mk ((q24.1:Nat):Int) q40.1) [.int .i64 ((q24.1:Nat):Int),.slice A45 n46 c47]:=⟨A45,n46,c47,rfl,(show IB ((q24.1:Nat):Int) from ⟨by omega,by omega⟩),hy49⟩
 refine st_m (m_appK (d:=kItem) (ys:=[(GItem.mk ((q24.1:Nat):Int) q40.1)]) (news:=[.int .i64 ((q24.1:Nat):Int),.slice A45 n46 c47]) Try.underlying28 inf49 rfl hs59 ok_l hk_l (.tmp rfl rfl) (.tmp rfl rfl) (Kn.rows_one hr67) rfl (hs59.at_ 1 rfl 0 rfl) (by have:([(GItem.mk ((q24.1:Nat):Int) q40.1)]:List GItem).length = 1:=rfl; omega) (by decide)) ?_
 rintro v60 w61 ⟨cs62,ok63,hk64,hs65⟩
 have hn66:(l ++ [(GItem.mk ((q24.1:Nat):Int) q40.1)]).length = l.length + 1:=by simp
 refine st (v:=v60) (x_assign (.tmp rfl rfl)) ?_
 refine c_nil (n_block (n_then (c_region (st (v:=.int .i64 ((i:Nat):Int)) (x_move (.tmp rfl hρ17)) ?_))))
 refine st (v:=.int .i64 (((i + 1):Nat):Int)) (x_add (k:=.i64) (a:=((i:Nat):Int)) (b:=1) (.tmp rfl rfl) .const ((w64 (by omega) (by omega)).trans (by omega))) ?_
 refine st (v:=.int .i64 (((i + 1):Nat):Int)) (x_assign (.tmp rfl rfl)) ?_
 refine c_nil ?_
 refine n_then ⟨_,_,rfl,?_,H10,(i + 1),(l ++ [(GItem.mk ((q24.1:Nat):Int) q40.1)]),v60,cs62,q40.2.1,q40.2.2,hρ14,rfl,hρ16,rfl,hg11,ok63,hk64,hp2,hf43,(hl50),(by omega),(by omega),(it_up inv (by omega) (at_good hlc (by omega)) hq25 hq41 (by omega)),((((hs65.p1).drop.p1).drop.p1).p1),rfl⟩
 omega
 have hp20:¬ ((0:Int) ≤ (atOf n_r cur bad)):=of_decide_eq_false hc20
 refine c_cond_f (t:=false) (.tmp rfl (congrArg Value.bool hc20)) rfl ?_
 refine c_exit (x_then (x_then (x_here (n_then (c_seq (c_region (st (v:=v_l) (x_move (.tmp rfl hρ15)) ?_)))))))
 refine st (v:=v_l) (x_assign (.tmp rfl rfl)) ?_
 refine c_nil (n_then (c_ret (leave_ret (res_one (v:=v_l) rfl (.mk rfl rfl)) ?_)))
 have:l.length * 32 ≤ 140737488351232:=by omega
 obtain ⟨H68,A69,c70,hle71,hs72,rfl,sp73⟩:=hs18.freezeSl (d:=kItem) ok_l hk_l this
 have:=sp73.len; have:=sp73.le
 exact ⟨H68,A69,l.length,c70,(l,cur,bad),(hg11.trans hle71),rfl,sp73,(it_done inv (.inr (at_bad hlc (by omega)))),hf2,hs72⟩
 have hp19:¬ ((((i:Nat):Int):Int) < ((q4.1:Nat):Int)):=of_decide_eq_false hc19
 refine g_no (yk 12 false rfl rfl hc19) rfl ?_
 refine g_no (yk 12 false rfl rfl hc19) rfl ?_
 refine g_no (yk 12 false rfl rfl hc19) rfl ?_
 refine g_no (yk 12 false rfl rfl hc19) rfl ?_
 refine g_no (yk 12 false rfl rfl hc19) rfl ?_
 refine st (v:=.bool false) (x_pick_f (.tmp rfl (congrArg Value.bool hc19)) .const) ?_
 refine c_nil (n_then (c_cond_f (t:=false) (.tmp rfl rfl) rfl ?_))
 refine c_exit (x_then (x_then (x_here (n_then (c_seq (c_region (st (v:=v_l) (x_move (.tmp rfl hρ15)) ?_)))))))
 refine st (v:=v_l) (x_assign (.tmp rfl rfl)) ?_
 refine c_nil (n_then (c_ret (leave_ret (res_one (v:=v_l) rfl (.mk rfl rfl)) ?_)))
 have:l.length * 32 ≤ 140737488351232:=by omega
 obtain ⟨H74,A75,c76,hle77,hs78,rfl,sp79⟩:=hs18.freezeSl (d:=kItem) ok_l hk_l this
 have:=sp79.len; have:=sp79.le
 exact ⟨H74,A75,l.length,c76,(l,cur,bad),(hg11.trans hle77),rfl,sp79,(it_done inv (.inl (by omega))),hf2,hs78⟩
set_option maxHeartbeats 8000000 in
theorem unstates_spec {H:Hp} {w:World} {L:List Res} {g_r:Nat} {A_r:Option Addr} {n_r c_r:Nat} {p_r r:List Nat} {b_r:Bool} (hs:St H w (obj g_r 88 [.slice A_r n_r c_r,.int .i64 (atOf n_r r b_r)]::L)) (hp_r:Bs H A_r n_r c_r p_r) (hf_r:Suf p_r r) (hn_r:n_r ≤ 140737488355320):Calls Try.prog 50 #[.pointer (some ⟨g_r,0,none⟩)] w (fun e w' => ∃ (H':Hp) (A0:Option Addr) (n0 c0:Nat) (q_r:List GState × List Nat × Bool),H.le H'∧e = .returned (.slice A0 n0 c0)∧Sl kState H' A0 n0 c0 (q_r.1)∧q_r = (rcount rdStR 4096) r b_r∧Suf p_r q_r.2.1∧St H' w' (obj g_r 88 [.slice A_r n_r c_r,.int .i64 (atOf n_r q_r.2.1 q_r.2.2)]::L)):=by
 have:=hp_r.len
 have:=hp_r.le
 have hl1:r.length ≤ n_r:=by have h1:=Suf.len hf_r; have h2:=hp_r.len; omega
 have:=atOf_bound (n:=n_r) (cur:=r) (bad:=b_r) hl1
 refine enter (args:=[.pointer (some ⟨g_r,0,none⟩)]) (N:=35) Try.func50 rfl rfl rfl ?_
 refine c_seq (c_region (st (v:=.slice none 0 0) (x_assign .const) ?_))
 refine c_nil (n_then (c_seq (c_region (st (v:=.slice none 0 0) (x_assign .const) ?_))))
 refine c_nil (n_then (c_seq (c_region (st (v:=.pointer (some ⟨g_r,0,none⟩)) (x_move (.tmp rfl rfl)) ?_))))
 refine st_c cb48 .func (evs2 (.tmp rfl rfl) .const) (rint_r hs hp_r hf_r hn_r 4096 (by omega) (by omega)) ?_
 rintro e w2 ⟨q4,hq5,hb6,hf7,rfl,hs3⟩
 refine ⟨_,rfl,?_⟩
 have hl9:q4.2.1.length ≤ n_r:=by have h1:=Suf.len hf7; have h2:=hp_r.len; omega
 have:=atOf_bound (n:=n_r) (cur:=q4.2.1) (bad:=q4.2.2) hl9
 refine st (v:=.int .i64 ((q4.1:Nat):Int)) (x_assign (.tmp rfl rfl)) ?_
 refine c_nil (n_then (c_seq (c_seq (c_region (st (v:=.int .i64 0) (x_assign .const) ?_)))))
 refine c_nil (n_then (c_block ?_))
 have hs12:St H _ (row 52 4 (.slice none 0 0) (([]:List GState).length) []::obj g_r 88 [.slice A_r n_r c_r,.int .i64 (atOf n_r q4.2.1 q4.2.2)]::L):=hs3.krowNil 52 kState
 have:([]:List GState).length = 0:=rfl
 refine c_loop (fun ρ w mm => ∃ (H10:Hp) (i:Nat) (l:List GState) (v_l:Value) (c_l:List Value) (cur:List Nat) (bad:Bool),ρ 0 = .pointer (some ⟨g_r,0,none⟩)∧ρ 3 = v_l∧ρ 4 = .int .i64 ((q4.1:Nat):Int)∧ρ 5 = .int .i64 ((i:Nat):Int)∧(H.le H10)∧(RowOk kState.sz v_l l.length c_l)∧(kState.toKn.rows H10 l c_l)∧(Bs H10 A_r n_r c_r p_r)∧(Suf p_r cur)∧(cur.length ≤ n_r)∧(i ≤ q4.1)∧(l.length ≤ i)∧(SrInv r b_r l (((q4.1:Nat):Int) - ((i:Nat):Int)) cur bad)∧St H10 w (row 52 4 v_l l.length c_l::obj g_r 88 [.slice A_r n_r c_r,.int .i64 (atOf n_r cur bad)]::L)∧mm = q4.1 - i) _ ⟨H,0,([]:List GState),(.slice none 0 0),[],q4.2.1,q4.2.2,rfl,rfl,rfl,rfl,(Hp.le.refl _),(RowOk.knil kState),(Kn.rows_nil _ _),hp_r,hf7,hl9,(by omega),(by omega),(sr_from hq5 (by omega)),((hs12.p1).p1),rfl⟩ ?_
 rintro ρ w mm ⟨H10,i,l,v_l,c_l,cur,bad,hρ14,hρ15,hρ16,hρ17,hg11,ok_l,hk_l,hp2,hf2,hlc,hi,hl,inv,hs18,rfl⟩
 refine c_seq (c_seq (c_region ?_))
 have hab9:=atOf_bound (n:=n_r) (cur:=cur) (bad:=bad) hlc
 refine st (v:=.int .i64 ((i:Nat):Int)) (x_move (.tmp rfl hρ17)) ?_
 refine st (v:=.int .i64 ((q4.1:Nat):Int)) (x_move (.tmp rfl hρ16)) ?_
 refine st (v:=.bool (decide ((((i:Nat):Int):Int) < ((q4.1:Nat):Int)))) (x_lss (k:=.i64) (a:=((i:Nat):Int)) (b:=((q4.1:Nat):Int)) (.tmp rfl rfl) (.tmp rfl rfl)) ?_
 refine st (v:=.bool (decide ((((i:Nat):Int):Int) < ((q4.1:Nat):Int)))) (x_move (.tmp rfl rfl)) ?_
 rcases Bool.eq_false_or_eq_true (decide ((((i:Nat):Int):Int) < ((q4.1:Nat):Int))) with hc19 | hc19
 have hp19:(((i:Nat):Int):Int) < ((q4.1:Nat):Int):=of_decide_eq_true hc19
 refine g_yes (yk 12 true rfl rfl hc19) ?_
 refine st (v:=.pointer (some ⟨g_r,0,none⟩)) (x_move (.tmp rfl hρ14)) ?_
 refine g_yes (yk 12 true rfl rfl hc19) ?_
 refine st (v:=.pointer (some ⟨g_r,0,none⟩)) (x_nilCheck (.tmp rfl rfl)) ?_
 refine g_yes (yk 12 true rfl rfl hc19) ?_
 refine st (v:=.pointer (some ⟨g_r,0 + 1,none⟩)) (fa88_1 (.tmp rfl rfl)) ?_
 refine g_yes (yk 12 true rfl rfl hc19) ?_
 refine st (v:=.int .i64 (atOf n_r cur bad)) (ld3 (.tmp rfl rfl) (hs18.cell 1 rfl (0 + 1) rfl)) ?_
 refine g_yes (yk 12 true rfl rfl hc19) ?_
 refine st (v:=.bool (decide ((0:Int) ≤ (atOf n_r cur bad)))) (x_geq (k:=.i64) (a:=(atOf n_r cur bad)) (b:=0) (.tmp rfl rfl) .const) ?_
 refine st (v:=.bool (decide ((0:Int) ≤ (atOf n_r cur bad)))) (x_pick_t (.tmp rfl (congrArg Value.bool hc19)) (.tmp rfl rfl)) ?_
 refine c_nil (n_then ?_)
 rcases Bool.eq_false_or_eq_true (decide ((0:Int) ≤ (atOf n_r cur bad))) with hc20 | hc20
 have hp20:(0:Int) ≤ (atOf n_r cur bad):=of_decide_eq_true hc20
 refine c_cond_t (t:=true) (.tmp rfl (congrArg Value.bool hc20)) rfl ?_
 refine c_skip (n_then (c_seq (c_block (c_seq (c_region (st (v:=.pointer (some ⟨g_r,0,none⟩)) (x_move (.tmp rfl hρ14)) ?_))))))
 have hs21:=hs18.p1
 refine st_c cb49 .func (evs1 (.tmp rfl rfl)) (rvdec_spec hs21 hp2 hf2 (by omega) ) ?_
 rintro e w23 ⟨cs25,q22,rfl,hr26,hq27,hf28,hs24⟩
 obtain ⟨rfl,b29,⟨b30,b31⟩⟩:=hr26
 refine ⟨_,rfl,?_⟩
 have hl32:q22.2.1.length ≤ n_r:=by have h1:=Suf.len hf28; have h2:=hp2.len; omega
 have:=atOf_bound (n:=n_r) (cur:=q22.2.1) (bad:=q22.2.2) hl32
 refine st (v:=.agg #[.int .u64 ((q22.1.N:Nat):Int),.int .i64 q22.1.P,.int .i64 0,.slice none 0 0]) (bl52 (ps:=[(0,.agg #[.int .u64 ((q22.1.N:Nat):Int),.int .i64 q22.1.P])]) (.cons (.tmp rfl rfl) Evp.nil) rfl) ?_
 refine st_m (al52 (cs:=[.int .u64 0,.int .i64 0,.int .i64 0,.slice none 0 0]) hs24 rfl) ?_
 rintro _ w34 ⟨g33,rfl,hs36⟩
 refine st_m0 (sto52 (cs':=[.int .u64 ((q22.1.N:Nat):Int),.int .i64 q22.1.P,.int .i64 0,.slice none 0 0]) (i:=0) hs36 (v:=.agg #[.int .u64 ((q22.1.N:Nat):Int),.int .i64 q22.1.P,.int .i64 0,.slice none 0 0]) (.tmp rfl rfl) (.tmp rfl rfl) rfl (Nat.le_of_ble_eq_true rfl) (oneA rfl) rfl) ?_
 rintro w37 hs39
 refine c_nil (n_then (c_seq (c_region (st (v:=.pointer (some ⟨g_r,0,none⟩)) (x_move (.tmp rfl hρ14)) ?_))))
 have hs40:=hs39.p1
 refine st_c cb48 .func (evs2 (.tmp rfl rfl) .const) (rint_r hs40 hp2 hf28 hn_r 1073741824 (by omega) (by omega)) ?_
 rintro e w41 ⟨q43,hq44,hb45,hf46,rfl,hs42⟩
 refine ⟨_,rfl,?_⟩
 have hl48:q43.2.1.length ≤ n_r:=by have h1:=Suf.len hf46; have h2:=hp2.len; omega
 have:=atOf_bound (n:=n_r) (cur:=q43.2.1) (bad:=q43.2.2) hl48
 refine st (v:=.pointer (some ⟨g33,0 + 2,none⟩)) (fa52_1 (.tmp rfl rfl)) ?_
 have hs49:=hs42.p1
 refine st_m0 (sto3 (cs':=[.int .u64 ((q22.1.N:Nat):Int),.int .i64 q22.1.P,.int .i64 ((q43.1:Nat):Int),.slice none 0 0]) (i:=0 + 2) hs49 (v:=.int .i64 ((q43.1:Nat):Int)) (.tmp rfl rfl) (.tmp rfl rfl) rfl (Nat.le_of_ble_eq_true rfl) one1 rfl) ?_
 rintro w50 hs52
 refine c_nil (n_then (c_seq (c_region (st (v:=.pointer (some ⟨g_r,0,none⟩)) (x_move (.tmp rfl hρ14)) ?_))))
 have hs53:=hs52.p1
 refine st_c cb53 .func (evs1 (.tmp rfl rfl)) (unitems_spec hs53 hp2 hf46 (by omega) ) ?_
 rintro e w55 ⟨H57,A59,n60,c61,q54,hle58,rfl,sp62,hq63,hf64,hs56⟩
 have:=sp62.len; have:=sp62.le; have:n60 * 32 ≤ 140737488351232:=sp62.bnd
 refine ⟨_,rfl,?_⟩
 have hl65:q54.2.1.length ≤ n_r:=by have h1:=Suf.len hf64; have h2:=(hp2.mono hle58).len; omega
 have:=atOf_bound (n:=n_r) (cur:=q54.2.1) (bad:=q54.2.2) hl65
 refine st (v:=.pointer (some ⟨g33,0 + 3,none⟩)) (fa52_2 (.tmp rfl rfl)) ?_
 have hs66:=hs56.p1
 refine st_m0 (sto28 (cs':=[.int .u64 ((q22.1.N:Nat):Int),.int .i64 q22.1.P,.int .i64 ((q43.1:Nat):Int),.slice A59 n60 c61]) (i:=0 + 3) hs66 (v:=.slice A59 n60 c61) (.tmp rfl rfl) (.tmp rfl rfl) rfl (Nat.le_of_ble_eq_true rfl) one1 rfl) ?_
 rintro w67 hs69
 refine c_nil (n_then (c_region (st (v:=v_l) (x_move (.tmp rfl hρ15)) ?_)))
 refine st (v:=.agg #[.int .u64 ((q22.1.N:Nat):Int),.int .i64 q22.1.P,.int .i64 ((q43.1:Nat):Int),.slice A59 n60 c61]) (ld52 (cs:=[.int .u64 ((q22.1.N:Nat):Int),.int .i64 q22.1.P,.int .i64 ((q43.1:Nat):Int),.slice A59 n60 c61]) (.tmp rfl rfl) (hs69.at_ 0 rfl (0) rfl) rfl) ?_
 refine st_m (m_lit (n:=1) (ps:=[(0,.agg #[.int .u64 ((q22.1.N:Nat):Int),.int .i64 q22.1.P,.int .i64 ((q43.1:Nat):Int),.slice A59 n60 c61])]) (cs:=[.int .u64 ((q22.1.N:Nat):Int),.int .i64 q22.1.P,.int .i64 ((q43.1:Nat):Int),.slice A59 n60 c61]) Try.underlying26 inf52 (.cons (.tmp rfl rfl) Evp.nil) (by decide) (by decide) rfl rfl hs69) ?_
 rintro _ w71 ⟨g70,rfl,hs73⟩
 have hs74:=hs73.p3
 have hr82:kState.rep H57 (GState.mk q22.1 ((q43.1:Nat):Int) q54.1) [.int .u64 ((q22.1.N:Nat):Int),.int .i64 q22.1.P,.int .i64 ((q43.1:Nat):Int),.slice A59 n60 c61]:=⟨A59,n60,c61,rfl,b29,⟨b30,b31⟩,(show IB ((q43.1:Nat):Int) from ⟨by omega,by omega⟩),sp62⟩
 refine st_m (m_appK (d:=kState) (ys:=[(GState.mk q22.1 ((q43.1:Nat):Int) q54.1)]) (news:=[.int .u64 ((q22.1.N:Nat):Int),.int .i64 q22.1.P,.int .i64 ((q43.1:Nat):Int),.slice A59 n60 c61]) Try.underlying26 inf52 rfl hs74 ok_l (Kn.rows_mono hk_l hle58) (.tmp rfl rfl) (.tmp rfl rfl) (Kn.rows_one hr82) rfl (hs74.at_ 1 rfl 0 rfl) (by have:([(GState.mk q22.1 ((q43.1:Nat):Int) q54.1)]:List GState).length = 1:=rfl; omega) (by decide)) ?_
 rintro v75 w76 ⟨cs77,ok78,hk79,hs80⟩
 have hn81:(l ++ [(GState.mk q22.1 ((q43.1:Nat):Int) q54.1)]).length = l.length + 1:=by simp
 refine st (v:=v75) (x_assign (.tmp rfl rfl)) ?_
 refine c_nil (n_block (n_then (c_region (st (v:=.int .i64 ((i:Nat):Int)) (x_move (.tmp rfl hρ17)) ?_))))
 refine st (v:=.int .i64 (((i + 1):Nat):Int)) (x_add (k:=.i64) (a:=((i:Nat):Int)) (b:=1) (.tmp rfl rfl) .const ((w64 (by omega) (by omega)).trans (by omega))) ?_
 refine st (v:=.int .i64 (((i + 1):Nat):Int)) (x_assign (.tmp rfl rfl)) ?_
 refine c_nil ?_
 refine n_then ⟨_,_,rfl,?_,H57,(i + 1),(l ++ [(GState.mk q22.1 ((q43.1:Nat):Int) q54.1)]),v75,cs77,q54.2.1,q54.2.2,hρ14,rfl,hρ16,rfl,(hg11.trans hle58),ok78,hk79,(hp2.mono hle58),hf64,(hl65),(by omega),(by omega),(sr_up inv (by omega) (at_good hlc (by omega)) hq27 hq44 hq63 (by omega)),((((hs80.p1).drop.p1).drop.p1).p1),rfl⟩
 omega
 have hp20:¬ ((0:Int) ≤ (atOf n_r cur bad)):=of_decide_eq_false hc20
 refine c_cond_f (t:=false) (.tmp rfl (congrArg Value.bool hc20)) rfl ?_
 refine c_exit (x_then (x_then (x_here (n_then (c_seq (c_region (st (v:=v_l) (x_move (.tmp rfl hρ15)) ?_)))))))
 refine st (v:=v_l) (x_assign (.tmp rfl rfl)) ?_
 refine c_nil (n_then (c_ret (leave_ret (res_one (v:=v_l) rfl (.mk rfl rfl)) ?_)))
 have:l.length * 48 ≤ 140737488351232:=by omega
 obtain ⟨H83,A84,c85,hle86,hs87,rfl,sp88⟩:=hs18.freezeSl (d:=kState) ok_l hk_l this
 have:=sp88.len; have:=sp88.le
 exact ⟨H83,A84,l.length,c85,(l,cur,bad),(hg11.trans hle86),rfl,sp88,(sr_done inv (.inr (at_bad hlc (by omega)))),hf2,hs87⟩
 have hp19:¬ ((((i:Nat):Int):Int) < ((q4.1:Nat):Int)):=of_decide_eq_false hc19
 refine g_no (yk 12 false rfl rfl hc19) rfl ?_
 refine g_no (yk 12 false rfl rfl hc19) rfl ?_
 refine g_no (yk 12 false rfl rfl hc19) rfl ?_
 refine g_no (yk 12 false rfl rfl hc19) rfl ?_
 refine g_no (yk 12 false rfl rfl hc19) rfl ?_
 refine st (v:=.bool false) (x_pick_f (.tmp rfl (congrArg Value.bool hc19)) .const) ?_
 refine c_nil (n_then (c_cond_f (t:=false) (.tmp rfl rfl) rfl ?_))
 refine c_exit (x_then (x_then (x_here (n_then (c_seq (c_region (st (v:=v_l) (x_move (.tmp rfl hρ15)) ?_)))))))
 refine st (v:=v_l) (x_assign (.tmp rfl rfl)) ?_
 refine c_nil (n_then (c_ret (leave_ret (res_one (v:=v_l) rfl (.mk rfl rfl)) ?_)))
 have:l.length * 48 ≤ 140737488351232:=by omega
 obtain ⟨H89,A90,c91,hle92,hs93,rfl,sp94⟩:=hs18.freezeSl (d:=kState) ok_l hk_l this
 have:=sp94.len; have:=sp94.le
 exact ⟨H89,A90,l.length,c91,(l,cur,bad),(hg11.trans hle92),rfl,sp94,(sr_done inv (.inl (by omega))),hf2,hs93⟩
end Go.Proofs.Ytlfihfmmhhcigaa
