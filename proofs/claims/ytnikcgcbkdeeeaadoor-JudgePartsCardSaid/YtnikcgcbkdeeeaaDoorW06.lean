/- Steps of the proofs over the functions of this seat, printed by a program (gen.py) and checked by Lean. -/
import Derived.Test.YtnikcgcbkdeeeaaDoorW01
import Derived.Test.YtnikcgcbkdeeeaaDoorW00
import Derived.Test.YtnikcgcbkdeeeaaDoorW02
import Derived.Test.YtnikcgcbkdeeeaaDoorW05
import Derived.Test.YtnikcgcbkdeeeaaDoorW04
set_option linter.unusedVariables false
set_option linter.unusedSimpArgs false
namespace Go.Proofs.YtnikcgcbkdeeeaaDoor
open Go Go.FM Go.Proofs
attribute [local irreducible] wpList wpQuiet Code.wp Calls
set_option maxHeartbeats 8000000 in
theorem lives_spec {H:Hp} {w:World} {L:List Res} (hs:St H w (L)) (node:Int) (b_node:IB node) {A_l:Option Addr} {n_l c_l:Nat} (l:(List GEvent)) (h_l:Sl kEvent H A_l n_l c_l l) (hsm:l.length ≤ 100000):Calls Tryd.prog 24 #[.int .i64 node,.slice A_l n_l c_l] w (fun e w' => ∃ (H':Hp) (A0:Option Addr) (n0 c0:Nat),H.le H'∧e = .returned (.tuple #[.slice A0 n0 c0,.bool ((livesT node l).2)])∧Sl kLife H' A0 n0 c0 ((livesT node l).1)∧St H' w' (L)):=by
 obtain ⟨b_node1,b_node2⟩:=b_node
 have:=h_l.len; have:=h_l.le; have:n_l * 64 ≤ 140737488351232:=h_l.bnd
 refine enter (args:=[.int .i64 node,.slice A_l n_l c_l]) (N:=161) Tryd.func24 rfl rfl rfl ?_
 have hnb2:n_l * 64 ≤ 140737488351232:=h_l.bnd
 refine c_seq (c_region (st (v:=.slice none 0 0) (x_assign .const) ?_))
 refine st (v:=.bool false) (x_assign .const) ?_
 refine c_nil (n_then (c_seq (c_region (st (v:=.slice none 0 0) (x_assign .const) ?_))))
 refine c_nil (n_then (c_seq (c_seq (c_region (st (v:=.slice A_l n_l c_l) (x_move (.tmp rfl rfl)) ?_)))))
 refine st (v:=.int .i64 ((n_l:Nat):Int)) (x_len (n:=n_l) Tryd.underlying41 (.tmp rfl rfl)) ?_
 refine st (v:=.int .i64 0) (x_move .const) ?_
 refine c_nil (n_then (c_block ?_))
 have hs1:St H _ (row 34 2 (.slice none 0 0) (([]:List GItem).length) []::L):=hs.krowNil 34 kItem
 have:([]:List GItem).length = 0:=rfl
 have hs2:St H _ (row 34 2 (.slice none 0 0) (([]:List GItem).length) []::row 34 2 (.slice none 0 0) (([]:List GItem).length) []::L):=hs1.krowNil 34 kItem
 have:([]:List GItem).length = 0:=rfl
 have hs5:St H _ (row 62 9 (.slice none 0 0) (([]:List LR).length) []::row 34 2 (.slice none 0 0) (([]:List GItem).length) []::row 34 2 (.slice none 0 0) (([]:List GItem).length) []::L):=hs2.krowNil 62 kLR
 have:([]:List LR).length = 0:=rfl
 refine c_loop (fun ρ w mm => ∃ (H3:Hp) (i:Nat) (out:List LR) (v_out:Value) (c_out:List Value) (ini:List GLife) (opn:Option GLife) (S:List GItem) (vS:Value) (cS:List Value) (R:List GItem) (vR:Value) (cR:List Value),ρ 0 = .int .i64 node∧ρ 6 = v_out∧ρ 11 = .slice A_l n_l c_l∧ρ 12 = .int .i64 ((n_l:Nat):Int)∧ρ 13 = .int .i64 ((i:Nat):Int)∧(H.le H3)∧(RowOk kLR.sz v_out out.length c_out)∧(kLR.toKn.rows H3 out c_out)∧(i ≤ n_l)∧(lvRun node (l.take i) = some ⟨ini,opn⟩)∧(LRel H3 out ini opn vS vR)∧(RowOk kItem.sz vS S.length cS)∧(kItem.toKn.rows H3 S cS)∧(RowOk kItem.sz vR R.length cR)∧(kItem.toKn.rows H3 R cR)∧(S = sentO opn)∧(R = recvO opn)∧(out.length ≤ i)∧(S.length ≤ i)∧(R.length ≤ i)∧St H3 w (row 62 9 v_out out.length c_out::row 34 2 vS S.length cS::row 34 2 vR R.length cR::L)∧mm = n_l - i) _ ⟨H,0,([]:List LR),(.slice none 0 0),[],[],none,[],(.slice none 0 0),[],[],(.slice none 0 0),[],rfl,rfl,rfl,rfl,rfl,(Hp.le.refl _),(RowOk.knil kLR),(Kn.rows_nil _ _),(by omega),rfl,LRel.start,(RowOk.knil kItem),(Kn.rows_nil _ _),(RowOk.knil kItem),(Kn.rows_nil _ _),rfl,rfl,(Nat.zero_le _),(Nat.zero_le _),(Nat.zero_le _),(((hs5.p1).p2).p2),rfl⟩ ?_
 rintro ρ w mm ⟨H3,i,out,v_out,c_out,ini,opn,S,vS,cS,R,vR,cR,hρ7,hρ8,hρ9,hρ10,hρ11,hg4,ok_out,hk_out,hi,hrun,hrel,okS,hkS,okR,hkR,hS,hR,hol,hSn,hRn,hs12,rfl⟩
 refine c_seq (c_region (st (v:=.bool (decide ((((i:Nat):Int):Int) < ((n_l:Nat):Int)))) (x_lss (k:=.i64) (a:=((i:Nat):Int)) (b:=((n_l:Nat):Int)) (.tmp rfl hρ11) (.tmp rfl hρ10)) ?_))
 refine c_nil (n_then (c_seq ?_))
 rcases Bool.eq_false_or_eq_true (decide ((((i:Nat):Int):Int) < ((n_l:Nat):Int))) with hc13 | hc13
 have hp13:(((i:Nat):Int):Int) < ((n_l:Nat):Int):=of_decide_eq_true hc13
 refine c_cond_t (t:=true) (.tmp rfl (cVb hc13)) rfl ?_
 refine c_skip (n_then (c_seq (c_block (c_seq (c_region ?_)))))
 obtain ⟨e14,b15,o16,cs17,hx18,hA19,hr20,hat21⟩:=(h_l.mono hg4).get (i:=i) (by omega)
 obtain ⟨A29,n30,c31,rfl,b22,b23,⟨b24,b25⟩,b26,⟨b27,b28⟩,hy32⟩:=hr20
 have:=hy32.len; have:=hy32.bnd; have:=hy32.le
 have hat21x:∀ {w:World} {L:List Res},St H3 w L → At w ⟨b15,o16 + i * 6,none⟩ [.int .u8 ((e14.Kind:Nat):Int),.int .u64 ((e14.View.ID.N:Nat):Int),.int .i64 e14.View.ID.P,.int .u16 ((e14.View.Set:Nat):Int),.int .i64 e14.From,.slice A29 n30 c31]:=fun h => hat21 h
 refine st (v:=.pointer (some ⟨b15,(o16 + i * 6),none⟩)) (ixo41 (.tmp rfl hρ9) hA19 (i:=((i:Nat):Int)) (.tmp rfl hρ11) (by omega) (by omega) (by omega)) ?_
 refine st (v:=.agg #[.int .u8 ((e14.Kind:Nat):Int),.int .u64 ((e14.View.ID.N:Nat):Int),.int .i64 e14.View.ID.P,.int .u16 ((e14.View.Set:Nat):Int),.int .i64 e14.From,.slice A29 n30 c31]) (ld49 (cs:=[.int .u8 ((e14.Kind:Nat):Int),.int .u64 ((e14.View.ID.N:Nat):Int),.int .i64 e14.View.ID.P,.int .u16 ((e14.View.Set:Nat):Int),.int .i64 e14.From,.slice A29 n30 c31]) (.tmp rfl rfl) ((hat21x hs12).sub 0 rfl) rfl) ?_
 refine st_m (al49 (cs:=[.int .u8 0,.int .u64 0,.int .i64 0,.int .u16 0,.int .i64 0,.slice none 0 0]) hs12 rfl) ?_
 rintro _ w34 ⟨g33,rfl,hs36⟩
 refine st_m0 (sto49 (cs':=[.int .u8 ((e14.Kind:Nat):Int),.int .u64 ((e14.View.ID.N:Nat):Int),.int .i64 e14.View.ID.P,.int .u16 ((e14.View.Set:Nat):Int),.int .i64 e14.From,.slice A29 n30 c31]) (i:=0) hs36 (v:=.agg #[.int .u8 ((e14.Kind:Nat):Int),.int .u64 ((e14.View.ID.N:Nat):Int),.int .i64 e14.View.ID.P,.int .u16 ((e14.View.Set:Nat):Int),.int .i64 e14.From,.slice A29 n30 c31]) (.tmp rfl rfl) (.tmp rfl rfl) rfl (Nat.le_of_ble_eq_true rfl) (oneA rfl) rfl) ?_
 rintro w37 hs39
 refine c_nil (n_then (c_seq (c_seq (c_region (st (v:=.pointer (some ⟨g33,0 + 0,none⟩)) (fa49_0 (.tmp rfl rfl)) ?_)))))
 refine st (v:=.int .u8 ((e14.Kind:Nat):Int)) (ld5 (.tmp rfl rfl) (hs39.cell 0 rfl (0 + 0) rfl)) ?_
 refine st (v:=.bool (decide ((((e14.Kind:Nat):Int):Int) = 1))) (x_eql (k:=.u8) (a:=((e14.Kind:Nat):Int)) (b:=1) (.tmp rfl rfl) .const) ?_
 refine c_nil (n_then ?_)
 rcases Bool.eq_false_or_eq_true (decide ((((e14.Kind:Nat):Int):Int) = 1)) with hc40 | hc40
 have hp40:(((e14.Kind:Nat):Int):Int) = 1:=of_decide_eq_true hc40
 refine c_cond_t (t:=true) (.tmp rfl (cVb hc40)) rfl ?_
 refine c_seq (c_seq (q_region mixed hs39 (by kernel_rfl) ?_))
 refine q_st (v:=.pointer (some ⟨g33,0 + 1,none⟩)) (fun w hs => (fa49_1 (.tmp rfl rfl))) ?_
 refine q_st (v:=.pointer (some ⟨g33,0 + 1 + 2,none⟩)) (fun w hs => (fa47_1 (.tmp rfl rfl))) ?_
 refine q_st (v:=.int .u16 ((e14.View.Set:Nat):Int)) (fun w hs => (ld45 (.tmp rfl rfl) (hs.cell 0 rfl (0 + 1 + 2) rfl))) ?_
 refine q_st (v:=.int .i64 node) (fun w hs => (x_move (.tmp rfl hρ7))) ?_
 refine q_c (v:=.bool (has e14.View.Set node)) cb28 .func (evs2 (.tmp rfl rfl) (.tmp rfl rfl)) (fun w hs => has_spec hs e14.View.Set node b26 (by omega)) ?_
 refine q_st (v:=.bool (!(has e14.View.Set node))) (fun w hs => (x_not (.tmp rfl rfl))) ?_
 refine q_st (v:=.bool (!(has e14.View.Set node))) (fun w hs => (x_move (.tmp rfl rfl))) ?_
 rcases Bool.eq_false_or_eq_true (has e14.View.Set node) with hc41 | hc41
 refine q_yes (yl (dj:=26) (b:=false) rfl rfl (cVb (by rw [hc41]; rfl))) ?_
 refine q_st (v:=v_out) (fun w hs => (x_move (.tmp rfl hρ8))) ?_
 refine q_yes (yl (dj:=26) (b:=false) rfl rfl (cVb (by rw [hc41]; rfl))) ?_
 obtain ⟨A42,c43,hv44,hc45⟩:=ok_out.slice
 refine q_st (v:=.int .i64 ((out.length:Nat):Int)) (fun w hs => (x_len (n:=out.length) Tryd.underlying58 (.tmp rfl hv44))) ?_
 refine q_yes (yl (dj:=26) (b:=false) rfl rfl (cVb (by rw [hc41]; rfl))) ?_
 refine q_st (v:=.bool (decide ((0:Int) < ((out.length:Nat):Int)))) (fun w hs => (x_gtr (k:=.i64) (a:=((out.length:Nat):Int)) (b:=0) (.tmp rfl rfl) .const)) ?_
 refine q_yes (yl (dj:=26) (b:=false) rfl rfl (cVb (by rw [hc41]; rfl))) ?_
 refine q_st (v:=.bool (decide ((0:Int) < ((out.length:Nat):Int)))) (fun w hs => (x_move (.tmp rfl rfl))) ?_
 rcases Bool.eq_false_or_eq_true (decide ((0:Int) < ((out.length:Nat):Int))) with hc46 | hc46
 have hp46:(0:Int) < ((out.length:Nat):Int):=of_decide_eq_true hc46
 refine q_yes (yk 30 true rfl rfl hc46) ?_
 refine q_st (v:=.pointer (some ⟨g33,0 + 1,none⟩)) (fun w hs => (fa49_1 (.tmp rfl rfl))) ?_
 refine q_yes (yk 30 true rfl rfl hc46) ?_
 refine q_st (v:=.pointer (some ⟨g33,0 + 1 + 0,none⟩)) (fun w hs => (fa47_0 (.tmp rfl rfl))) ?_
 refine q_yes (yk 30 true rfl rfl hc46) ?_
 refine q_st (v:=.agg #[.int .u64 ((e14.View.ID.N:Nat):Int),.int .i64 e14.View.ID.P]) (fun w hs => (ld44 (cs:=[.int .u64 ((e14.View.ID.N:Nat):Int),.int .i64 e14.View.ID.P]) (.tmp rfl rfl) (hs.at_ 0 rfl (0 + 1 + 0) rfl) rfl)) ?_
 refine q_yes (yk 30 true rfl rfl hc46) ?_
 refine q_st (v:=v_out) (fun w hs => (x_move (.tmp rfl hρ8))) ?_
 refine q_yes (yk 30 true rfl rfl hc46) ?_
 refine q_st (v:=v_out) (fun w hs => (x_move (.tmp rfl hρ8))) ?_
 refine q_yes (yk 30 true rfl rfl hc46) ?_
 obtain ⟨A47,c48,hv49,hc50⟩:=ok_out.slice
 refine q_st (v:=.int .i64 ((out.length:Nat):Int)) (fun w hs => (x_len (n:=out.length) Tryd.underlying58 (.tmp rfl hv49))) ?_
 refine q_yes (yk 30 true rfl rfl hc46) ?_
 refine q_st (v:=.int .i64 (((out.length:Nat):Int) - 1)) (fun w hs => (x_sub (k:=.i64) (a:=((out.length:Nat):Int)) (b:=1) (.tmp rfl rfl) .const (w64 (by omega) (by omega)))) ?_
 refine q_yes (yk 30 true rfl rfl hc46) ?_
 obtain ⟨g51,c52,hv53⟩:=ok_out.pos (by omega)
 obtain ⟨e54,cs55,hx56,hr57,hsub58⟩:=Kn.rows_get (i:=(((out.length:Nat):Int) - 1).toNat) hk_out (by omega)
 obtain ⟨rfl,⟨b59,b60⟩,b61,⟨b62,b63⟩,b64,b65,b66,⟨b67,b68⟩,b69,⟨b70,b71⟩⟩:=hr57
 obtain ⟨f_e54,hop_e54,hvs_e54,hvr_e54,hnd_e54,hvw_e54,hsf_e54,hnx_e54,hs0_e54,hs1_e54⟩:=rel_last hrel hx56 (by omega)
 have hSl_e54:S = f_e54.sent:=by rw [hS,hop_e54]; rfl
 have hRl_e54:R = f_e54.recv:=by rw [hR,hop_e54]; rfl
 have hRn_e54:R.length = f_e54.recv.length:=by rw [hRl_e54]
 refine q_st (v:=.pointer (some ⟨g51,(((((out.length:Nat):Int) - 1).toNat) * 9),none⟩)) (fun w hs => (ixo58 (.tmp rfl hv53) rfl (i:=(((out.length:Nat):Int) - 1)) (.tmp rfl rfl) (by omega) (by omega) (by omega))) ?_
 refine q_yes (yk 30 true rfl rfl hc46) ?_
 refine q_st (v:=.pointer (some ⟨g51,(((((out.length:Nat):Int) - 1).toNat) * 9) + 1,none⟩)) (fun w hs => (fa62_1 (.tmp rfl rfl))) ?_
 refine q_yes (yk 30 true rfl rfl hc46) ?_
 refine q_st (v:=.pointer (some ⟨g51,(((((out.length:Nat):Int) - 1).toNat) * 9) + 1 + 0,none⟩)) (fun w hs => (fa47_0 (.tmp rfl rfl))) ?_
 refine q_yes (yk 30 true rfl rfl hc46) ?_
 refine q_st (v:=.agg #[.int .u64 ((e54.view.ID.N:Nat):Int),.int .i64 e54.view.ID.P]) (fun w hs => (ld44 (cs:=[.int .u64 ((e54.view.ID.N:Nat):Int),.int .i64 e54.view.ID.P]) (.tmp rfl rfl) ((hs.rowAt 1 rfl hv53 (((((out.length:Nat):Int) - 1).toNat) * 9) hsub58).sub 1 rfl) rfl)) ?_
 refine q_yes (yk 30 true rfl rfl hc46) ?_
 refine q_c (v:=.bool (decide (0 < cmpV e14.View.ID.N e14.View.ID.P e54.view.ID.N e54.view.ID.P))) cb29 .func (evs2 (.tmp rfl rfl) (.tmp rfl rfl)) (fun w hs => above_spec hs e14.View.ID.N e14.View.ID.P e54.view.ID.N e54.view.ID.P) ?_
 refine q_yes (yk 30 true rfl rfl hc46) ?_
 refine q_st (v:=.bool (!(decide (0 < cmpV e14.View.ID.N e14.View.ID.P e54.view.ID.N e54.view.ID.P)))) (fun w hs => (x_not (.tmp rfl rfl))) ?_
 refine q_yes (yl (dj:=26) (b:=false) rfl rfl (cVb (by rw [hc41]; rfl))) ?_
 refine q_st (v:=.bool (!(decide (0 < cmpV e14.View.ID.N e14.View.ID.P e54.view.ID.N e54.view.ID.P)))) (fun w hs => (x_pick_t (.tmp rfl (cVb hc46)) (.tmp rfl rfl))) ?_
 refine q_st (v:=.bool (!(decide (0 < cmpV e14.View.ID.N e14.View.ID.P e54.view.ID.N e54.view.ID.P)))) (fun w hs => (x_pick_f (.tmp rfl (cVb (by rw [hc41]; rfl))) (.tmp rfl rfl))) ?_
 refine q_st (v:=.bool (!(decide (0 < cmpV e14.View.ID.N e14.View.ID.P e54.view.ID.N e54.view.ID.P)))) (fun w hs => (x_move (.tmp rfl rfl))) ?_
 rcases Bool.eq_false_or_eq_true (decide (0 < cmpV e14.View.ID.N e14.View.ID.P e54.view.ID.N e54.view.ID.P)) with hc72 | hc72
 refine q_yes (yl (dj:=46) (b:=false) rfl rfl (cVb (by rw [hc72]; rfl))) ?_
 refine q_st (v:=.pointer (some ⟨g33,0 + 1,none⟩)) (fun w hs => (fa49_1 (.tmp rfl rfl))) ?_
 refine q_yes (yl (dj:=46) (b:=false) rfl rfl (cVb (by rw [hc72]; rfl))) ?_
 refine q_st (v:=.pointer (some ⟨g33,0 + 1 + 0,none⟩)) (fun w hs => (fa47_0 (.tmp rfl rfl))) ?_
 refine q_yes (yl (dj:=46) (b:=false) rfl rfl (cVb (by rw [hc72]; rfl))) ?_
 refine q_st (v:=.pointer (some ⟨g33,0 + 1 + 0 + 0,none⟩)) (fun w hs => (fa44_0 (.tmp rfl rfl))) ?_
 refine q_yes (yl (dj:=46) (b:=false) rfl rfl (cVb (by rw [hc72]; rfl))) ?_
 refine q_st (v:=.int .u64 ((e14.View.ID.N:Nat):Int)) (fun w hs => (ld42 (.tmp rfl rfl) (hs.cell 0 rfl (0 + 1 + 0 + 0) rfl))) ?_
 refine q_yes (yl (dj:=46) (b:=false) rfl rfl (cVb (by rw [hc72]; rfl))) ?_
 refine q_st (v:=.bool (decide ((((e14.View.ID.N:Nat):Int):Int) = 0))) (fun w hs => (x_eql (k:=.u64) (a:=((e14.View.ID.N:Nat):Int)) (b:=0) (.tmp rfl rfl) .const)) ?_
 refine q_st (v:=.bool (decide ((((e14.View.ID.N:Nat):Int):Int) = 0))) (fun w hs => (x_pick_f (.tmp rfl (cVb (by rw [hc72]; rfl))) (.tmp rfl rfl))) ?_
 refine q_nil ?_
 intro w hs73
 refine n_then ?_
 rcases Bool.eq_false_or_eq_true (decide ((((e14.View.ID.N:Nat):Int):Int) = 0)) with hc74 | hc74
 have hp74:(((e14.View.ID.N:Nat):Int):Int) = 0:=of_decide_eq_true hc74
 refine c_cond_t (t:=true) (.tmp rfl (cVb hc74)) rfl ?_
 refine c_seq (c_region (st (v:=.slice none 0 0) (x_assign .const) ?_))
 refine st (v:=.bool false) (x_assign .const) ?_
 refine c_nil (n_then (c_ret (r_then (r_then (r_block (r_then (r_then (r_block (r_then (leave_ret (res_two (v:=.slice none 0 0) (u:=.bool false) rfl (.mk rfl rfl) (.mk rfl rfl)) ?_))))))))))
 have hans75:livesT node l = ([],false):=lives_no (lvRun_next hx18 hrun (lv_vbad (by omega) (.inr (by omega))))
 rw [hans75]
 exact ⟨H3,none,0,0,hg4,rfl,(Sl.nil _ _ none),hs73.drop.drop.drop.drop⟩
 have hp74:¬ ((((e14.View.ID.N:Nat):Int):Int) = 0):=of_decide_eq_false hc74
 refine c_cond_f (t:=false) (.tmp rfl (cVb hc74)) rfl ?_
 refine c_skip (n_then (c_seq (c_seq (c_region (st (v:=v_out) (x_move (.tmp rfl hρ8)) ?_)))))
 obtain ⟨A76,c77,hv78,hc79⟩:=ok_out.slice
 refine st (v:=.int .i64 ((out.length:Nat):Int)) (x_len (n:=out.length) Tryd.underlying58 (.tmp rfl hv78)) ?_
 refine st (v:=.bool (decide ((0:Int) < ((out.length:Nat):Int)))) (x_gtr (k:=.i64) (a:=((out.length:Nat):Int)) (b:=0) (.tmp rfl rfl) .const) ?_
 refine c_nil (n_then (c_cond_t (t:=true) (.tmp rfl (cVb hc46)) rfl ?_))
 refine c_region (st (v:=v_out) (x_move (.tmp rfl hρ8)) ?_)
 refine st (v:=v_out) (x_move (.tmp rfl hρ8)) ?_
 obtain ⟨A80,c81,hv82,hc83⟩:=ok_out.slice
 refine st (v:=.int .i64 ((out.length:Nat):Int)) (x_len (n:=out.length) Tryd.underlying58 (.tmp rfl hv82)) ?_
 refine st (v:=.int .i64 (((out.length:Nat):Int) - 1)) (x_sub (k:=.i64) (a:=((out.length:Nat):Int)) (b:=1) (.tmp rfl rfl) .const (w64 (by omega) (by omega))) ?_
 refine st (v:=.pointer (some ⟨g33,0 + 1,none⟩)) (fa49_1 (.tmp rfl rfl)) ?_
 refine st (v:=.pointer (some ⟨g33,0 + 1 + 0,none⟩)) (fa47_0 (.tmp rfl rfl)) ?_
 refine st (v:=.agg #[.int .u64 ((e14.View.ID.N:Nat):Int),.int .i64 e14.View.ID.P]) (ld44 (cs:=[.int .u64 ((e14.View.ID.N:Nat):Int),.int .i64 e14.View.ID.P]) (.tmp rfl rfl) (hs73.at_ 0 rfl (0 + 1 + 0) rfl) rfl) ?_
 obtain ⟨g84,c85,hv86⟩:=ok_out.pos (by omega)
 refine st (v:=.pointer (some ⟨g84,(((((out.length:Nat):Int) - 1).toNat) * 9),none⟩)) (ixo58 (.tmp rfl hv86) rfl (i:=(((out.length:Nat):Int) - 1)) (.tmp rfl rfl) (by omega) (by omega) (by omega)) ?_
 refine st (v:=.pointer (some ⟨g84,(((((out.length:Nat):Int) - 1).toNat) * 9) + 7,none⟩)) (fa62_5 (.tmp rfl rfl)) ?_
 have hs87:=hs73.p1
 have hl93:((((out.length:Nat):Int) - 1).toNat) * 9 + 9 ≤ c_out.length:=by have h1:=(hk_out).1; have h2:kLR.sz = 9:=rfl; rw [h2] at h1; omega
 have hr92:kLR.rep H3 (LR.mk e54.node e54.view e54.vs e54.vr e54.safe e14.View.ID) [.int .i64 e54.node,.int .u64 ((e54.view.ID.N:Nat):Int),.int .i64 e54.view.ID.P,.int .u16 ((e54.view.Set:Nat):Int),e54.vs,e54.vr,.int .i64 e54.safe,.int .u64 ((e14.View.ID.N:Nat):Int),.int .i64 e14.View.ID.P]:=⟨rfl,⟨b59,b60⟩,b61,⟨b62,b63⟩,b64,b65,b66,⟨b67,b68⟩,b23,⟨b24,b25⟩⟩
 refine st_m0 (stor44 hs87 hv86 (i:=(((((out.length:Nat):Int) - 1).toNat) * 9) + 7) (xs':=splice c_out (((((out.length:Nat):Int) - 1).toNat) * 9) [.int .i64 e54.node,.int .u64 ((e54.view.ID.N:Nat):Int),.int .i64 e54.view.ID.P,.int .u16 ((e54.view.Set:Nat):Int),e54.vs,e54.vr,.int .i64 e54.safe,.int .u64 ((e14.View.ID.N:Nat):Int),.int .i64 e14.View.ID.P]) (.tmp rfl rfl) (u:=.agg #[.int .u64 ((e14.View.ID.N:Nat):Int),.int .i64 e14.View.ID.P]) (.tmp rfl rfl) rfl (by omega) (oneA rfl) (splice_part (c:=[.int .i64 e54.node,.int .u64 ((e54.view.ID.N:Nat):Int),.int .i64 e54.view.ID.P,.int .u16 ((e54.view.Set:Nat):Int),e54.vs,e54.vr,.int .i64 e54.safe,.int .u64 ((e54.next.N:Nat):Int),.int .i64 e54.next.P]) (k:=7) hsub58 (Nat.le_of_ble_eq_true rfl) (by simpa using hl93))) ?_
 rintro w88 hs89
 have hk91:=Kn.rows_set (d:=kLR.toKn) hk_out (i:=((((out.length:Nat):Int) - 1).toNat)) (by omega) hr92
 have ok90:=ok_out.splice (i:=((((out.length:Nat):Int) - 1).toNat) * 9) (vs:=[.int .i64 e54.node,.int .u64 ((e54.view.ID.N:Nat):Int),.int .i64 e54.view.ID.P,.int .u16 ((e54.view.Set:Nat):Int),e54.vs,e54.vr,.int .i64 e54.safe,.int .u64 ((e14.View.ID.N:Nat):Int),.int .i64 e14.View.ID.P]) (by simpa using hl93)
 have hn94:(out.set ((((out.length:Nat):Int) - 1).toNat) (LR.mk e54.node e54.view e54.vs e54.vr e54.safe e14.View.ID)).length = out.length:=List.length_set
 have ok95:RowOk kLR.sz v_out (out.set ((((out.length:Nat):Int) - 1).toNat) (LR.mk e54.node e54.view e54.vs e54.vr e54.safe e14.View.ID)).length (splice c_out (((((out.length:Nat):Int) - 1).toNat) * 9) [.int .i64 e54.node,.int .u64 ((e54.view.ID.N:Nat):Int),.int .i64 e54.view.ID.P,.int .u16 ((e54.view.Set:Nat):Int),e54.vs,e54.vr,.int .i64 e54.safe,.int .u64 ((e14.View.ID.N:Nat):Int),.int .i64 e14.View.ID.P]):=by rw [hn94]; exact ok90
 have hs96:St H3 w88 (row 62 9 v_out ((out.set ((((out.length:Nat):Int) - 1).toNat) (LR.mk e54.node e54.view e54.vs e54.vr e54.safe e14.View.ID)).length) (splice c_out (((((out.length:Nat):Int) - 1).toNat) * 9) [.int .i64 e54.node,.int .u64 ((e54.view.ID.N:Nat):Int),.int .i64 e54.view.ID.P,.int .u16 ((e54.view.Set:Nat):Int),e54.vs,e54.vr,.int .i64 e54.safe,.int .u64 ((e14.View.ID.N:Nat):Int),.int .i64 e14.View.ID.P])::obj g33 49 [.int .u8 ((e14.Kind:Nat):Int),.int .u64 ((e14.View.ID.N:Nat):Int),.int .i64 e14.View.ID.P,.int .u16 ((e14.View.Set:Nat):Int),.int .i64 e14.From,.slice A29 n30 c31]::row 34 2 vS S.length cS::row 34 2 vR R.length cR::L):=by rw [hn94]; exact hs89
 refine c_nil (n_then (c_seq (c_region ?_)))
 have hs97:=hs96.p2
 have:S.length * 32 ≤ 140737488351232:=by omega
 obtain ⟨H98,A99,c100,hle101,hs102,rfl,sp103⟩:=hs97.freezeSl (d:=kItem) okS hkS this
 have:=sp103.len; have:=sp103.le
 have hs104:=hs102.p2
 have:R.length * 32 ≤ 140737488351232:=by omega
 obtain ⟨H105,A106,c107,hle108,hs109,rfl,sp110⟩:=hs104.freezeSl (d:=kItem) okR (Kn.rows_mono hkR hle101) this
 have:=sp110.len; have:=sp110.le
 have hs111:St H105 _ (row 34 2 (.slice none 0 0) (([]:List GItem).length) []::row 62 9 v_out ((out.set ((((out.length:Nat):Int) - 1).toNat) (LR.mk e54.node e54.view e54.vs e54.vr e54.safe e14.View.ID)).length) (splice c_out (((((out.length:Nat):Int) - 1).toNat) * 9) [.int .i64 e54.node,.int .u64 ((e54.view.ID.N:Nat):Int),.int .i64 e54.view.ID.P,.int .u16 ((e54.view.Set:Nat):Int),e54.vs,e54.vr,.int .i64 e54.safe,.int .u64 ((e14.View.ID.N:Nat):Int),.int .i64 e14.View.ID.P])::obj g33 49 [.int .u8 ((e14.Kind:Nat):Int),.int .u64 ((e14.View.ID.N:Nat):Int),.int .i64 e14.View.ID.P,.int .u16 ((e14.View.Set:Nat):Int),.int .i64 e14.From,.slice A29 n30 c31]::L):=hs109.krowNil 34 kItem
 have:([]:List GItem).length = 0:=rfl
 have hs112:St H105 _ (row 34 2 (.slice none 0 0) (([]:List GItem).length) []::row 34 2 (.slice none 0 0) (([]:List GItem).length) []::row 62 9 v_out ((out.set ((((out.length:Nat):Int) - 1).toNat) (LR.mk e54.node e54.view e54.vs e54.vr e54.safe e14.View.ID)).length) (splice c_out (((((out.length:Nat):Int) - 1).toNat) * 9) [.int .i64 e54.node,.int .u64 ((e54.view.ID.N:Nat):Int),.int .i64 e54.view.ID.P,.int .u16 ((e54.view.Set:Nat):Int),e54.vs,e54.vr,.int .i64 e54.safe,.int .u64 ((e14.View.ID.N:Nat):Int),.int .i64 e14.View.ID.P])::obj g33 49 [.int .u8 ((e14.Kind:Nat):Int),.int .u64 ((e14.View.ID.N:Nat):Int),.int .i64 e14.View.ID.P,.int .u16 ((e14.View.Set:Nat):Int),.int .i64 e14.From,.slice A29 n30 c31]::L):=hs111.krowNil 34 kItem
 have:([]:List GItem).length = 0:=rfl
 skip
 refine st (v:=v_out) (x_move (.tmp rfl hρ8)) ?_
 refine st (v:=.int .i64 node) (x_move (.tmp rfl hρ7)) ?_
 refine st (v:=.pointer (some ⟨g33,0 + 1,none⟩)) (fa49_1 (.tmp rfl rfl)) ?_
 refine st (v:=.agg #[.int .u64 ((e14.View.ID.N:Nat):Int),.int .i64 e14.View.ID.P,.int .u16 ((e14.View.Set:Nat):Int)]) (ld47 (cs:=[.int .u64 ((e14.View.ID.N:Nat):Int),.int .i64 e14.View.ID.P,.int .u16 ((e14.View.Set:Nat):Int)]) (.tmp rfl rfl) (hs112.at_ 3 rfl (0 + 1) rfl) rfl) ?_
 refine st (v:=.agg #[.int .i64 node,.int .u64 ((e14.View.ID.N:Nat):Int),.int .i64 e14.View.ID.P,.int .u16 ((e14.View.Set:Nat):Int),.slice none 0 0,.slice none 0 0,.int .i64 0,.int .u64 0,.int .i64 0]) (bl62 (ps:=[(0,.int .i64 node),(1,.agg #[.int .u64 ((e14.View.ID.N:Nat):Int),.int .i64 e14.View.ID.P,.int .u16 ((e14.View.Set:Nat):Int)])]) (.cons (.tmp rfl rfl) (.cons (.tmp rfl rfl) Evp.nil)) rfl) ?_
 refine st_m (m_lit (n:=1) (ps:=[(0,.agg #[.int .i64 node,.int .u64 ((e14.View.ID.N:Nat):Int),.int .i64 e14.View.ID.P,.int .u16 ((e14.View.Set:Nat):Int),.slice none 0 0,.slice none 0 0,.int .i64 0,.int .u64 0,.int .i64 0])]) (cs:=[.int .i64 node,.int .u64 ((e14.View.ID.N:Nat):Int),.int .i64 e14.View.ID.P,.int .u16 ((e14.View.Set:Nat):Int),.slice none 0 0,.slice none 0 0,.int .i64 0,.int .u64 0,.int .i64 0]) Tryd.underlying58 inf62 (.cons (.tmp rfl rfl) Evp.nil) (by decide) (by decide) rfl rfl hs112) ?_
 rintro _ w114 ⟨g113,rfl,hs116⟩
 have hs117:=hs116.p3
 have hr125:kLR.rep H105 (LR.mk node e14.View (.slice none 0 0) (.slice none 0 0) 0 (GViewID.mk 0 0)) [.int .i64 node,.int .u64 ((e14.View.ID.N:Nat):Int),.int .i64 e14.View.ID.P,.int .u16 ((e14.View.Set:Nat):Int),.slice none 0 0,.slice none 0 0,.int .i64 0,.int .u64 0,.int .i64 0]:=⟨rfl,⟨b_node1,b_node2⟩,b23,⟨b24,b25⟩,b26,rfl,rfl,(show IB 0 from ⟨by omega,by omega⟩),(show 0 < 18446744073709551616 from by omega),(show IB 0 from ⟨by omega,by omega⟩)⟩
 refine st_m (m_appK (d:=kLR) (ys:=[(LR.mk node e14.View (.slice none 0 0) (.slice none 0 0) 0 (GViewID.mk 0 0))]) (news:=[.int .i64 node,.int .u64 ((e14.View.ID.N:Nat):Int),.int .i64 e14.View.ID.P,.int .u16 ((e14.View.Set:Nat):Int),.slice none 0 0,.slice none 0 0,.int .i64 0,.int .u64 0,.int .i64 0]) Tryd.underlying58 inf62 rfl hs117 ok95 (Kn.rows_mono (Kn.rows_mono hk91 hle101) hle108) (.tmp rfl rfl) (.tmp rfl rfl) (Kn.rows_one hr125) rfl (hs117.at_ 1 rfl 0 rfl) (by have:([(LR.mk node e14.View (.slice none 0 0) (.slice none 0 0) 0 (GViewID.mk 0 0))]:List LR).length = 1:=rfl; omega) (by decide)) ?_
 rintro v118 w119 ⟨cs120,ok121,hk122,hs123⟩
 have hn124:((out.set ((((out.length:Nat):Int) - 1).toNat) (LR.mk e54.node e54.view e54.vs e54.vr e54.safe e14.View.ID)) ++ [(LR.mk node e14.View (.slice none 0 0) (.slice none 0 0) 0 (GViewID.mk 0 0))]).length = (out.set ((((out.length:Nat):Int) - 1).toNat) (LR.mk e54.node e54.view e54.vs e54.vr e54.safe e14.View.ID)).length + 1:=by simp
 refine st (v:=v118) (x_assign (.tmp rfl rfl)) ?_
 refine c_nil (n_then (c_exit (x_then (x_here (n_then (c_region (st (v:=.int .i64 (((i + 1):Nat):Int)) (x_add (k:=.i64) (a:=((i:Nat):Int)) (b:=1) (.tmp rfl hρ11) .const ((w64 (by omega) (by omega)).trans (by omega))) ?_)))))))
 refine st (v:=.int .i64 (((i + 1):Nat):Int)) (x_move (.tmp rfl rfl)) ?_
 refine c_nil ?_
 refine n_then ⟨_,_,rfl,?_,H105,(i + 1),((out.set ((((out.length:Nat):Int) - 1).toNat) (LR.mk e54.node e54.view e54.vs e54.vr e54.safe e14.View.ID)) ++ [(LR.mk node e14.View (.slice none 0 0) (.slice none 0 0) 0 (GViewID.mk 0 0))]),v118,cs120,(ini ++ [(GLife.mk f_e54.node f_e54.view f_e54.sent f_e54.recv f_e54.safe e14.View.ID)]),(some (lvNew node e14.View)),([]:List GItem),(.slice none 0 0),[],([]:List GItem),(.slice none 0 0),[],hρ7,rfl,hρ9,hρ10,rfl,((hg4.trans hle101).trans hle108),ok121,hk122,(by omega),(lvRun_next hx18 hrun (lv_view1 (by omega) hop_e54 hc41 (by omega) (by rw [← hvw_e54]; exact of_decide_eq_true hc72))),(rel_view1 hrel hop_e54 hx56 (by omega) (hle101.trans hle108) (by rw [← hSl_e54]; exact (sp103.mono hle108)) (by rw [← hRl_e54]; exact sp110) rfl rfl),(RowOk.knil kItem),(Kn.rows_nil _ _),(RowOk.knil kItem),(Kn.rows_nil _ _),rfl,rfl,(by first | omega | (simp only [List.length_append,List.length_singleton,List.length_set]; omega)),(Nat.zero_le _),(Nat.zero_le _),(((((hs123.p1).drop.p3).drop.p1).p2).p2),rfl⟩
 omega
 refine q_no (yl (dj:=46) (b:=true) rfl rfl (cVb (by rw [hc72]; rfl))) rfl ?_
 refine q_no (yl (dj:=46) (b:=true) rfl rfl (cVb (by rw [hc72]; rfl))) rfl ?_
 refine q_no (yl (dj:=46) (b:=true) rfl rfl (cVb (by rw [hc72]; rfl))) rfl ?_
 refine q_no (yl (dj:=46) (b:=true) rfl rfl (cVb (by rw [hc72]; rfl))) rfl ?_
 refine q_no (yl (dj:=46) (b:=true) rfl rfl (cVb (by rw [hc72]; rfl))) rfl ?_
 refine q_st (v:=.bool true) (fun w hs => (x_pick_t (.tmp rfl (cVb (by rw [hc72]; rfl))) .const)) ?_
 refine q_nil ?_
 intro w hs126
 refine n_then (c_cond_t (t:=true) (.tmp rfl rfl) rfl ?_)
 refine c_seq (c_region (st (v:=.slice none 0 0) (x_assign .const) ?_))
 refine st (v:=.bool false) (x_assign .const) ?_
 refine c_nil (n_then (c_ret (r_then (r_then (r_block (r_then (r_then (r_block (r_then (leave_ret (res_two (v:=.slice none 0 0) (u:=.bool false) rfl (.mk rfl rfl) (.mk rfl rfl)) ?_))))))))))
 have hans127:livesT node l = ([],false):=lives_no (lvRun_next hx18 hrun (lv_vlow (by omega) hop_e54 (by rw [← hvw_e54]; exact of_decide_eq_false hc72)))
 rw [hans127]
 exact ⟨H3,none,0,0,hg4,rfl,(Sl.nil _ _ none),hs126.drop.drop.drop.drop⟩
 have hp46:¬ ((0:Int) < ((out.length:Nat):Int)):=of_decide_eq_false hc46
 refine q_no (yk 30 false rfl rfl hc46) rfl ?_
 refine q_no (yk 30 false rfl rfl hc46) rfl ?_
 refine q_no (yk 30 false rfl rfl hc46) rfl ?_
 refine q_no (yk 30 false rfl rfl hc46) rfl ?_
 refine q_no (yk 30 false rfl rfl hc46) rfl ?_
 refine q_no (yk 30 false rfl rfl hc46) rfl ?_
 refine q_no (yk 30 false rfl rfl hc46) rfl ?_
 refine q_no (yk 30 false rfl rfl hc46) rfl ?_
 refine q_no (yk 30 false rfl rfl hc46) rfl ?_
 refine q_no (yk 30 false rfl rfl hc46) rfl ?_
 refine q_no (yk 30 false rfl rfl hc46) rfl ?_
 refine q_no (yk 30 false rfl rfl hc46) rfl ?_
 refine q_no (yk 30 false rfl rfl hc46) rfl ?_
 refine q_yes (yl (dj:=26) (b:=false) rfl rfl (cVb (by rw [hc41]; rfl))) ?_
 refine q_st (v:=.bool false) (fun w hs => (x_pick_f (.tmp rfl (cVb hc46)) .const)) ?_
 refine q_st (v:=.bool false) (fun w hs => (x_pick_f (.tmp rfl (cVb (by rw [hc41]; rfl))) (.tmp rfl rfl))) ?_
 refine q_st (v:=.bool false) (fun w hs => (x_move (.tmp rfl rfl))) ?_
 refine q_yes (yl (dj:=46) (b:=false) rfl rfl rfl) ?_
 refine q_st (v:=.pointer (some ⟨g33,0 + 1,none⟩)) (fun w hs => (fa49_1 (.tmp rfl rfl))) ?_
 refine q_yes (yl (dj:=46) (b:=false) rfl rfl rfl) ?_
 refine q_st (v:=.pointer (some ⟨g33,0 + 1 + 0,none⟩)) (fun w hs => (fa47_0 (.tmp rfl rfl))) ?_
 refine q_yes (yl (dj:=46) (b:=false) rfl rfl rfl) ?_
 refine q_st (v:=.pointer (some ⟨g33,0 + 1 + 0 + 0,none⟩)) (fun w hs => (fa44_0 (.tmp rfl rfl))) ?_
 refine q_yes (yl (dj:=46) (b:=false) rfl rfl rfl) ?_
 refine q_st (v:=.int .u64 ((e14.View.ID.N:Nat):Int)) (fun w hs => (ld42 (.tmp rfl rfl) (hs.cell 0 rfl (0 + 1 + 0 + 0) rfl))) ?_
 refine q_yes (yl (dj:=46) (b:=false) rfl rfl rfl) ?_
 refine q_st (v:=.bool (decide ((((e14.View.ID.N:Nat):Int):Int) = 0))) (fun w hs => (x_eql (k:=.u64) (a:=((e14.View.ID.N:Nat):Int)) (b:=0) (.tmp rfl rfl) .const)) ?_
 refine q_st (v:=.bool (decide ((((e14.View.ID.N:Nat):Int):Int) = 0))) (fun w hs => (x_pick_f (.tmp rfl rfl) (.tmp rfl rfl))) ?_
 refine q_nil ?_
 intro w hs128
 refine n_then ?_
 rcases Bool.eq_false_or_eq_true (decide ((((e14.View.ID.N:Nat):Int):Int) = 0)) with hc129 | hc129
 have hp129:(((e14.View.ID.N:Nat):Int):Int) = 0:=of_decide_eq_true hc129
 refine c_cond_t (t:=true) (.tmp rfl (cVb hc129)) rfl ?_
 refine c_seq (c_region (st (v:=.slice none 0 0) (x_assign .const) ?_))
 refine st (v:=.bool false) (x_assign .const) ?_
 refine c_nil (n_then (c_ret (r_then (r_then (r_block (r_then (r_then (r_block (r_then (leave_ret (res_two (v:=.slice none 0 0) (u:=.bool false) rfl (.mk rfl rfl) (.mk rfl rfl)) ?_))))))))))
 have hans130:livesT node l = ([],false):=lives_no (lvRun_next hx18 hrun (lv_vbad (by omega) (.inr (by omega))))
 rw [hans130]
 exact ⟨H3,none,0,0,hg4,rfl,(Sl.nil _ _ none),hs128.drop.drop.drop.drop⟩
 have hp129:¬ ((((e14.View.ID.N:Nat):Int):Int) = 0):=of_decide_eq_false hc129
 refine c_cond_f (t:=false) (.tmp rfl (cVb hc129)) rfl ?_
 refine c_skip (n_then (c_seq (c_seq (c_region (st (v:=v_out) (x_move (.tmp rfl hρ8)) ?_)))))
 obtain ⟨A131,c132,hv133,hc134⟩:=ok_out.slice
 refine st (v:=.int .i64 ((out.length:Nat):Int)) (x_len (n:=out.length) Tryd.underlying58 (.tmp rfl hv133)) ?_
 refine st (v:=.bool (decide ((0:Int) < ((out.length:Nat):Int)))) (x_gtr (k:=.i64) (a:=((out.length:Nat):Int)) (b:=0) (.tmp rfl rfl) .const) ?_
 refine c_nil (n_then (c_cond_f (t:=false) (.tmp rfl (cVb hc46)) rfl ?_))
 refine c_skip (n_then (c_seq (c_region ?_)))
 skip
 refine st (v:=v_out) (x_move (.tmp rfl hρ8)) ?_
 refine st (v:=.int .i64 node) (x_move (.tmp rfl hρ7)) ?_
 refine st (v:=.pointer (some ⟨g33,0 + 1,none⟩)) (fa49_1 (.tmp rfl rfl)) ?_
 refine st (v:=.agg #[.int .u64 ((e14.View.ID.N:Nat):Int),.int .i64 e14.View.ID.P,.int .u16 ((e14.View.Set:Nat):Int)]) (ld47 (cs:=[.int .u64 ((e14.View.ID.N:Nat):Int),.int .i64 e14.View.ID.P,.int .u16 ((e14.View.Set:Nat):Int)]) (.tmp rfl rfl) (hs128.at_ 0 rfl (0 + 1) rfl) rfl) ?_
 refine st (v:=.agg #[.int .i64 node,.int .u64 ((e14.View.ID.N:Nat):Int),.int .i64 e14.View.ID.P,.int .u16 ((e14.View.Set:Nat):Int),.slice none 0 0,.slice none 0 0,.int .i64 0,.int .u64 0,.int .i64 0]) (bl62 (ps:=[(0,.int .i64 node),(1,.agg #[.int .u64 ((e14.View.ID.N:Nat):Int),.int .i64 e14.View.ID.P,.int .u16 ((e14.View.Set:Nat):Int)])]) (.cons (.tmp rfl rfl) (.cons (.tmp rfl rfl) Evp.nil)) rfl) ?_
 refine st_m (m_lit (n:=1) (ps:=[(0,.agg #[.int .i64 node,.int .u64 ((e14.View.ID.N:Nat):Int),.int .i64 e14.View.ID.P,.int .u16 ((e14.View.Set:Nat):Int),.slice none 0 0,.slice none 0 0,.int .i64 0,.int .u64 0,.int .i64 0])]) (cs:=[.int .i64 node,.int .u64 ((e14.View.ID.N:Nat):Int),.int .i64 e14.View.ID.P,.int .u16 ((e14.View.Set:Nat):Int),.slice none 0 0,.slice none 0 0,.int .i64 0,.int .u64 0,.int .i64 0]) Tryd.underlying58 inf62 (.cons (.tmp rfl rfl) Evp.nil) (by decide) (by decide) rfl rfl hs128) ?_
 rintro _ w136 ⟨g135,rfl,hs138⟩
 have hs139:=hs138.p2
 have hr147:kLR.rep H3 (LR.mk node e14.View (.slice none 0 0) (.slice none 0 0) 0 (GViewID.mk 0 0)) [.int .i64 node,.int .u64 ((e14.View.ID.N:Nat):Int),.int .i64 e14.View.ID.P,.int .u16 ((e14.View.Set:Nat):Int),.slice none 0 0,.slice none 0 0,.int .i64 0,.int .u64 0,.int .i64 0]:=⟨rfl,⟨b_node1,b_node2⟩,b23,⟨b24,b25⟩,b26,rfl,rfl,(show IB 0 from ⟨by omega,by omega⟩),(show 0 < 18446744073709551616 from by omega),(show IB 0 from ⟨by omega,by omega⟩)⟩
 refine st_m (m_appK (d:=kLR) (ys:=[(LR.mk node e14.View (.slice none 0 0) (.slice none 0 0) 0 (GViewID.mk 0 0))]) (news:=[.int .i64 node,.int .u64 ((e14.View.ID.N:Nat):Int),.int .i64 e14.View.ID.P,.int .u16 ((e14.View.Set:Nat):Int),.slice none 0 0,.slice none 0 0,.int .i64 0,.int .u64 0,.int .i64 0]) Tryd.underlying58 inf62 rfl hs139 ok_out hk_out (.tmp rfl rfl) (.tmp rfl rfl) (Kn.rows_one hr147) rfl (hs139.at_ 1 rfl 0 rfl) (by have:([(LR.mk node e14.View (.slice none 0 0) (.slice none 0 0) 0 (GViewID.mk 0 0))]:List LR).length = 1:=rfl; omega) (by decide)) ?_
 rintro v140 w141 ⟨cs142,ok143,hk144,hs145⟩
 have hn146:(out ++ [(LR.mk node e14.View (.slice none 0 0) (.slice none 0 0) 0 (GViewID.mk 0 0))]).length = out.length + 1:=by simp
 refine st (v:=v140) (x_assign (.tmp rfl rfl)) ?_
 refine c_nil (n_then (c_exit (x_then (x_here (n_then (c_region (st (v:=.int .i64 (((i + 1):Nat):Int)) (x_add (k:=.i64) (a:=((i:Nat):Int)) (b:=1) (.tmp rfl hρ11) .const ((w64 (by omega) (by omega)).trans (by omega))) ?_)))))))
 refine st (v:=.int .i64 (((i + 1):Nat):Int)) (x_move (.tmp rfl rfl)) ?_
 refine c_nil ?_
 refine n_then ⟨_,_,rfl,?_,H3,(i + 1),(out ++ [(LR.mk node e14.View (.slice none 0 0) (.slice none 0 0) 0 (GViewID.mk 0 0))]),v140,cs142,ini,(some (lvNew node e14.View)),S,vS,cS,R,vR,cR,hρ7,rfl,hρ9,hρ10,rfl,hg4,ok143,hk144,(by omega),(lvRun_next hx18 hrun (lv_view0 (by omega) (rel_empty hrel (by omega)) hc41 (by omega))),(rel_view0 hrel (by omega)),okS,hkS,okR,hkR,(by rw [hS,rel_empty hrel (by omega)]; rfl),(by rw [hR,rel_empty hrel (by omega)]; rfl),(by first | omega | (simp only [List.length_append,List.length_singleton,List.length_set]; omega)),(by first | omega | (simp only [List.length_append,List.length_singleton,List.length_set]; omega)),(by first | omega | (simp only [List.length_append,List.length_singleton,List.length_set]; omega)),(((((hs145.p1).drop.p1).drop.p2).p2).p2),rfl⟩
 omega
 refine q_no (yl (dj:=26) (b:=true) rfl rfl (cVb (by rw [hc41]; rfl))) rfl ?_
 refine q_no (yl (dj:=26) (b:=true) rfl rfl (cVb (by rw [hc41]; rfl))) rfl ?_
 refine q_no (yl (dj:=26) (b:=true) rfl rfl (cVb (by rw [hc41]; rfl))) rfl ?_
 refine q_no (yl (dj:=26) (b:=true) rfl rfl (cVb (by rw [hc41]; rfl))) rfl ?_
 refine q_no0 (yn (dj:=30) rfl rfl) ?_
 refine q_no0 (yn (dj:=30) rfl rfl) ?_
 refine q_no0 (yn (dj:=30) rfl rfl) ?_
 refine q_no0 (yn (dj:=30) rfl rfl) ?_
 refine q_no0 (yn (dj:=30) rfl rfl) ?_
 refine q_no0 (yn (dj:=30) rfl rfl) ?_
 refine q_no0 (yn (dj:=30) rfl rfl) ?_
 refine q_no0 (yn (dj:=30) rfl rfl) ?_
 refine q_no0 (yn (dj:=30) rfl rfl) ?_
 refine q_no0 (yn (dj:=30) rfl rfl) ?_
 refine q_no0 (yn (dj:=30) rfl rfl) ?_
 refine q_no0 (yn (dj:=30) rfl rfl) ?_
 refine q_no0 (yn (dj:=30) rfl rfl) ?_
 refine q_no (yl (dj:=26) (b:=true) rfl rfl (cVb (by rw [hc41]; rfl))) rfl ?_
 refine q_st (v:=.bool true) (fun w hs => (x_pick_t (.tmp rfl (cVb (by rw [hc41]; rfl))) .const)) ?_
 refine q_st (v:=.bool true) (fun w hs => (x_move (.tmp rfl rfl))) ?_
 refine q_no (yl (dj:=46) (b:=true) rfl rfl rfl) rfl ?_
 refine q_no (yl (dj:=46) (b:=true) rfl rfl rfl) rfl ?_
 refine q_no (yl (dj:=46) (b:=true) rfl rfl rfl) rfl ?_
 refine q_no (yl (dj:=46) (b:=true) rfl rfl rfl) rfl ?_
 refine q_no (yl (dj:=46) (b:=true) rfl rfl rfl) rfl ?_
 refine q_st (v:=.bool true) (fun w hs => (x_pick_t (.tmp rfl rfl) .const)) ?_
 refine q_nil ?_
 intro w hs148
 refine n_then (c_cond_t (t:=true) (.tmp rfl rfl) rfl ?_)
 refine c_seq (c_region (st (v:=.slice none 0 0) (x_assign .const) ?_))
 refine st (v:=.bool false) (x_assign .const) ?_
 refine c_nil (n_then (c_ret (r_then (r_then (r_block (r_then (r_then (r_block (r_then (leave_ret (res_two (v:=.slice none 0 0) (u:=.bool false) rfl (.mk rfl rfl) (.mk rfl rfl)) ?_))))))))))
 have hans149:livesT node l = ([],false):=lives_no (lvRun_next hx18 hrun (lv_vbad (by omega) (.inl hc41)))
 rw [hans149]
 exact ⟨H3,none,0,0,hg4,rfl,(Sl.nil _ _ none),hs148.drop.drop.drop.drop⟩
 have hp40:¬ ((((e14.Kind:Nat):Int):Int) = 1):=of_decide_eq_false hc40
 refine c_cond_f (t:=false) (.tmp rfl (cVb hc40)) rfl ?_
 refine c_skip (n_then (c_seq (c_seq (q_region mixed hs39 (by kernel_rfl) ?_))))
 refine q_st (v:=v_out) (fun w hs => (x_move (.tmp rfl hρ8))) ?_
 obtain ⟨A150,c151,hv152,hc153⟩:=ok_out.slice
 refine q_st (v:=.int .i64 ((out.length:Nat):Int)) (fun w hs => (x_len (n:=out.length) Tryd.underlying58 (.tmp rfl hv152))) ?_
 refine q_st (v:=.bool (decide ((((out.length:Nat):Int):Int) = 0))) (fun w hs => (x_eql (k:=.i64) (a:=((out.length:Nat):Int)) (b:=0) (.tmp rfl rfl) .const)) ?_
 refine q_st (v:=.bool (decide ((((out.length:Nat):Int):Int) = 0))) (fun w hs => (x_move (.tmp rfl rfl))) ?_
 rcases Bool.eq_false_or_eq_true (decide ((((out.length:Nat):Int):Int) = 0)) with hc154 | hc154
 have hp154:(((out.length:Nat):Int):Int) = 0:=of_decide_eq_true hc154
 refine q_no (yk 75 true rfl rfl hc154) rfl ?_
 refine q_no (yk 75 true rfl rfl hc154) rfl ?_
 refine q_no (yk 75 true rfl rfl hc154) rfl ?_
 refine q_no (yk 75 true rfl rfl hc154) rfl ?_
 refine q_no (yk 75 true rfl rfl hc154) rfl ?_
 refine q_no (yk 75 true rfl rfl hc154) rfl ?_
 refine q_no (yk 75 true rfl rfl hc154) rfl ?_
 refine q_no (yk 75 true rfl rfl hc154) rfl ?_
 refine q_no (yk 75 true rfl rfl hc154) rfl ?_
 refine q_no (yk 75 true rfl rfl hc154) rfl ?_
 refine q_st (v:=.bool true) (fun w hs => (x_pick_t (.tmp rfl (cVb hc154)) .const)) ?_
 refine q_nil ?_
 intro w hs155
 refine n_then (c_cond_t (t:=true) (.tmp rfl rfl) rfl ?_)
 refine c_seq (c_region (st (v:=.slice none 0 0) (x_assign .const) ?_))
 refine st (v:=.bool false) (x_assign .const) ?_
 refine c_nil (n_then (c_ret (r_then (r_block (r_then (r_then (r_block (r_then (leave_ret (res_two (v:=.slice none 0 0) (u:=.bool false) rfl (.mk rfl rfl) (.mk rfl rfl)) ?_)))))))))
 have hans156:livesT node l = ([],false):=lives_no (lvRun_next hx18 hrun (lv_none (by omega) (rel_empty hrel (by omega))))
 rw [hans156]
 exact ⟨H3,none,0,0,hg4,rfl,(Sl.nil _ _ none),hs155.drop.drop.drop.drop⟩
 have hp154:¬ ((((out.length:Nat):Int):Int) = 0):=of_decide_eq_false hc154
 refine q_yes (yk 75 false rfl rfl hc154) ?_
 refine q_st (v:=.pointer (some ⟨g33,0 + 1,none⟩)) (fun w hs => (fa49_1 (.tmp rfl rfl))) ?_
 refine q_yes (yk 75 false rfl rfl hc154) ?_
 refine q_st (v:=.agg #[.int .u64 ((e14.View.ID.N:Nat):Int),.int .i64 e14.View.ID.P,.int .u16 ((e14.View.Set:Nat):Int)]) (fun w hs => (ld47 (cs:=[.int .u64 ((e14.View.ID.N:Nat):Int),.int .i64 e14.View.ID.P,.int .u16 ((e14.View.Set:Nat):Int)]) (.tmp rfl rfl) (hs.at_ 0 rfl (0 + 1) rfl) rfl)) ?_
 refine q_yes (yk 75 false rfl rfl hc154) ?_
 refine q_st (v:=v_out) (fun w hs => (x_move (.tmp rfl hρ8))) ?_
 refine q_yes (yk 75 false rfl rfl hc154) ?_
 refine q_st (v:=v_out) (fun w hs => (x_move (.tmp rfl hρ8))) ?_
 refine q_yes (yk 75 false rfl rfl hc154) ?_
 obtain ⟨A157,c158,hv159,hc160⟩:=ok_out.slice
 refine q_st (v:=.int .i64 ((out.length:Nat):Int)) (fun w hs => (x_len (n:=out.length) Tryd.underlying58 (.tmp rfl hv159))) ?_
 refine q_yes (yk 75 false rfl rfl hc154) ?_
 refine q_st (v:=.int .i64 (((out.length:Nat):Int) - 1)) (fun w hs => (x_sub (k:=.i64) (a:=((out.length:Nat):Int)) (b:=1) (.tmp rfl rfl) .const (w64 (by omega) (by omega)))) ?_
 refine q_yes (yk 75 false rfl rfl hc154) ?_
 obtain ⟨g161,c162,hv163⟩:=ok_out.pos (by omega)
 obtain ⟨e164,cs165,hx166,hr167,hsub168⟩:=Kn.rows_get (i:=(((out.length:Nat):Int) - 1).toNat) hk_out (by omega)
 obtain ⟨rfl,⟨b169,b170⟩,b171,⟨b172,b173⟩,b174,b175,b176,⟨b177,b178⟩,b179,⟨b180,b181⟩⟩:=hr167
 obtain ⟨f_e164,hop_e164,hvs_e164,hvr_e164,hnd_e164,hvw_e164,hsf_e164,hnx_e164,hs0_e164,hs1_e164⟩:=rel_last hrel hx166 (by omega)
 have hSl_e164:S = f_e164.sent:=by rw [hS,hop_e164]; rfl
 have hRl_e164:R = f_e164.recv:=by rw [hR,hop_e164]; rfl
 have hRn_e164:R.length = f_e164.recv.length:=by rw [hRl_e164]
 refine q_st (v:=.pointer (some ⟨g161,(((((out.length:Nat):Int) - 1).toNat) * 9),none⟩)) (fun w hs => (ixo58 (.tmp rfl hv163) rfl (i:=(((out.length:Nat):Int) - 1)) (.tmp rfl rfl) (by omega) (by omega) (by omega))) ?_
 refine q_yes (yk 75 false rfl rfl hc154) ?_
 refine q_st (v:=.pointer (some ⟨g161,(((((out.length:Nat):Int) - 1).toNat) * 9) + 1,none⟩)) (fun w hs => (fa62_1 (.tmp rfl rfl))) ?_
 refine q_yes (yk 75 false rfl rfl hc154) ?_
 refine q_st (v:=.agg #[.int .u64 ((e164.view.ID.N:Nat):Int),.int .i64 e164.view.ID.P,.int .u16 ((e164.view.Set:Nat):Int)]) (fun w hs => (ld47 (cs:=[.int .u64 ((e164.view.ID.N:Nat):Int),.int .i64 e164.view.ID.P,.int .u16 ((e164.view.Set:Nat):Int)]) (.tmp rfl rfl) ((hs.rowAt 1 rfl hv163 (((((out.length:Nat):Int) - 1).toNat) * 9) hsub168).sub 1 rfl) rfl)) ?_
 refine q_yes (yk 75 false rfl rfl hc154) ?_
 refine q_st (v:=.bool (!(((((e14.View.ID.N:Nat):Int) == ((e164.view.ID.N:Nat):Int)) && ((e14.View.ID.P == e164.view.ID.P) && true)) && ((((e14.View.Set:Nat):Int) == ((e164.view.Set:Nat):Int)) && true)))) (fun w hs => (x_neqA eqg47 (.tmp rfl rfl) (.tmp rfl rfl) (fun d => eqs47 (d + 97) _ ((e14.View.ID.N:Nat):Int) ((e164.view.ID.N:Nat):Int) e14.View.ID.P e164.view.ID.P ((e14.View.Set:Nat):Int) ((e164.view.Set:Nat):Int)))) ?_
 refine q_st (v:=.bool (!(decide (e14.View = e164.view)))) (fun w hs => (x_pick_f (.tmp rfl (cVb hc154)) (.tmp rfl (congrArg (fun z => Value.bool (!z)) (GView.beq_dec e14.View e164.view))))) ?_
 refine q_nil ?_
 intro w hs182
 refine n_then ?_
 rcases Bool.eq_false_or_eq_true (decide (e14.View = e164.view)) with hc183 | hc183
 have hp183:e14.View = e164.view:=of_decide_eq_true hc183
 refine c_cond_f (t:=false) (.tmp rfl (cVb (by rw [hc183]; rfl))) rfl ?_
 refine c_skip (n_then (c_seq (c_region (st (v:=v_out) (x_move (.tmp rfl hρ8)) ?_))))
 refine st (v:=v_out) (x_move (.tmp rfl hρ8)) ?_
 obtain ⟨A184,c185,hv186,hc187⟩:=ok_out.slice
 refine st (v:=.int .i64 ((out.length:Nat):Int)) (x_len (n:=out.length) Tryd.underlying58 (.tmp rfl hv186)) ?_
 refine st (v:=.int .i64 (((out.length:Nat):Int) - 1)) (x_sub (k:=.i64) (a:=((out.length:Nat):Int)) (b:=1) (.tmp rfl rfl) .const (w64 (by omega) (by omega))) ?_
 obtain ⟨g188,c189,hv190⟩:=ok_out.pos (by omega)
 refine st (v:=.pointer (some ⟨g188,(((((out.length:Nat):Int) - 1).toNat) * 9),none⟩)) (ixo58 (.tmp rfl hv190) rfl (i:=(((out.length:Nat):Int) - 1)) (.tmp rfl rfl) (by omega) (by omega) (by omega)) ?_
 refine st (v:=.pointer (some ⟨g188,(((((out.length:Nat):Int) - 1).toNat) * 9),none⟩)) (x_assign (.tmp rfl rfl)) ?_
 refine c_nil (n_then (c_seq (c_region (st (v:=.pointer (some ⟨g33,0 + 4,none⟩)) (fa49_2 (.tmp rfl rfl)) ?_))))
 refine st (v:=.int .i64 e14.From) (ld3 (.tmp rfl rfl) (hs182.cell 0 rfl (0 + 4) rfl)) ?_
 refine st (v:=.pointer (some ⟨g33,0 + 5,none⟩)) (fa49_3 (.tmp rfl rfl)) ?_
 refine st (v:=.slice A29 n30 c31) (ld30 (.tmp rfl rfl) (hs182.cell 0 rfl (0 + 5) rfl)) ?_
 refine st (v:=.agg #[.int .i64 e14.From,.slice A29 n30 c31]) (bl34 (ps:=[(0,.int .i64 e14.From),(1,.slice A29 n30 c31)]) (.cons (.tmp rfl rfl) (.cons (.tmp rfl rfl) Evp.nil)) rfl) ?_
 refine st_m (al34 (cs:=[.int .i64 0,.slice none 0 0]) hs182 rfl) ?_
 rintro _ w192 ⟨g191,rfl,hs194⟩
 refine st_m0 (sto34 (cs':=[.int .i64 e14.From,.slice A29 n30 c31]) (i:=0) hs194 (v:=.agg #[.int .i64 e14.From,.slice A29 n30 c31]) (.tmp rfl rfl) (.tmp rfl rfl) rfl (Nat.le_of_ble_eq_true rfl) (oneA rfl) rfl) ?_
 rintro w195 hs197
 refine c_nil (n_then (c_seq (c_region (st (v:=.pointer (some ⟨g33,0 + 0,none⟩)) (fa49_0 (.tmp rfl rfl)) ?_))))
 refine st (v:=.int .u8 ((e14.Kind:Nat):Int)) (ld5 (.tmp rfl rfl) (hs197.cell 1 rfl (0 + 0) rfl)) ?_
 refine c_nil (n_then (c_block (c_seq (c_region (st (v:=.bool (decide ((((e14.Kind:Nat):Int):Int) = 2))) (x_eql (k:=.u8) (a:=((e14.Kind:Nat):Int)) (b:=2) (.tmp rfl rfl) .const) ?_)))))
 refine st (v:=.bool (decide ((((e14.Kind:Nat):Int):Int) = 2))) (x_assign (.tmp rfl rfl)) ?_
 refine c_nil (n_then ?_)
 rcases Bool.eq_false_or_eq_true (decide ((((e14.Kind:Nat):Int):Int) = 2)) with hc198 | hc198
 have hp198:(((e14.Kind:Nat):Int):Int) = 2:=of_decide_eq_true hc198
 refine c_cond_t (t:=true) (.tmp rfl (cVb hc198)) rfl ?_
 refine c_seq (c_region (st (v:=.int .i64 node) (x_move (.tmp rfl hρ7)) ?_))
 refine st (v:=.pointer (some ⟨g191,0 + 0,none⟩)) (fa34_0 (.tmp rfl rfl)) ?_
 refine st_m0 (sto3 (cs':=[.int .i64 node,.slice A29 n30 c31]) (i:=0 + 0) hs197 (v:=.int .i64 node) (.tmp rfl rfl) (.tmp rfl rfl) rfl (Nat.le_of_ble_eq_true rfl) one1 rfl) ?_
 rintro w199 hs201
 refine c_nil (n_then (u_region (L:=obj g191 34 [.int .i64 node,.slice A29 n30 c31]::obj g33 49 [.int .u8 ((e14.Kind:Nat):Int),.int .u64 ((e14.View.ID.N:Nat):Int),.int .i64 e14.View.ID.P,.int .u16 ((e14.View.Set:Nat):Int),.int .i64 e14.From,.slice A29 n30 c31]::row 62 9 v_out out.length c_out::row 34 2 vS S.length cS::row 34 2 vR R.length cR::L) (L':=obj g191 34 [.int .i64 node,.slice A29 n30 c31]::obj g33 49 [.int .u8 ((e14.Kind:Nat):Int),.int .u64 ((e14.View.ID.N:Nat):Int),.int .i64 e14.View.ID.P,.int .u16 ((e14.View.Set:Nat):Int),.int .i64 e14.From,.slice A29 n30 c31]::row 62 9 v_out out.length c_out::row 34 2 vS S.length cS::row 34 2 vR R.length cR::L) (Z:=[7,10]) (F:=[0]) (Lw:=obj g191 34 [.int .i64 node,.slice A29 n30 c31]::obj g33 49 [.int .u8 ((e14.Kind:Nat):Int),.int .u64 ((e14.View.ID.N:Nat):Int),.int .i64 e14.View.ID.P,.int .u16 ((e14.View.Set:Nat):Int),.int .i64 e14.From,.slice A29 n30 c31]::row 34 2 vR R.length cR::L) (pl:=(.q 0 (.q 1 (.q 2 (.q 3 (.q 4 (.q 5 (.e 6 (.e 7 (.q 8 (.q 9 (.e 10 .done)))))))))))) mixed hs201 (fun u hu => hu) (fun u hu => ((hu.p2).drop.p2).drop) (by kernel_rfl) ?_))
 intro w202 hs203
 refine u_fr (k:=0) (v:=.pointer (some ⟨g188,(((((out.length:Nat):Int) - 1).toNat) * 9),none⟩)) rfl rfl (fun w hs => (x_move (.tmp rfl rfl))) ?_
 refine u_st (k:=1) (v:=.pointer (some ⟨g188,(((((out.length:Nat):Int) - 1).toNat) * 9),none⟩)) rfl rfl (fun w hs => (x_move (.tmp rfl rfl))) ?_
 refine u_st (k:=2) (v:=.pointer (some ⟨g188,(((((out.length:Nat):Int) - 1).toNat) * 9),none⟩)) rfl rfl (fun w hs => (x_nilCheck (.tmp rfl rfl))) ?_
 refine u_st (k:=3) (v:=.pointer (some ⟨g188,(((((out.length:Nat):Int) - 1).toNat) * 9) + 4,none⟩)) rfl rfl (fun w hs => (fa62_2 (.tmp rfl rfl))) ?_
 refine u_st (k:=4) (v:=e164.vs) rfl rfl (fun w hs => (ld25 (.tmp rfl rfl) ((hs.rowAt 2 rfl hv190 (((((out.length:Nat):Int) - 1).toNat) * 9) hsub168).cell 4 rfl))) ?_
 refine u_st (k:=5) (v:=.agg #[.int .i64 node,.slice A29 n30 c31]) rfl rfl (fun w hs => (ld34 (cs:=[.int .i64 node,.slice A29 n30 c31]) (.tmp rfl rfl) (hs.at_ 0 rfl (0) rfl) rfl)) ?_
 refine u_eff (k:=6) rfl ?_
 refine st_m (m_lit (n:=1) (ps:=[(0,.agg #[.int .i64 node,.slice A29 n30 c31])]) (cs:=[.int .i64 node,.slice A29 n30 c31]) Tryd.underlying25 inf34 (.cons (.tmp rfl rfl) Evp.nil) (by decide) (by decide) rfl rfl hs203) ?_
 rintro _ w205 ⟨g204,rfl,hs207⟩
 refine u_on (S':=fun u => St H3 u (obj g204 34 [.int .i64 node,.slice A29 n30 c31]::obj g191 34 [.int .i64 node,.slice A29 n30 c31]::obj g33 49 [.int .u8 ((e14.Kind:Nat):Int),.int .u64 ((e14.View.ID.N:Nat):Int),.int .i64 e14.View.ID.P,.int .u16 ((e14.View.Set:Nat):Int),.int .i64 e14.From,.slice A29 n30 c31]::row 62 9 v_out out.length c_out::row 34 2 vS S.length cS::row 34 2 vR R.length cR::L)) (fun u hu => hu.drop) (fun u hu => ((hu.drop.p2).drop.p2).drop) hs207 ?_
 refine u_eff (k:=7) rfl ?_
 have hs208:=hs207.p4
 have hr216:kItem.rep H3 (GItem.mk node e14.M) [.int .i64 node,.slice A29 n30 c31]:=⟨A29,n30,c31,rfl,⟨b_node1,b_node2⟩,hy32⟩
 refine st_m (m_appK (d:=kItem) (ys:=[(GItem.mk node e14.M)]) (news:=[.int .i64 node,.slice A29 n30 c31]) Tryd.underlying25 inf34 rfl hs208 okS hkS (.tmp rfl hvs_e164) (.tmp rfl rfl) (Kn.rows_one hr216) rfl (hs208.at_ 1 rfl 0 rfl) (by have:([(GItem.mk node e14.M)]:List GItem).length = 1:=rfl; omega) (by decide)) ?_
 rintro v209 w210 ⟨cs211,ok212,hk213,hs214⟩
 have hn215:(S ++ [(GItem.mk node e14.M)]).length = S.length + 1:=by simp
 refine u_new (S':=fun u => St H3 u (row 34 2 v209 ((S ++ [(GItem.mk node e14.M)]).length) cs211::obj g204 34 [.int .i64 node,.slice A29 n30 c31]::obj g191 34 [.int .i64 node,.slice A29 n30 c31]::obj g33 49 [.int .u8 ((e14.Kind:Nat):Int),.int .u64 ((e14.View.ID.N:Nat):Int),.int .i64 e14.View.ID.P,.int .u16 ((e14.View.Set:Nat):Int),.int .i64 e14.From,.slice A29 n30 c31]::row 62 9 v_out out.length c_out::row 34 2 vR R.length cR::L)) rfl (fun u hu => (hu.drop.drop.p2).drop) hs214 ?_
 refine u_st (k:=8) (v:=.pointer (some ⟨g188,(((((out.length:Nat):Int) - 1).toNat) * 9),none⟩)) rfl rfl (fun w hs => (x_nilCheck (.tmp rfl rfl))) ?_
 refine u_st (k:=9) (v:=.pointer (some ⟨g188,(((((out.length:Nat):Int) - 1).toNat) * 9) + 4,none⟩)) rfl rfl (fun w hs => (fa62_2 (.tmp rfl rfl))) ?_
 refine u_eff (k:=10) rfl ?_
 obtain ⟨A217,c218,rfl,hc219⟩:=ok212.slice
 have hs220:=hs214.p4
 have hl226:((((out.length:Nat):Int) - 1).toNat) * 9 + 9 ≤ c_out.length:=by have h1:=(hk_out).1; have h2:kLR.sz = 9:=rfl; rw [h2] at h1; omega
 have hr225:kLR.rep H3 (LR.mk e164.node e164.view (.slice A217 ((S ++ [(GItem.mk node e14.M)]).length) c218) e164.vr e164.safe e164.next) [.int .i64 e164.node,.int .u64 ((e164.view.ID.N:Nat):Int),.int .i64 e164.view.ID.P,.int .u16 ((e164.view.Set:Nat):Int),.slice A217 ((S ++ [(GItem.mk node e14.M)]).length) c218,e164.vr,.int .i64 e164.safe,.int .u64 ((e164.next.N:Nat):Int),.int .i64 e164.next.P]:=⟨rfl,⟨b169,b170⟩,b171,⟨b172,b173⟩,b174,rfl,b176,⟨b177,b178⟩,b179,⟨b180,b181⟩⟩
 refine st_m0 (stor25 hs220 hv190 (i:=(((((out.length:Nat):Int) - 1).toNat) * 9) + 4) (xs':=splice c_out (((((out.length:Nat):Int) - 1).toNat) * 9) [.int .i64 e164.node,.int .u64 ((e164.view.ID.N:Nat):Int),.int .i64 e164.view.ID.P,.int .u16 ((e164.view.Set:Nat):Int),.slice A217 ((S ++ [(GItem.mk node e14.M)]).length) c218,e164.vr,.int .i64 e164.safe,.int .u64 ((e164.next.N:Nat):Int),.int .i64 e164.next.P]) (.tmp rfl rfl) (u:=.slice A217 ((S ++ [(GItem.mk node e14.M)]).length) c218) (.tmp rfl rfl) rfl (by omega) one1 (splice_part (c:=[.int .i64 e164.node,.int .u64 ((e164.view.ID.N:Nat):Int),.int .i64 e164.view.ID.P,.int .u16 ((e164.view.Set:Nat):Int),e164.vs,e164.vr,.int .i64 e164.safe,.int .u64 ((e164.next.N:Nat):Int),.int .i64 e164.next.P]) (k:=4) hsub168 (Nat.le_of_ble_eq_true rfl) (by simpa using hl226))) ?_
 rintro w221 hs222
 have hk224:=Kn.rows_set (d:=kLR.toKn) hk_out (i:=((((out.length:Nat):Int) - 1).toNat)) (by omega) hr225
 have ok223:=ok_out.splice (i:=((((out.length:Nat):Int) - 1).toNat) * 9) (vs:=[.int .i64 e164.node,.int .u64 ((e164.view.ID.N:Nat):Int),.int .i64 e164.view.ID.P,.int .u16 ((e164.view.Set:Nat):Int),.slice A217 ((S ++ [(GItem.mk node e14.M)]).length) c218,e164.vr,.int .i64 e164.safe,.int .u64 ((e164.next.N:Nat):Int),.int .i64 e164.next.P]) (by simpa using hl226)
 have hn227:(out.set ((((out.length:Nat):Int) - 1).toNat) (LR.mk e164.node e164.view (.slice A217 ((S ++ [(GItem.mk node e14.M)]).length) c218) e164.vr e164.safe e164.next)).length = out.length:=List.length_set
 have ok228:RowOk kLR.sz v_out (out.set ((((out.length:Nat):Int) - 1).toNat) (LR.mk e164.node e164.view (.slice A217 ((S ++ [(GItem.mk node e14.M)]).length) c218) e164.vr e164.safe e164.next)).length (splice c_out (((((out.length:Nat):Int) - 1).toNat) * 9) [.int .i64 e164.node,.int .u64 ((e164.view.ID.N:Nat):Int),.int .i64 e164.view.ID.P,.int .u16 ((e164.view.Set:Nat):Int),.slice A217 ((S ++ [(GItem.mk node e14.M)]).length) c218,e164.vr,.int .i64 e164.safe,.int .u64 ((e164.next.N:Nat):Int),.int .i64 e164.next.P]):=by rw [hn227]; exact ok223
 have hs229:St H3 w221 (row 62 9 v_out ((out.set ((((out.length:Nat):Int) - 1).toNat) (LR.mk e164.node e164.view (.slice A217 ((S ++ [(GItem.mk node e14.M)]).length) c218) e164.vr e164.safe e164.next)).length) (splice c_out (((((out.length:Nat):Int) - 1).toNat) * 9) [.int .i64 e164.node,.int .u64 ((e164.view.ID.N:Nat):Int),.int .i64 e164.view.ID.P,.int .u16 ((e164.view.Set:Nat):Int),.slice A217 ((S ++ [(GItem.mk node e14.M)]).length) c218,e164.vr,.int .i64 e164.safe,.int .u64 ((e164.next.N:Nat):Int),.int .i64 e164.next.P])::row 34 2 (.slice A217 ((S ++ [(GItem.mk node e14.M)]).length) c218) ((S ++ [(GItem.mk node e14.M)]).length) cs211::obj g204 34 [.int .i64 node,.slice A29 n30 c31]::obj g191 34 [.int .i64 node,.slice A29 n30 c31]::obj g33 49 [.int .u8 ((e14.Kind:Nat):Int),.int .u64 ((e14.View.ID.N:Nat):Int),.int .i64 e14.View.ID.P,.int .u16 ((e14.View.Set:Nat):Int),.int .i64 e14.From,.slice A29 n30 c31]::row 34 2 vR R.length cR::L):=by rw [hn227]; exact hs222
 refine u_new (S':=fun u => St H3 u (row 62 9 v_out ((out.set ((((out.length:Nat):Int) - 1).toNat) (LR.mk e164.node e164.view (.slice A217 ((S ++ [(GItem.mk node e14.M)]).length) c218) e164.vr e164.safe e164.next)).length) (splice c_out (((((out.length:Nat):Int) - 1).toNat) * 9) [.int .i64 e164.node,.int .u64 ((e164.view.ID.N:Nat):Int),.int .i64 e164.view.ID.P,.int .u16 ((e164.view.Set:Nat):Int),.slice A217 ((S ++ [(GItem.mk node e14.M)]).length) c218,e164.vr,.int .i64 e164.safe,.int .u64 ((e164.next.N:Nat):Int),.int .i64 e164.next.P])::row 34 2 (.slice A217 ((S ++ [(GItem.mk node e14.M)]).length) c218) ((S ++ [(GItem.mk node e14.M)]).length) cs211::obj g204 34 [.int .i64 node,.slice A29 n30 c31]::obj g191 34 [.int .i64 node,.slice A29 n30 c31]::obj g33 49 [.int .u8 ((e14.Kind:Nat):Int),.int .u64 ((e14.View.ID.N:Nat):Int),.int .i64 e14.View.ID.P,.int .u16 ((e14.View.Set:Nat):Int),.int .i64 e14.From,.slice A29 n30 c31]::row 34 2 vR R.length cR::L)) rfl (fun u hu => hu.drop.drop.drop) hs229 ?_
 refine u_nil ?_
 refine n_block (n_block (n_then (c_region (st (v:=.int .i64 (((i + 1):Nat):Int)) (x_add (k:=.i64) (a:=((i:Nat):Int)) (b:=1) (.tmp rfl hρ11) .const ((w64 (by omega) (by omega)).trans (by omega))) ?_))))
 refine st (v:=.int .i64 (((i + 1):Nat):Int)) (x_move (.tmp rfl rfl)) ?_
 refine c_nil ?_
 refine n_then ⟨_,_,rfl,?_,H3,(i + 1),(out.set ((((out.length:Nat):Int) - 1).toNat) (LR.mk e164.node e164.view (.slice A217 ((S ++ [(GItem.mk node e14.M)]).length) c218) e164.vr e164.safe e164.next)),v_out,(splice c_out (((((out.length:Nat):Int) - 1).toNat) * 9) [.int .i64 e164.node,.int .u64 ((e164.view.ID.N:Nat):Int),.int .i64 e164.view.ID.P,.int .u16 ((e164.view.Set:Nat):Int),.slice A217 ((S ++ [(GItem.mk node e14.M)]).length) c218,e164.vr,.int .i64 e164.safe,.int .u64 ((e164.next.N:Nat):Int),.int .i64 e164.next.P]),ini,(some (GLife.mk f_e164.node f_e164.view (f_e164.sent ++ [GItem.mk node e14.M]) f_e164.recv f_e164.safe f_e164.next)),(S ++ [(GItem.mk node e14.M)]),(.slice A217 ((S ++ [(GItem.mk node e14.M)]).length) c218),cs211,R,vR,cR,hρ7,hρ8,hρ9,hρ10,rfl,hg4,ok228,hk224,(by omega),(lvRun_next hx18 hrun (lv_send (by omega) hop_e164 (by rw [← hvw_e164]; exact of_decide_eq_true hc183))),(rel_put hrel hop_e164 hx166 (by omega) rfl hvr_e164 hnd_e164 hvw_e164 hsf_e164 hnx_e164 ⟨hs0_e164,hs1_e164⟩),ok212,hk213,okR,hkR,(by rw [hSl_e164]; rfl),hRl_e164,(by first | omega | (simp only [List.length_append,List.length_singleton,List.length_set]; omega)),(by first | omega | (simp only [List.length_append,List.length_singleton,List.length_set]; omega)),(by first | omega | (simp only [List.length_append,List.length_singleton,List.length_set]; omega)),((((((hs229.p2).drop.p2).drop.p2).drop.p2).p2).p2),rfl⟩
 omega
 have hp198:¬ ((((e14.Kind:Nat):Int):Int) = 2):=of_decide_eq_false hc198
 refine c_cond_f (t:=false) (.tmp rfl (cVb hc198)) rfl ?_
 refine c_seq (c_region (st (v:=.bool (decide ((((e14.Kind:Nat):Int):Int) = 3))) (x_eql (k:=.u8) (a:=((e14.Kind:Nat):Int)) (b:=3) (.tmp rfl rfl) .const) ?_))
 refine st (v:=.bool (decide ((((e14.Kind:Nat):Int):Int) = 3))) (x_assign (.tmp rfl rfl)) ?_
 refine c_nil (n_then ?_)
 rcases Bool.eq_false_or_eq_true (decide ((((e14.Kind:Nat):Int):Int) = 3)) with hc230 | hc230
 have hp230:(((e14.Kind:Nat):Int):Int) = 3:=of_decide_eq_true hc230
 refine c_cond_t (t:=true) (.tmp rfl (cVb hc230)) rfl ?_
 refine u_region (L:=obj g191 34 [.int .i64 e14.From,.slice A29 n30 c31]::obj g33 49 [.int .u8 ((e14.Kind:Nat):Int),.int .u64 ((e14.View.ID.N:Nat):Int),.int .i64 e14.View.ID.P,.int .u16 ((e14.View.Set:Nat):Int),.int .i64 e14.From,.slice A29 n30 c31]::row 62 9 v_out out.length c_out::row 34 2 vS S.length cS::row 34 2 vR R.length cR::L) (L':=obj g191 34 [.int .i64 e14.From,.slice A29 n30 c31]::obj g33 49 [.int .u8 ((e14.Kind:Nat):Int),.int .u64 ((e14.View.ID.N:Nat):Int),.int .i64 e14.View.ID.P,.int .u16 ((e14.View.Set:Nat):Int),.int .i64 e14.From,.slice A29 n30 c31]::row 62 9 v_out out.length c_out::row 34 2 vS S.length cS::row 34 2 vR R.length cR::L) (Z:=[7,10]) (F:=[0]) (Lw:=obj g191 34 [.int .i64 e14.From,.slice A29 n30 c31]::obj g33 49 [.int .u8 ((e14.Kind:Nat):Int),.int .u64 ((e14.View.ID.N:Nat):Int),.int .i64 e14.View.ID.P,.int .u16 ((e14.View.Set:Nat):Int),.int .i64 e14.From,.slice A29 n30 c31]::row 34 2 vS S.length cS::L) (pl:=(.q 0 (.q 1 (.q 2 (.q 3 (.q 4 (.q 5 (.e 6 (.e 7 (.q 8 (.q 9 (.e 10 .done)))))))))))) mixed hs197 (fun u hu => hu) (fun u hu => ((hu.p2).drop.p3).drop) (by kernel_rfl) ?_
 intro w231 hs232
 refine u_fr (k:=0) (v:=.pointer (some ⟨g188,(((((out.length:Nat):Int) - 1).toNat) * 9),none⟩)) rfl rfl (fun w hs => (x_move (.tmp rfl rfl))) ?_
 refine u_st (k:=1) (v:=.pointer (some ⟨g188,(((((out.length:Nat):Int) - 1).toNat) * 9),none⟩)) rfl rfl (fun w hs => (x_move (.tmp rfl rfl))) ?_
 refine u_st (k:=2) (v:=.pointer (some ⟨g188,(((((out.length:Nat):Int) - 1).toNat) * 9),none⟩)) rfl rfl (fun w hs => (x_nilCheck (.tmp rfl rfl))) ?_
 refine u_st (k:=3) (v:=.pointer (some ⟨g188,(((((out.length:Nat):Int) - 1).toNat) * 9) + 5,none⟩)) rfl rfl (fun w hs => (fa62_3 (.tmp rfl rfl))) ?_
 refine u_st (k:=4) (v:=e164.vr) rfl rfl (fun w hs => (ld25 (.tmp rfl rfl) ((hs.rowAt 2 rfl hv190 (((((out.length:Nat):Int) - 1).toNat) * 9) hsub168).cell 5 rfl))) ?_
 refine u_st (k:=5) (v:=.agg #[.int .i64 e14.From,.slice A29 n30 c31]) rfl rfl (fun w hs => (ld34 (cs:=[.int .i64 e14.From,.slice A29 n30 c31]) (.tmp rfl rfl) (hs.at_ 0 rfl (0) rfl) rfl)) ?_
 refine u_eff (k:=6) rfl ?_
 refine st_m (m_lit (n:=1) (ps:=[(0,.agg #[.int .i64 e14.From,.slice A29 n30 c31])]) (cs:=[.int .i64 e14.From,.slice A29 n30 c31]) Tryd.underlying25 inf34 (.cons (.tmp rfl rfl) Evp.nil) (by decide) (by decide) rfl rfl hs232) ?_
 rintro _ w234 ⟨g233,rfl,hs236⟩
 refine u_on (S':=fun u => St H3 u (obj g233 34 [.int .i64 e14.From,.slice A29 n30 c31]::obj g191 34 [.int .i64 e14.From,.slice A29 n30 c31]::obj g33 49 [.int .u8 ((e14.Kind:Nat):Int),.int .u64 ((e14.View.ID.N:Nat):Int),.int .i64 e14.View.ID.P,.int .u16 ((e14.View.Set:Nat):Int),.int .i64 e14.From,.slice A29 n30 c31]::row 62 9 v_out out.length c_out::row 34 2 vS S.length cS::row 34 2 vR R.length cR::L)) (fun u hu => hu.drop) (fun u hu => ((hu.drop.p2).drop.p3).drop) hs236 ?_
 refine u_eff (k:=7) rfl ?_
 have hs237:=hs236.p5
 have hr245:kItem.rep H3 (GItem.mk e14.From e14.M) [.int .i64 e14.From,.slice A29 n30 c31]:=⟨A29,n30,c31,rfl,⟨b27,b28⟩,hy32⟩
 refine st_m (m_appK (d:=kItem) (ys:=[(GItem.mk e14.From e14.M)]) (news:=[.int .i64 e14.From,.slice A29 n30 c31]) Tryd.underlying25 inf34 rfl hs237 okR hkR (.tmp rfl hvr_e164) (.tmp rfl rfl) (Kn.rows_one hr245) rfl (hs237.at_ 1 rfl 0 rfl) (by have:([(GItem.mk e14.From e14.M)]:List GItem).length = 1:=rfl; omega) (by decide)) ?_
 rintro v238 w239 ⟨cs240,ok241,hk242,hs243⟩
 have hn244:(R ++ [(GItem.mk e14.From e14.M)]).length = R.length + 1:=by simp
 refine u_new (S':=fun u => St H3 u (row 34 2 v238 ((R ++ [(GItem.mk e14.From e14.M)]).length) cs240::obj g233 34 [.int .i64 e14.From,.slice A29 n30 c31]::obj g191 34 [.int .i64 e14.From,.slice A29 n30 c31]::obj g33 49 [.int .u8 ((e14.Kind:Nat):Int),.int .u64 ((e14.View.ID.N:Nat):Int),.int .i64 e14.View.ID.P,.int .u16 ((e14.View.Set:Nat):Int),.int .i64 e14.From,.slice A29 n30 c31]::row 62 9 v_out out.length c_out::row 34 2 vS S.length cS::L)) rfl (fun u hu => (hu.drop.drop.p2).drop) hs243 ?_
 refine u_st (k:=8) (v:=.pointer (some ⟨g188,(((((out.length:Nat):Int) - 1).toNat) * 9),none⟩)) rfl rfl (fun w hs => (x_nilCheck (.tmp rfl rfl))) ?_
 refine u_st (k:=9) (v:=.pointer (some ⟨g188,(((((out.length:Nat):Int) - 1).toNat) * 9) + 5,none⟩)) rfl rfl (fun w hs => (fa62_3 (.tmp rfl rfl))) ?_
 refine u_eff (k:=10) rfl ?_
 obtain ⟨A246,c247,rfl,hc248⟩:=ok241.slice
 have hs249:=hs243.p4
 have hl255:((((out.length:Nat):Int) - 1).toNat) * 9 + 9 ≤ c_out.length:=by have h1:=(hk_out).1; have h2:kLR.sz = 9:=rfl; rw [h2] at h1; omega
 have hr254:kLR.rep H3 (LR.mk e164.node e164.view e164.vs (.slice A246 ((R ++ [(GItem.mk e14.From e14.M)]).length) c247) e164.safe e164.next) [.int .i64 e164.node,.int .u64 ((e164.view.ID.N:Nat):Int),.int .i64 e164.view.ID.P,.int .u16 ((e164.view.Set:Nat):Int),e164.vs,.slice A246 ((R ++ [(GItem.mk e14.From e14.M)]).length) c247,.int .i64 e164.safe,.int .u64 ((e164.next.N:Nat):Int),.int .i64 e164.next.P]:=⟨rfl,⟨b169,b170⟩,b171,⟨b172,b173⟩,b174,b175,rfl,⟨b177,b178⟩,b179,⟨b180,b181⟩⟩
 refine st_m0 (stor25 hs249 hv190 (i:=(((((out.length:Nat):Int) - 1).toNat) * 9) + 5) (xs':=splice c_out (((((out.length:Nat):Int) - 1).toNat) * 9) [.int .i64 e164.node,.int .u64 ((e164.view.ID.N:Nat):Int),.int .i64 e164.view.ID.P,.int .u16 ((e164.view.Set:Nat):Int),e164.vs,.slice A246 ((R ++ [(GItem.mk e14.From e14.M)]).length) c247,.int .i64 e164.safe,.int .u64 ((e164.next.N:Nat):Int),.int .i64 e164.next.P]) (.tmp rfl rfl) (u:=.slice A246 ((R ++ [(GItem.mk e14.From e14.M)]).length) c247) (.tmp rfl rfl) rfl (by omega) one1 (splice_part (c:=[.int .i64 e164.node,.int .u64 ((e164.view.ID.N:Nat):Int),.int .i64 e164.view.ID.P,.int .u16 ((e164.view.Set:Nat):Int),e164.vs,e164.vr,.int .i64 e164.safe,.int .u64 ((e164.next.N:Nat):Int),.int .i64 e164.next.P]) (k:=5) hsub168 (Nat.le_of_ble_eq_true rfl) (by simpa using hl255))) ?_
 rintro w250 hs251
 have hk253:=Kn.rows_set (d:=kLR.toKn) hk_out (i:=((((out.length:Nat):Int) - 1).toNat)) (by omega) hr254
 have ok252:=ok_out.splice (i:=((((out.length:Nat):Int) - 1).toNat) * 9) (vs:=[.int .i64 e164.node,.int .u64 ((e164.view.ID.N:Nat):Int),.int .i64 e164.view.ID.P,.int .u16 ((e164.view.Set:Nat):Int),e164.vs,.slice A246 ((R ++ [(GItem.mk e14.From e14.M)]).length) c247,.int .i64 e164.safe,.int .u64 ((e164.next.N:Nat):Int),.int .i64 e164.next.P]) (by simpa using hl255)
 have hn256:(out.set ((((out.length:Nat):Int) - 1).toNat) (LR.mk e164.node e164.view e164.vs (.slice A246 ((R ++ [(GItem.mk e14.From e14.M)]).length) c247) e164.safe e164.next)).length = out.length:=List.length_set
 have ok257:RowOk kLR.sz v_out (out.set ((((out.length:Nat):Int) - 1).toNat) (LR.mk e164.node e164.view e164.vs (.slice A246 ((R ++ [(GItem.mk e14.From e14.M)]).length) c247) e164.safe e164.next)).length (splice c_out (((((out.length:Nat):Int) - 1).toNat) * 9) [.int .i64 e164.node,.int .u64 ((e164.view.ID.N:Nat):Int),.int .i64 e164.view.ID.P,.int .u16 ((e164.view.Set:Nat):Int),e164.vs,.slice A246 ((R ++ [(GItem.mk e14.From e14.M)]).length) c247,.int .i64 e164.safe,.int .u64 ((e164.next.N:Nat):Int),.int .i64 e164.next.P]):=by rw [hn256]; exact ok252
 have hs258:St H3 w250 (row 62 9 v_out ((out.set ((((out.length:Nat):Int) - 1).toNat) (LR.mk e164.node e164.view e164.vs (.slice A246 ((R ++ [(GItem.mk e14.From e14.M)]).length) c247) e164.safe e164.next)).length) (splice c_out (((((out.length:Nat):Int) - 1).toNat) * 9) [.int .i64 e164.node,.int .u64 ((e164.view.ID.N:Nat):Int),.int .i64 e164.view.ID.P,.int .u16 ((e164.view.Set:Nat):Int),e164.vs,.slice A246 ((R ++ [(GItem.mk e14.From e14.M)]).length) c247,.int .i64 e164.safe,.int .u64 ((e164.next.N:Nat):Int),.int .i64 e164.next.P])::row 34 2 (.slice A246 ((R ++ [(GItem.mk e14.From e14.M)]).length) c247) ((R ++ [(GItem.mk e14.From e14.M)]).length) cs240::obj g233 34 [.int .i64 e14.From,.slice A29 n30 c31]::obj g191 34 [.int .i64 e14.From,.slice A29 n30 c31]::obj g33 49 [.int .u8 ((e14.Kind:Nat):Int),.int .u64 ((e14.View.ID.N:Nat):Int),.int .i64 e14.View.ID.P,.int .u16 ((e14.View.Set:Nat):Int),.int .i64 e14.From,.slice A29 n30 c31]::row 34 2 vS S.length cS::L):=by rw [hn256]; exact hs251
 refine u_new (S':=fun u => St H3 u (row 62 9 v_out ((out.set ((((out.length:Nat):Int) - 1).toNat) (LR.mk e164.node e164.view e164.vs (.slice A246 ((R ++ [(GItem.mk e14.From e14.M)]).length) c247) e164.safe e164.next)).length) (splice c_out (((((out.length:Nat):Int) - 1).toNat) * 9) [.int .i64 e164.node,.int .u64 ((e164.view.ID.N:Nat):Int),.int .i64 e164.view.ID.P,.int .u16 ((e164.view.Set:Nat):Int),e164.vs,.slice A246 ((R ++ [(GItem.mk e14.From e14.M)]).length) c247,.int .i64 e164.safe,.int .u64 ((e164.next.N:Nat):Int),.int .i64 e164.next.P])::row 34 2 (.slice A246 ((R ++ [(GItem.mk e14.From e14.M)]).length) c247) ((R ++ [(GItem.mk e14.From e14.M)]).length) cs240::obj g233 34 [.int .i64 e14.From,.slice A29 n30 c31]::obj g191 34 [.int .i64 e14.From,.slice A29 n30 c31]::obj g33 49 [.int .u8 ((e14.Kind:Nat):Int),.int .u64 ((e14.View.ID.N:Nat):Int),.int .i64 e14.View.ID.P,.int .u16 ((e14.View.Set:Nat):Int),.int .i64 e14.From,.slice A29 n30 c31]::row 34 2 vS S.length cS::L)) rfl (fun u hu => hu.drop.drop.drop) hs258 ?_
 refine u_nil ?_
 refine n_block (n_block (n_then (c_region (st (v:=.int .i64 (((i + 1):Nat):Int)) (x_add (k:=.i64) (a:=((i:Nat):Int)) (b:=1) (.tmp rfl hρ11) .const ((w64 (by omega) (by omega)).trans (by omega))) ?_))))
 refine st (v:=.int .i64 (((i + 1):Nat):Int)) (x_move (.tmp rfl rfl)) ?_
 refine c_nil ?_
 refine n_then ⟨_,_,rfl,?_,H3,(i + 1),(out.set ((((out.length:Nat):Int) - 1).toNat) (LR.mk e164.node e164.view e164.vs (.slice A246 ((R ++ [(GItem.mk e14.From e14.M)]).length) c247) e164.safe e164.next)),v_out,(splice c_out (((((out.length:Nat):Int) - 1).toNat) * 9) [.int .i64 e164.node,.int .u64 ((e164.view.ID.N:Nat):Int),.int .i64 e164.view.ID.P,.int .u16 ((e164.view.Set:Nat):Int),e164.vs,.slice A246 ((R ++ [(GItem.mk e14.From e14.M)]).length) c247,.int .i64 e164.safe,.int .u64 ((e164.next.N:Nat):Int),.int .i64 e164.next.P]),ini,(some (GLife.mk f_e164.node f_e164.view f_e164.sent (f_e164.recv ++ [GItem.mk e14.From e14.M]) f_e164.safe f_e164.next)),S,vS,cS,(R ++ [(GItem.mk e14.From e14.M)]),(.slice A246 ((R ++ [(GItem.mk e14.From e14.M)]).length) c247),cs240,hρ7,hρ8,hρ9,hρ10,rfl,hg4,ok257,hk253,(by omega),(lvRun_next hx18 hrun (lv_recv (by omega) hop_e164 (by rw [← hvw_e164]; exact of_decide_eq_true hc183))),(rel_put hrel hop_e164 hx166 (by omega) hvs_e164 rfl hnd_e164 hvw_e164 hsf_e164 hnx_e164 ⟨hs0_e164,(by show f_e164.safe ≤ ((f_e164.recv ++ [_]).length:Nat); rw [List.length_append]; omega)⟩),okS,hkS,ok241,hk242,hSl_e164,(by rw [hRl_e164]; rfl),(by first | omega | (simp only [List.length_append,List.length_singleton,List.length_set]; omega)),(by first | omega | (simp only [List.length_append,List.length_singleton,List.length_set]; omega)),(by first | omega | (simp only [List.length_append,List.length_singleton,List.length_set]; omega)),((((((hs258.p2).drop.p2).drop.p2).drop.p1).p2).p2),rfl⟩
 omega
 have hp230:¬ ((((e14.Kind:Nat):Int):Int) = 3):=of_decide_eq_false hc230
 refine c_cond_f (t:=false) (.tmp rfl (cVb hc230)) rfl ?_
 refine c_seq (c_region (st (v:=.bool (decide ((((e14.Kind:Nat):Int):Int) = 4))) (x_eql (k:=.u8) (a:=((e14.Kind:Nat):Int)) (b:=4) (.tmp rfl rfl) .const) ?_))
 refine st (v:=.bool (decide ((((e14.Kind:Nat):Int):Int) = 4))) (x_assign (.tmp rfl rfl)) ?_
 refine c_nil (n_then ?_)
 rcases Bool.eq_false_or_eq_true (decide ((((e14.Kind:Nat):Int):Int) = 4)) with hc259 | hc259
 have hp259:(((e14.Kind:Nat):Int):Int) = 4:=of_decide_eq_true hc259
 refine c_cond_t (t:=true) (.tmp rfl (cVb hc259)) rfl ?_
 refine c_seq (c_seq (q_region mixed hs197 (by kernel_rfl) ?_))
 refine q_st (v:=.pointer (some ⟨g188,(((((out.length:Nat):Int) - 1).toNat) * 9),none⟩)) (fun w hs => (x_move (.tmp rfl rfl))) ?_
 refine q_st (v:=.pointer (some ⟨g188,(((((out.length:Nat):Int) - 1).toNat) * 9),none⟩)) (fun w hs => (x_nilCheck (.tmp rfl rfl))) ?_
 refine q_st (v:=.pointer (some ⟨g188,(((((out.length:Nat):Int) - 1).toNat) * 9) + 6,none⟩)) (fun w hs => (fa62_4 (.tmp rfl rfl))) ?_
 refine q_st (v:=.int .i64 e164.safe) (fun w hs => (ld3 (.tmp rfl rfl) ((hs.rowAt 2 rfl hv190 (((((out.length:Nat):Int) - 1).toNat) * 9) hsub168).cell 6 rfl))) ?_
 refine q_st (v:=.pointer (some ⟨g188,(((((out.length:Nat):Int) - 1).toNat) * 9),none⟩)) (fun w hs => (x_move (.tmp rfl rfl))) ?_
 refine q_st (v:=.pointer (some ⟨g188,(((((out.length:Nat):Int) - 1).toNat) * 9),none⟩)) (fun w hs => (x_nilCheck (.tmp rfl rfl))) ?_
 refine q_st (v:=.pointer (some ⟨g188,(((((out.length:Nat):Int) - 1).toNat) * 9) + 5,none⟩)) (fun w hs => (fa62_3 (.tmp rfl rfl))) ?_
 refine q_st (v:=e164.vr) (fun w hs => (ld25 (.tmp rfl rfl) ((hs.rowAt 2 rfl hv190 (((((out.length:Nat):Int) - 1).toNat) * 9) hsub168).cell 5 rfl))) ?_
 obtain ⟨A260,c261,hv262,hc263⟩:=okR.slice
 refine q_st (v:=.int .i64 ((R.length:Nat):Int)) (fun w hs => (x_len (n:=R.length) Tryd.underlying25 (.tmp rfl (hvr_e164.trans hv262)))) ?_
 refine q_st (v:=.bool (decide ((((R.length:Nat):Int):Int) ≤ e164.safe))) (fun w hs => (x_geq (k:=.i64) (a:=e164.safe) (b:=((R.length:Nat):Int)) (.tmp rfl rfl) (.tmp rfl rfl))) ?_
 refine q_st (v:=.bool (decide ((((R.length:Nat):Int):Int) ≤ e164.safe))) (fun w hs => (x_move (.tmp rfl rfl))) ?_
 rcases Bool.eq_false_or_eq_true (decide ((((R.length:Nat):Int):Int) ≤ e164.safe)) with hc264 | hc264
 have hp264:(((R.length:Nat):Int):Int) ≤ e164.safe:=of_decide_eq_true hc264
 refine q_no (yk 137 true rfl rfl hc264) rfl ?_
 refine q_no (yk 137 true rfl rfl hc264) rfl ?_
 refine q_no (yk 137 true rfl rfl hc264) rfl ?_
 refine q_no (yk 137 true rfl rfl hc264) rfl ?_
 refine q_no (yk 137 true rfl rfl hc264) rfl ?_
 refine q_no (yk 137 true rfl rfl hc264) rfl ?_
 refine q_no (yk 137 true rfl rfl hc264) rfl ?_
 refine q_no (yk 137 true rfl rfl hc264) rfl ?_
 refine q_no (yk 137 true rfl rfl hc264) rfl ?_
 refine q_no (yk 137 true rfl rfl hc264) rfl ?_
 refine q_no (yk 137 true rfl rfl hc264) rfl ?_
 refine q_no (yk 137 true rfl rfl hc264) rfl ?_
 refine q_no (yk 137 true rfl rfl hc264) rfl ?_
 refine q_st (v:=.bool true) (fun w hs => (x_pick_t (.tmp rfl (cVb hc264)) .const)) ?_
 refine q_nil ?_
 intro w hs265
 refine n_then (c_cond_t (t:=true) (.tmp rfl rfl) rfl ?_)
 refine c_seq (c_region (st (v:=.slice none 0 0) (x_assign .const) ?_))
 refine st (v:=.bool false) (x_assign .const) ?_
 refine c_nil (n_then (c_ret (r_then (r_block (r_block (r_then (r_then (r_block (r_then (leave_ret (res_two (v:=.slice none 0 0) (u:=.bool false) rfl (.mk rfl rfl) (.mk rfl rfl)) ?_))))))))))
 have hans266:livesT node l = ([],false):=lives_no (lvRun_next hx18 hrun (lv_unsafe (by omega) hop_e164 (by rw [List.getElem?_eq_none (by omega)]; simp)))
 rw [hans266]
 exact ⟨H3,none,0,0,hg4,rfl,(Sl.nil _ _ none),hs265.drop.drop.drop.drop.drop⟩
 have hp264:¬ ((((R.length:Nat):Int):Int) ≤ e164.safe):=of_decide_eq_false hc264
 refine q_yes (yk 137 false rfl rfl hc264) ?_
 refine q_st (v:=.pointer (some ⟨g188,(((((out.length:Nat):Int) - 1).toNat) * 9),none⟩)) (fun w hs => (x_move (.tmp rfl rfl))) ?_
 refine q_yes (yk 137 false rfl rfl hc264) ?_
 refine q_st (v:=.pointer (some ⟨g188,(((((out.length:Nat):Int) - 1).toNat) * 9),none⟩)) (fun w hs => (x_nilCheck (.tmp rfl rfl))) ?_
 refine q_yes (yk 137 false rfl rfl hc264) ?_
 refine q_st (v:=.pointer (some ⟨g188,(((((out.length:Nat):Int) - 1).toNat) * 9) + 5,none⟩)) (fun w hs => (fa62_3 (.tmp rfl rfl))) ?_
 refine q_yes (yk 137 false rfl rfl hc264) ?_
 refine q_st (v:=e164.vr) (fun w hs => (ld25 (.tmp rfl rfl) ((hs.rowAt 2 rfl hv190 (((((out.length:Nat):Int) - 1).toNat) * 9) hsub168).cell 5 rfl))) ?_
 refine q_yes (yk 137 false rfl rfl hc264) ?_
 refine q_st (v:=.pointer (some ⟨g188,(((((out.length:Nat):Int) - 1).toNat) * 9),none⟩)) (fun w hs => (x_move (.tmp rfl rfl))) ?_
 refine q_yes (yk 137 false rfl rfl hc264) ?_
 refine q_st (v:=.pointer (some ⟨g188,(((((out.length:Nat):Int) - 1).toNat) * 9),none⟩)) (fun w hs => (x_nilCheck (.tmp rfl rfl))) ?_
 refine q_yes (yk 137 false rfl rfl hc264) ?_
 refine q_st (v:=.pointer (some ⟨g188,(((((out.length:Nat):Int) - 1).toNat) * 9) + 6,none⟩)) (fun w hs => (fa62_4 (.tmp rfl rfl))) ?_
 refine q_yes (yk 137 false rfl rfl hc264) ?_
 refine q_st (v:=.int .i64 e164.safe) (fun w hs => (ld3 (.tmp rfl rfl) ((hs.rowAt 2 rfl hv190 (((((out.length:Nat):Int) - 1).toNat) * 9) hsub168).cell 6 rfl))) ?_
 refine q_yes (yk 137 false rfl rfl hc264) ?_
 obtain ⟨g267,c268,hv269⟩:=okR.pos (by omega)
 obtain ⟨e270,cs271,hx272,hr273,hsub274⟩:=Kn.rows_get (i:=e164.safe.toNat) hkR (by omega)
 obtain ⟨A277,n278,c279,rfl,⟨b275,b276⟩,hy280⟩:=hr273
 have:=hy280.len; have:=hy280.bnd; have:=hy280.le
 refine q_st (v:=.pointer (some ⟨g267,(e164.safe.toNat * 2),none⟩)) (fun w hs => (ixo25 (.tmp rfl (hvr_e164.trans hv269)) rfl (i:=e164.safe) (.tmp rfl rfl) (by omega) (by omega) (by omega))) ?_
 refine q_yes (yk 137 false rfl rfl hc264) ?_
 refine q_st (v:=.agg #[.int .i64 e270.From,.slice A277 n278 c279]) (fun w hs => (ld34 (cs:=[.int .i64 e270.From,.slice A277 n278 c279]) (.tmp rfl rfl) ((hs.rowAt 4 rfl hv269 (e164.safe.toNat * 2) hsub274).sub 0 rfl) rfl)) ?_
 refine q_yes (yk 137 false rfl rfl hc264) ?_
 refine q_st (v:=.agg #[.int .i64 e14.From,.slice A29 n30 c31]) (fun w hs => (ld34 (cs:=[.int .i64 e14.From,.slice A29 n30 c31]) (.tmp rfl rfl) (hs.at_ 0 rfl (0) rfl) rfl)) ?_
 refine q_yes (yk 137 false rfl rfl hc264) ?_
 refine q_c (v:=.bool (decide (e270 = (GItem.mk e14.From e14.M)))) cb20 .func (evs2 (.tmp rfl rfl) (.tmp rfl rfl)) (fun w hs => same_item hs e270 (k_a:=[.int .i64 e270.From,.slice A277 n278 c279]) ⟨A277,n278,c279,rfl,⟨b275,b276⟩,hy280⟩ (GItem.mk e14.From e14.M) (k_b:=[.int .i64 e14.From,.slice A29 n30 c31]) ⟨A29,n30,c31,rfl,⟨b27,b28⟩,hy32⟩ ) ?_
 refine q_yes (yk 137 false rfl rfl hc264) ?_
 refine q_st (v:=.bool (!(decide (e270 = (GItem.mk e14.From e14.M))))) (fun w hs => (x_not (.tmp rfl rfl))) ?_
 refine q_st (v:=.bool (!(decide (e270 = (GItem.mk e14.From e14.M))))) (fun w hs => (x_pick_f (.tmp rfl (cVb hc264)) (.tmp rfl rfl))) ?_
 refine q_nil ?_
 intro w hs283
 refine n_then ?_
 rcases Bool.eq_false_or_eq_true (decide (e270 = (GItem.mk e14.From e14.M))) with hc284 | hc284
 refine c_cond_f (t:=false) (.tmp rfl (cVb (by rw [hc284]; rfl))) rfl ?_
 refine c_skip (n_then (c_region (st (v:=.pointer (some ⟨g188,(((((out.length:Nat):Int) - 1).toNat) * 9),none⟩)) (x_move (.tmp rfl rfl)) ?_)))
 refine st (v:=.pointer (some ⟨g188,(((((out.length:Nat):Int) - 1).toNat) * 9),none⟩)) (x_nilCheck (.tmp rfl rfl)) ?_
 refine st (v:=.pointer (some ⟨g188,(((((out.length:Nat):Int) - 1).toNat) * 9) + 6,none⟩)) (fa62_4 (.tmp rfl rfl)) ?_
 refine st (v:=.int .i64 e164.safe) (ld3 (.tmp rfl rfl) ((hs283.rowAt 2 rfl hv190 (((((out.length:Nat):Int) - 1).toNat) * 9) hsub168).cell 6 rfl)) ?_
 refine st (v:=.int .i64 (e164.safe + 1)) (x_add (k:=.i64) (a:=e164.safe) (b:=1) (.tmp rfl rfl) .const (w64 (by omega) (by omega))) ?_
 refine st (v:=.pointer (some ⟨g188,(((((out.length:Nat):Int) - 1).toNat) * 9),none⟩)) (x_nilCheck (.tmp rfl rfl)) ?_
 refine st (v:=.pointer (some ⟨g188,(((((out.length:Nat):Int) - 1).toNat) * 9) + 6,none⟩)) (fa62_4 (.tmp rfl rfl)) ?_
 have hs285:=hs283.p2
 have hl291:((((out.length:Nat):Int) - 1).toNat) * 9 + 9 ≤ c_out.length:=by have h1:=(hk_out).1; have h2:kLR.sz = 9:=rfl; rw [h2] at h1; omega
 have hr290:kLR.rep H3 (LR.mk e164.node e164.view e164.vs e164.vr (e164.safe + 1) e164.next) [.int .i64 e164.node,.int .u64 ((e164.view.ID.N:Nat):Int),.int .i64 e164.view.ID.P,.int .u16 ((e164.view.Set:Nat):Int),e164.vs,e164.vr,.int .i64 (e164.safe + 1),.int .u64 ((e164.next.N:Nat):Int),.int .i64 e164.next.P]:=⟨rfl,⟨b169,b170⟩,b171,⟨b172,b173⟩,b174,b175,b176,(show IB (e164.safe + 1) from ⟨by omega,by omega⟩),b179,⟨b180,b181⟩⟩
 refine st_m0 (stor3 hs285 hv190 (i:=(((((out.length:Nat):Int) - 1).toNat) * 9) + 6) (xs':=splice c_out (((((out.length:Nat):Int) - 1).toNat) * 9) [.int .i64 e164.node,.int .u64 ((e164.view.ID.N:Nat):Int),.int .i64 e164.view.ID.P,.int .u16 ((e164.view.Set:Nat):Int),e164.vs,e164.vr,.int .i64 (e164.safe + 1),.int .u64 ((e164.next.N:Nat):Int),.int .i64 e164.next.P]) (.tmp rfl rfl) (u:=.int .i64 (e164.safe + 1)) (.tmp rfl rfl) rfl (by omega) one1 (splice_part (c:=[.int .i64 e164.node,.int .u64 ((e164.view.ID.N:Nat):Int),.int .i64 e164.view.ID.P,.int .u16 ((e164.view.Set:Nat):Int),e164.vs,e164.vr,.int .i64 e164.safe,.int .u64 ((e164.next.N:Nat):Int),.int .i64 e164.next.P]) (k:=6) hsub168 (Nat.le_of_ble_eq_true rfl) (by simpa using hl291))) ?_
 rintro w286 hs287
 have hk289:=Kn.rows_set (d:=kLR.toKn) hk_out (i:=((((out.length:Nat):Int) - 1).toNat)) (by omega) hr290
 have ok288:=ok_out.splice (i:=((((out.length:Nat):Int) - 1).toNat) * 9) (vs:=[.int .i64 e164.node,.int .u64 ((e164.view.ID.N:Nat):Int),.int .i64 e164.view.ID.P,.int .u16 ((e164.view.Set:Nat):Int),e164.vs,e164.vr,.int .i64 (e164.safe + 1),.int .u64 ((e164.next.N:Nat):Int),.int .i64 e164.next.P]) (by simpa using hl291)
 have hn292:(out.set ((((out.length:Nat):Int) - 1).toNat) (LR.mk e164.node e164.view e164.vs e164.vr (e164.safe + 1) e164.next)).length = out.length:=List.length_set
 have ok293:RowOk kLR.sz v_out (out.set ((((out.length:Nat):Int) - 1).toNat) (LR.mk e164.node e164.view e164.vs e164.vr (e164.safe + 1) e164.next)).length (splice c_out (((((out.length:Nat):Int) - 1).toNat) * 9) [.int .i64 e164.node,.int .u64 ((e164.view.ID.N:Nat):Int),.int .i64 e164.view.ID.P,.int .u16 ((e164.view.Set:Nat):Int),e164.vs,e164.vr,.int .i64 (e164.safe + 1),.int .u64 ((e164.next.N:Nat):Int),.int .i64 e164.next.P]):=by rw [hn292]; exact ok288
 have hs294:St H3 w286 (row 62 9 v_out ((out.set ((((out.length:Nat):Int) - 1).toNat) (LR.mk e164.node e164.view e164.vs e164.vr (e164.safe + 1) e164.next)).length) (splice c_out (((((out.length:Nat):Int) - 1).toNat) * 9) [.int .i64 e164.node,.int .u64 ((e164.view.ID.N:Nat):Int),.int .i64 e164.view.ID.P,.int .u16 ((e164.view.Set:Nat):Int),e164.vs,e164.vr,.int .i64 (e164.safe + 1),.int .u64 ((e164.next.N:Nat):Int),.int .i64 e164.next.P])::obj g191 34 [.int .i64 e14.From,.slice A29 n30 c31]::obj g33 49 [.int .u8 ((e14.Kind:Nat):Int),.int .u64 ((e14.View.ID.N:Nat):Int),.int .i64 e14.View.ID.P,.int .u16 ((e14.View.Set:Nat):Int),.int .i64 e14.From,.slice A29 n30 c31]::row 34 2 vS S.length cS::row 34 2 vR R.length cR::L):=by rw [hn292]; exact hs287
 refine c_nil (n_block (n_block (n_then (c_region (st (v:=.int .i64 (((i + 1):Nat):Int)) (x_add (k:=.i64) (a:=((i:Nat):Int)) (b:=1) (.tmp rfl hρ11) .const ((w64 (by omega) (by omega)).trans (by omega))) ?_)))))
 refine st (v:=.int .i64 (((i + 1):Nat):Int)) (x_move (.tmp rfl rfl)) ?_
 refine c_nil ?_
 refine n_then ⟨_,_,rfl,?_,H3,(i + 1),(out.set ((((out.length:Nat):Int) - 1).toNat) (LR.mk e164.node e164.view e164.vs e164.vr (e164.safe + 1) e164.next)),v_out,(splice c_out (((((out.length:Nat):Int) - 1).toNat) * 9) [.int .i64 e164.node,.int .u64 ((e164.view.ID.N:Nat):Int),.int .i64 e164.view.ID.P,.int .u16 ((e164.view.Set:Nat):Int),e164.vs,e164.vr,.int .i64 (e164.safe + 1),.int .u64 ((e164.next.N:Nat):Int),.int .i64 e164.next.P]),ini,(some (GLife.mk f_e164.node f_e164.view f_e164.sent f_e164.recv (f_e164.safe + 1) f_e164.next)),S,vS,cS,R,vR,cR,hρ7,hρ8,hρ9,hρ10,rfl,hg4,ok293,hk289,(by omega),(lvRun_next hx18 hrun (lv_safe (by omega) hop_e164 (by rw [← hvw_e164]; exact of_decide_eq_true hc183) (by have h9:=hx272; rw [hRl_e164,hsf_e164] at h9; rw [h9]; rw [of_decide_eq_true hc284]))),(rel_put hrel hop_e164 hx166 (by omega) hvs_e164 hvr_e164 hnd_e164 hvw_e164 (by show _ + 1 = _ + 1; rw [hsf_e164]) hnx_e164 ⟨(by show 0 ≤ f_e164.safe + 1; omega),(by show f_e164.safe + 1 ≤ ((f_e164.recv.length:Nat):Int); omega)⟩),okS,hkS,okR,hkR,hSl_e164,hRl_e164,(by first | omega | (simp only [List.length_append,List.length_singleton,List.length_set]; omega)),(by first | omega | (simp only [List.length_append,List.length_singleton,List.length_set]; omega)),(by first | omega | (simp only [List.length_append,List.length_singleton,List.length_set]; omega)),(((((hs294.p1).drop.p1).drop.p2).p2).p2),rfl⟩
 omega
 refine c_cond_t (t:=true) (.tmp rfl (cVb (by rw [hc284]; rfl))) rfl ?_
 refine c_seq (c_region (st (v:=.slice none 0 0) (x_assign .const) ?_))
 refine st (v:=.bool false) (x_assign .const) ?_
 refine c_nil (n_then (c_ret (r_then (r_block (r_block (r_then (r_then (r_block (r_then (leave_ret (res_two (v:=.slice none 0 0) (u:=.bool false) rfl (.mk rfl rfl) (.mk rfl rfl)) ?_))))))))))
 have hans295:livesT node l = ([],false):=lives_no (lvRun_next hx18 hrun (lv_unsafe (by omega) hop_e164 (by have h9:=hx272; rw [hRl_e164,hsf_e164] at h9; rw [h9]; intro h8; exact of_decide_eq_false hc284 (Option.some.inj h8))))
 rw [hans295]
 exact ⟨H3,none,0,0,hg4,rfl,(Sl.nil _ _ none),hs283.drop.drop.drop.drop.drop⟩
 have hp259:¬ ((((e14.Kind:Nat):Int):Int) = 4):=of_decide_eq_false hc259
 refine c_cond_f (t:=false) (.tmp rfl (cVb hc259)) rfl ?_
 refine c_seq (c_region (st (v:=.slice none 0 0) (x_assign .const) ?_))
 refine st (v:=.bool false) (x_assign .const) ?_
 refine c_nil (n_then (c_ret (r_block (r_block (r_then (r_then (r_block (r_then (leave_ret (res_two (v:=.slice none 0 0) (u:=.bool false) rfl (.mk rfl rfl) (.mk rfl rfl)) ?_)))))))))
 have hans296:livesT node l = ([],false):=lives_no (lvRun_next hx18 hrun (lv_kind (by omega) (by omega) (by omega) (by omega)))
 rw [hans296]
 exact ⟨H3,none,0,0,hg4,rfl,(Sl.nil _ _ none),hs197.drop.drop.drop.drop.drop⟩
 have hp183:¬ (e14.View = e164.view):=of_decide_eq_false hc183
 refine c_cond_t (t:=true) (.tmp rfl (cVb (by rw [hc183]; rfl))) rfl ?_
 refine c_seq (c_region (st (v:=.slice none 0 0) (x_assign .const) ?_))
 refine st (v:=.bool false) (x_assign .const) ?_
 refine c_nil (n_then (c_ret (r_then (r_block (r_then (r_then (r_block (r_then (leave_ret (res_two (v:=.slice none 0 0) (u:=.bool false) rfl (.mk rfl rfl) (.mk rfl rfl)) ?_)))))))))
 have hans297:livesT node l = ([],false):=lives_no (lvRun_next hx18 hrun (lv_ne (by omega) hop_e164 (by rw [← hvw_e164]; exact of_decide_eq_false hc183)))
 rw [hans297]
 exact ⟨H3,none,0,0,hg4,rfl,(Sl.nil _ _ none),hs182.drop.drop.drop.drop⟩
 have hp13:¬ ((((i:Nat):Int):Int) < ((n_l:Nat):Int)):=of_decide_eq_false hc13
 refine c_cond_f (t:=false) (.tmp rfl (cVb hc13)) rfl ?_
 refine c_exit (x_then (x_then (x_here (n_then (c_seq (c_region (st (v:=v_out) (x_move (.tmp rfl hρ8)) ?_)))))))
 refine st (v:=v_out) (x_assign (.tmp rfl rfl)) ?_
 refine st (v:=.bool true) (x_assign .const) ?_
 refine c_nil (n_then (c_ret (leave_ret (res_two (v:=v_out) (u:=.bool true) rfl (.mk rfl rfl) (.mk rfl rfl)) ?_)))
 have hs298:=hs12.p1
 have:S.length * 32 ≤ 140737488351232:=by omega
 obtain ⟨H299,A300,c301,hle302,hs303,rfl,sp304⟩:=hs298.freezeSl (d:=kItem) okS hkS this
 have:=sp304.len; have:=sp304.le
 have hs305:=hs303.p1
 have:R.length * 32 ≤ 140737488351232:=by omega
 obtain ⟨H306,A307,c308,hle309,hs310,rfl,sp311⟩:=hs305.freezeSl (d:=kItem) okR (Kn.rows_mono hkR hle302) this
 have:=sp311.len; have:=sp311.le
 have:out.length * 104 ≤ 140737488351232:=by omega
 obtain ⟨H312,A313,c314,hle315,hs316,rfl,sp317⟩:=hs310.freezeSl (d:=kLR) ok_out (Kn.rows_mono (Kn.rows_mono hk_out hle302) hle309) this
 have:=sp317.len; have:=sp317.le
 have sp318:Sl kLife H312 A313 out.length c314 (ini ++ opn.toList):=lr_lives sp317 (rel_done hrel ((hle302.trans hle309).trans hle315) (by rw [← hS]; exact (sp304.mono (hle309.trans hle315))) (by rw [← hR]; exact (sp311.mono hle315)) rfl rfl)
 have hans319:livesT node l = (ini ++ opn.toList,true):=lives_yes hrun (by omega)
 rw [hans319]
 exact ⟨H312,A313,out.length,c314,(((hg4.trans hle302).trans hle309).trans hle315),rfl,sp318,hs316⟩
end Go.Proofs.YtnikcgcbkdeeeaaDoor

set_option linter.unusedVariables false
set_option linter.unusedSimpArgs false
namespace Go.Proofs.YtnikcgcbkdeeeaaDoor
open Go Go.FM Go.Proofs
attribute [local irreducible] wpList wpQuiet Code.wp Calls
set_option maxHeartbeats 8000000 in
theorem judge_spec {H:Hp} {w:World} {L:List Res} (hs:St H w (L)) {A_tr:Option Addr} {n_tr c_tr:Nat} (tr:(List (List GEvent))) (h_tr:Sl (kSl kEvent) H A_tr n_tr c_tr tr) (h18:tr.length ≤ 18) (hsm:∀ e ∈ tr,e.length ≤ 1000) (htab:Tab H):Calls Tryd.prog 15 #[.slice A_tr n_tr c_tr] w (fun e w' => ∃ (H':Hp),H.le H'∧e = .returned (.bool (judgeV tr))∧St H' w' (L)):=by
 have:=h_tr.len; have:=h_tr.le; have:n_tr * 24 ≤ 140737488351232:=h_tr.bnd
 refine enter (args:=[.slice A_tr n_tr c_tr]) (N:=65) Tryd.func15 rfl rfl rfl ?_
 refine c_seq (c_region (st (v:=.bool false) (x_assign .const) ?_))
 refine c_nil (n_then (c_seq (c_region (st (v:=.slice none 0 0) (x_assign .const) ?_))))
 refine c_nil (n_then (c_seq (c_seq (c_region (st (v:=.slice A_tr n_tr c_tr) (x_move (.tmp rfl rfl)) ?_)))))
 refine st (v:=.int .i64 ((n_tr:Nat):Int)) (x_len (n:=n_tr) Tryd.underlying36 (.tmp rfl rfl)) ?_
 refine st (v:=.int .i64 0) (x_move .const) ?_
 refine c_nil (n_then (c_block ?_))
 have hs3:St H _ (row 62 9 (.slice none 0 0) (([]:List GLife).length) []::L):=hs.krowNil 62 kLife
 have:([]:List GLife).length = 0:=rfl
 refine c_loop (fun ρ w mm => ∃ (H1:Hp) (i:Nat) (all:List GLife) (v_all:Value) (c_all:List Value),ρ 3 = v_all∧ρ 12 = .slice A_tr n_tr c_tr∧ρ 13 = .int .i64 ((n_tr:Nat):Int)∧ρ 14 = .int .i64 ((i:Nat):Int)∧(H.le H1)∧(RowOk kLife.sz v_all all.length c_all)∧(kLife.toKn.rows H1 all c_all)∧(i ≤ tr.length)∧(all = allTo tr i)∧(∀ (j:Nat) (e:List GEvent),j < i → tr[j]? = some e → (livesT (j:Int) e).2 = true)∧(∀ b ∈ all,0 ≤ b.node∧b.node < 16)∧(all.length ≤ i * 1000)∧St H1 w (row 62 9 v_all all.length c_all::L)∧mm = tr.length - i) _ ⟨H,0,([]:List GLife),(.slice none 0 0),[],rfl,rfl,rfl,rfl,(Hp.le.refl _),(RowOk.knil kLife),(Kn.rows_nil _ _),(by omega),rfl,(fun j e h => absurd h (Nat.not_lt_zero _)),(fun b hb => absurd hb (by simp)),(Nat.zero_le _),hs3,rfl⟩ ?_
 rintro ρ w mm ⟨H1,i,all,v_all,c_all,hρ5,hρ6,hρ7,hρ8,hg2,ok_all,hk_all,hi,hal,hok,hno,hln,hs9,rfl⟩
 refine c_seq (c_region (st (v:=.bool (decide ((((i:Nat):Int):Int) < ((n_tr:Nat):Int)))) (x_lss (k:=.i64) (a:=((i:Nat):Int)) (b:=((n_tr:Nat):Int)) (.tmp rfl hρ8) (.tmp rfl hρ7)) ?_))
 refine c_nil (n_then (c_seq ?_))
 rcases Bool.eq_false_or_eq_true (decide ((((i:Nat):Int):Int) < ((n_tr:Nat):Int))) with hc10 | hc10
 have hp10:(((i:Nat):Int):Int) < ((n_tr:Nat):Int):=of_decide_eq_true hc10
 refine c_cond_t (t:=true) (.tmp rfl (cVb hc10)) rfl ?_
 refine c_skip (n_then (c_seq (c_block (c_seq (c_region (st (v:=.int .i64 ((i:Nat):Int)) (x_move (.tmp rfl hρ8)) ?_))))))
 obtain ⟨e11,b12,o13,cs14,hx15,hA16,hr17,hat18⟩:=(h_tr.mono hg2).get (i:=i) (by omega)
 obtain ⟨A19,n20,c21,rfl,hl22⟩:=hr17
 have:=hl22.len; have:n20 * 64 ≤ 140737488351232:=hl22.bnd; have:=hl22.le
 have hat18x:∀ {w:World} {L:List Res},St H1 w L → At w ⟨b12,o13 + i * 1,none⟩ [.slice A19 n20 c21]:=fun h => hat18 h
 have hsm_e11:=hsm e11 (List.mem_of_getElem? hx15)
 have hlo_e11:=lives_ok (node:=((i:Nat):Int)) (l:=e11)
 have hll_e11:=hlo_e11.2
 refine st (v:=.pointer (some ⟨b12,(o13 + i * 1),none⟩)) (ixo36 (.tmp rfl hρ6) hA16 (i:=((i:Nat):Int)) (.tmp rfl hρ8) (by omega) (by omega) (by omega)) ?_
 refine st (v:=.slice A19 n20 c21) (ld41 (.tmp rfl rfl) ((hat18x hs9).cell 0 rfl)) ?_
 refine st (v:=.int .i64 ((i:Nat):Int)) (x_assign (.tmp rfl rfl)) ?_
 refine st (v:=.slice A19 n20 c21) (x_assign (.tmp rfl rfl)) ?_
 refine c_nil (n_then (c_seq (c_region (st (v:=.int .i64 ((i:Nat):Int)) (x_move (.tmp rfl rfl)) ?_))))
 refine st (v:=.slice A19 n20 c21) (x_move (.tmp rfl rfl)) ?_
 refine st_c cb24 .func (evs2 (.tmp rfl rfl) (.tmp rfl rfl)) (lives_spec hs9 ((i:Nat):Int) ⟨by omega,by omega⟩ e11 hl22 (by omega)) ?_
 rintro e w23 ⟨H25,A27,n28,c29,hle26,rfl,sp30,hs24⟩
 have:=sp30.len; have:=sp30.le; have:n28 * 104 ≤ 140737488351232:=sp30.bnd
 refine ⟨_,rfl,?_⟩
 refine st (v:=.tuple #[.slice A27 n28 c29,.bool ((livesT ((i:Nat):Int) e11).2)]) (x_move (.tmp rfl rfl)) ?_
 refine st (v:=.slice A27 n28 c29) (x_extract (.tmp rfl rfl) (i:=0) rfl) ?_
 refine st (v:=.bool ((livesT ((i:Nat):Int) e11).2)) (x_extract (.tmp rfl rfl) (i:=1) rfl) ?_
 refine st (v:=.slice A27 n28 c29) (x_assign (.tmp rfl rfl)) ?_
 refine st (v:=.bool ((livesT ((i:Nat):Int) e11).2)) (x_assign (.tmp rfl rfl)) ?_
 refine c_nil (n_then (c_seq (c_seq (c_region (st (v:=.bool ((livesT ((i:Nat):Int) e11).2)) (x_move (.tmp rfl rfl)) ?_)))))
 refine st (v:=.bool (!((livesT ((i:Nat):Int) e11).2))) (x_not (.tmp rfl rfl)) ?_
 refine c_nil (n_then ?_)
 rcases Bool.eq_false_or_eq_true ((livesT ((i:Nat):Int) e11).2) with hc31 | hc31
 refine c_cond_f (t:=false) (.tmp rfl (cVb (by rw [hc31]; rfl))) rfl ?_
 refine c_skip (n_then (c_region (st (v:=v_all) (x_move (.tmp rfl hρ5)) ?_)))
 refine st (v:=.slice A27 n28 c29) (x_move (.tmp rfl rfl)) ?_
 refine st_m (m_appSl (d:=kLife) (ys:=((livesT ((i:Nat):Int) e11).1)) Tryd.underlying58 inf62 rfl hs24 ok_all (Kn.rows_mono hk_all hle26) (.tmp rfl rfl) (.tmp rfl rfl) sp30 (by omega) (by decide)) ?_
 rintro v32 w33 ⟨cs34,ok35,hk36,hs37⟩
 have hn38:(all ++ ((livesT ((i:Nat):Int) e11).1)).length = all.length + n28:=by rw [List.length_append,sp30.len]
 refine st (v:=v32) (x_assign (.tmp rfl rfl)) ?_
 refine c_nil (n_block (n_then (c_region (st (v:=.int .i64 (((i + 1):Nat):Int)) (x_add (k:=.i64) (a:=((i:Nat):Int)) (b:=1) (.tmp rfl hρ8) .const ((w64 (by omega) (by omega)).trans (by omega))) ?_))))
 refine st (v:=.int .i64 (((i + 1):Nat):Int)) (x_move (.tmp rfl rfl)) ?_
 refine c_nil ?_
 refine n_then ⟨_,_,rfl,?_,H25,(i + 1),(all ++ ((livesT ((i:Nat):Int) e11).1)),v32,cs34,rfl,hρ6,hρ7,rfl,(hg2.trans hle26),ok35,hk36,(by omega),(all_next19 hx15 hal),(tr_next (p:=fun i e => (livesT (i:Int) e).2 = true) hok hx15 hc31),(fun b hb => by rcases List.mem_append.1 hb with h | h; exact hno b h; exact hlo_e11.1 b h),(by simp only [List.length_append]; omega),hs37,rfl⟩
 omega
 refine c_cond_t (t:=true) (.tmp rfl (cVb (by rw [hc31]; rfl))) rfl ?_
 refine c_seq (c_region (st (v:=.bool false) (x_assign .const) ?_))
 refine c_nil (n_then (c_ret (r_then (r_block (r_then (r_then (r_block (r_then (leave_ret (res_one (v:=.bool false) rfl (.mk rfl rfl)) ?_)))))))))
 have hans39:judgeV tr = false:=judge_no1 hx15 hc31
 rw [hans39]
 exact ⟨H25,(hg2.trans hle26),rfl,hs24.drop⟩
 have hp10:¬ ((((i:Nat):Int):Int) < ((n_tr:Nat):Int)):=of_decide_eq_false hc10
 refine c_cond_f (t:=false) (.tmp rfl (cVb hc10)) rfl ?_
 refine c_exit (x_then (x_then (x_here (n_then (c_seq (c_seq (c_region ?_)))))))
 have:all.length * 104 ≤ 140737488351232:=by omega
 obtain ⟨H40,A41,c42,hle43,hs44,rfl,sp45⟩:=hs9.freezeSl (d:=kLife) ok_all hk_all this
 have:=sp45.len; have:=sp45.le
 skip
 refine st (v:=.slice A41 all.length c42) (x_move (.tmp rfl hρ5)) ?_
 refine st (v:=.int .i64 ((all.length:Nat):Int)) (x_len (n:=all.length) Tryd.underlying58 (.tmp rfl rfl)) ?_
 refine st (v:=.int .i64 0) (x_move .const) ?_
 refine c_nil (n_then (c_block (c_loop (fun ρ w mm => ∃ (H46:Hp) (m:Nat),ρ 3 = .slice A41 all.length c42∧ρ 31 = .slice A41 all.length c42∧ρ 32 = .int .i64 ((all.length:Nat):Int)∧ρ 33 = .int .i64 ((m:Nat):Int)∧(H40.le H46)∧(m ≤ all.length)∧(∀ m':Nat,m' < m → lifeOk all m' = true)∧St H46 w (L)∧mm = all.length - m) _ ⟨H40,0,hρ5,rfl,rfl,rfl,(Hp.le.refl _),(by omega),(fun j h => absurd h (Nat.not_lt_zero _)),hs44,rfl⟩ ?_)))
 rintro ρ w mm ⟨H46,m,hρ48,hρ49,hρ50,hρ51,hg47,hm,hlf,hs52,rfl⟩
 refine c_seq (c_region (st (v:=.bool (decide ((((m:Nat):Int):Int) < ((all.length:Nat):Int)))) (x_lss (k:=.i64) (a:=((m:Nat):Int)) (b:=((all.length:Nat):Int)) (.tmp rfl hρ51) (.tmp rfl hρ50)) ?_))
 refine c_nil (n_then (c_seq ?_))
 rcases Bool.eq_false_or_eq_true (decide ((((m:Nat):Int):Int) < ((all.length:Nat):Int))) with hc53 | hc53
 have hp53:(((m:Nat):Int):Int) < ((all.length:Nat):Int):=of_decide_eq_true hc53
 refine c_cond_t (t:=true) (.tmp rfl (cVb hc53)) rfl ?_
 refine c_skip (n_then (c_seq (c_block (c_seq (c_region (st (v:=.int .i64 ((m:Nat):Int)) (x_move (.tmp rfl hρ51)) ?_))))))
 obtain ⟨e54,b55,o56,cs57,hx58,hA59,hr60,hat61⟩:=(sp45.mono hg47).get (i:=m) (by omega)
 obtain ⟨A68,n69,c70,A72,n73,c74,rfl,⟨b62,b63⟩,b64,⟨b65,b66⟩,b67,hl71,hl75,⟨b76,b77⟩,b78,⟨b79,b80⟩⟩:=hr60
 have:=hl71.len; have:n69 * 32 ≤ 140737488351232:=hl71.bnd; have:=hl71.le
 have:=hl75.len; have:n73 * 32 ≤ 140737488351232:=hl75.bnd; have:=hl75.le
 have hat61x:∀ {w:World} {L:List Res},St H46 w L → At w ⟨b55,o56 + m * 9,none⟩ [.int .i64 e54.node,.int .u64 ((e54.view.ID.N:Nat):Int),.int .i64 e54.view.ID.P,.int .u16 ((e54.view.Set:Nat):Int),.slice A68 n69 c70,.slice A72 n73 c74,.int .i64 e54.safe,.int .u64 ((e54.next.N:Nat):Int),.int .i64 e54.next.P]:=fun h => hat61 h
 refine st (v:=.pointer (some ⟨b55,(o56 + m * 9),none⟩)) (ixo58 (.tmp rfl hρ49) hA59 (i:=((m:Nat):Int)) (.tmp rfl hρ51) (by omega) (by omega) (by omega)) ?_
 refine st (v:=.agg #[.int .i64 e54.node,.int .u64 ((e54.view.ID.N:Nat):Int),.int .i64 e54.view.ID.P,.int .u16 ((e54.view.Set:Nat):Int),.slice A68 n69 c70,.slice A72 n73 c74,.int .i64 e54.safe,.int .u64 ((e54.next.N:Nat):Int),.int .i64 e54.next.P]) (ld62 (cs:=[.int .i64 e54.node,.int .u64 ((e54.view.ID.N:Nat):Int),.int .i64 e54.view.ID.P,.int .u16 ((e54.view.Set:Nat):Int),.slice A68 n69 c70,.slice A72 n73 c74,.int .i64 e54.safe,.int .u64 ((e54.next.N:Nat):Int),.int .i64 e54.next.P]) (.tmp rfl rfl) ((hat61x hs52).sub 0 rfl) rfl) ?_
 refine st_m (al62 (cs:=[.int .i64 0,.int .u64 0,.int .i64 0,.int .u16 0,.slice none 0 0,.slice none 0 0,.int .i64 0,.int .u64 0,.int .i64 0]) hs52 rfl) ?_
 rintro _ w82 ⟨g81,rfl,hs84⟩
 refine st (v:=.int .i64 ((m:Nat):Int)) (x_assign (.tmp rfl rfl)) ?_
 refine st_m0 (sto62 (cs':=[.int .i64 e54.node,.int .u64 ((e54.view.ID.N:Nat):Int),.int .i64 e54.view.ID.P,.int .u16 ((e54.view.Set:Nat):Int),.slice A68 n69 c70,.slice A72 n73 c74,.int .i64 e54.safe,.int .u64 ((e54.next.N:Nat):Int),.int .i64 e54.next.P]) (i:=0) hs84 (v:=.agg #[.int .i64 e54.node,.int .u64 ((e54.view.ID.N:Nat):Int),.int .i64 e54.view.ID.P,.int .u16 ((e54.view.Set:Nat):Int),.slice A68 n69 c70,.slice A72 n73 c74,.int .i64 e54.safe,.int .u64 ((e54.next.N:Nat):Int),.int .i64 e54.next.P]) (.tmp rfl rfl) (.tmp rfl rfl) rfl (Nat.le_of_ble_eq_true rfl) (oneA rfl) rfl) ?_
 rintro w85 hs87
 refine c_nil (n_then (c_seq (c_seq (c_region (st (v:=.slice A41 all.length c42) (x_move (.tmp rfl hρ48)) ?_)))))
 refine st (v:=.int .i64 ((m:Nat):Int)) (x_move (.tmp rfl rfl)) ?_
 refine st (v:=.slice A41 m c42) (sl_h (d:=kLife) Tryd.underlying58 inf62 (a:=((m:Nat):Int)) (.tmp rfl rfl) (.tmp rfl rfl) (by omega) (by omega)) ?_
 refine st (v:=.int .i64 ((m:Nat):Int)) (x_len (n:=m) Tryd.underlying58 (.tmp rfl rfl)) ?_
 refine st (v:=.int .i64 0) (x_move .const) ?_
 refine c_nil (n_then (c_block (c_loop (fun ρ w mm => ∃ (q:Nat),ρ 3 = .slice A41 all.length c42∧ρ 9 = .pointer (some ⟨g81,0,none⟩)∧ρ 31 = .slice A41 all.length c42∧ρ 32 = .int .i64 ((all.length:Nat):Int)∧ρ 33 = .int .i64 ((m:Nat):Int)∧ρ 40 = .slice A41 m c42∧ρ 41 = .int .i64 ((m:Nat):Int)∧ρ 42 = .int .i64 ((q:Nat):Int)∧(q ≤ m)∧(∀ (j:Nat) (b:GLife),j < q → (all.take m)[j]? = some b → (decide (e54.view.ID = b.view.ID) && !pairL e54 b) = false)∧St H46 w (obj g81 62 [.int .i64 e54.node,.int .u64 ((e54.view.ID.N:Nat):Int),.int .i64 e54.view.ID.P,.int .u16 ((e54.view.Set:Nat):Int),.slice A68 n69 c70,.slice A72 n73 c74,.int .i64 e54.safe,.int .u64 ((e54.next.N:Nat):Int),.int .i64 e54.next.P]::L)∧mm = m - q) _ ⟨0,hρ48,rfl,hρ49,hρ50,hρ51,rfl,rfl,rfl,(by omega),(fun j b h => absurd h (Nat.not_lt_zero _)),hs87,rfl⟩ ?_)))
 rintro ρ w mm ⟨q,hρ89,hρ90,hρ91,hρ92,hρ93,hρ94,hρ95,hρ96,hq,hpr,hs97,rfl⟩
 refine c_seq (c_region (st (v:=.bool (decide ((((q:Nat):Int):Int) < ((m:Nat):Int)))) (x_lss (k:=.i64) (a:=((q:Nat):Int)) (b:=((m:Nat):Int)) (.tmp rfl hρ96) (.tmp rfl hρ95)) ?_))
 refine c_nil (n_then (c_seq ?_))
 rcases Bool.eq_false_or_eq_true (decide ((((q:Nat):Int):Int) < ((m:Nat):Int))) with hc98 | hc98
 have hp98:(((q:Nat):Int):Int) < ((m:Nat):Int):=of_decide_eq_true hc98
 refine c_cond_t (t:=true) (.tmp rfl (cVb hc98)) rfl ?_
 refine c_skip (n_then (c_seq (c_block (c_seq (c_region ?_)))))
 obtain ⟨e99,b100,o101,cs102,hx103,hA104,hr105,hat106⟩:=((sp45.mono hg47).take (k:=m) (by omega)).get (i:=q) (by omega)
 obtain ⟨A113,n114,c115,A117,n118,c119,rfl,⟨b107,b108⟩,b109,⟨b110,b111⟩,b112,hl116,hl120,⟨b121,b122⟩,b123,⟨b124,b125⟩⟩:=hr105
 have:=hl116.len; have:n114 * 32 ≤ 140737488351232:=hl116.bnd; have:=hl116.le
 have:=hl120.len; have:n118 * 32 ≤ 140737488351232:=hl120.bnd; have:=hl120.le
 have hat106x:∀ {w:World} {L:List Res},St H46 w L → At w ⟨b100,o101 + q * 9,none⟩ [.int .i64 e99.node,.int .u64 ((e99.view.ID.N:Nat):Int),.int .i64 e99.view.ID.P,.int .u16 ((e99.view.Set:Nat):Int),.slice A113 n114 c115,.slice A117 n118 c119,.int .i64 e99.safe,.int .u64 ((e99.next.N:Nat):Int),.int .i64 e99.next.P]:=fun h => hat106 h
 refine st (v:=.pointer (some ⟨b100,(o101 + q * 9),none⟩)) (ixo58 (.tmp rfl hρ94) hA104 (i:=((q:Nat):Int)) (.tmp rfl hρ96) (by omega) (by omega) (by omega)) ?_
 refine st (v:=.agg #[.int .i64 e99.node,.int .u64 ((e99.view.ID.N:Nat):Int),.int .i64 e99.view.ID.P,.int .u16 ((e99.view.Set:Nat):Int),.slice A113 n114 c115,.slice A117 n118 c119,.int .i64 e99.safe,.int .u64 ((e99.next.N:Nat):Int),.int .i64 e99.next.P]) (ld62 (cs:=[.int .i64 e99.node,.int .u64 ((e99.view.ID.N:Nat):Int),.int .i64 e99.view.ID.P,.int .u16 ((e99.view.Set:Nat):Int),.slice A113 n114 c115,.slice A117 n118 c119,.int .i64 e99.safe,.int .u64 ((e99.next.N:Nat):Int),.int .i64 e99.next.P]) (.tmp rfl rfl) ((hat106x hs97).sub 0 rfl) rfl) ?_
 refine st_m (al62 (cs:=[.int .i64 0,.int .u64 0,.int .i64 0,.int .u16 0,.slice none 0 0,.slice none 0 0,.int .i64 0,.int .u64 0,.int .i64 0]) hs97 rfl) ?_
 rintro _ w127 ⟨g126,rfl,hs129⟩
 refine st_m0 (sto62 (cs':=[.int .i64 e99.node,.int .u64 ((e99.view.ID.N:Nat):Int),.int .i64 e99.view.ID.P,.int .u16 ((e99.view.Set:Nat):Int),.slice A113 n114 c115,.slice A117 n118 c119,.int .i64 e99.safe,.int .u64 ((e99.next.N:Nat):Int),.int .i64 e99.next.P]) (i:=0) hs129 (v:=.agg #[.int .i64 e99.node,.int .u64 ((e99.view.ID.N:Nat):Int),.int .i64 e99.view.ID.P,.int .u16 ((e99.view.Set:Nat):Int),.slice A113 n114 c115,.slice A117 n118 c119,.int .i64 e99.safe,.int .u64 ((e99.next.N:Nat):Int),.int .i64 e99.next.P]) (.tmp rfl rfl) (.tmp rfl rfl) rfl (Nat.le_of_ble_eq_true rfl) (oneA rfl) rfl) ?_
 rintro w130 hs132
 refine c_nil (n_then (c_seq (c_region (st (v:=.pointer (some ⟨g81,0 + 1,none⟩)) (fa62_1 (.tmp rfl hρ90)) ?_))))
 refine st (v:=.pointer (some ⟨g81,0 + 1 + 0,none⟩)) (fa47_0 (.tmp rfl rfl)) ?_
 refine st (v:=.agg #[.int .u64 ((e54.view.ID.N:Nat):Int),.int .i64 e54.view.ID.P]) (ld44 (cs:=[.int .u64 ((e54.view.ID.N:Nat):Int),.int .i64 e54.view.ID.P]) (.tmp rfl rfl) (hs132.at_ 1 rfl (0 + 1 + 0) rfl) rfl) ?_
 refine st (v:=.pointer (some ⟨g126,0 + 1,none⟩)) (fa62_1 (.tmp rfl rfl)) ?_
 refine st (v:=.pointer (some ⟨g126,0 + 1 + 0,none⟩)) (fa47_0 (.tmp rfl rfl)) ?_
 refine st (v:=.agg #[.int .u64 ((e99.view.ID.N:Nat):Int),.int .i64 e99.view.ID.P]) (ld44 (cs:=[.int .u64 ((e99.view.ID.N:Nat):Int),.int .i64 e99.view.ID.P]) (.tmp rfl rfl) (hs132.at_ 0 rfl (0 + 1 + 0) rfl) rfl) ?_
 refine st (v:=.bool ((((e54.view.ID.N:Nat):Int) == ((e99.view.ID.N:Nat):Int)) && ((e54.view.ID.P == e99.view.ID.P) && true))) (x_eqlA eqg44 (.tmp rfl rfl) (.tmp rfl rfl) (fun d => eqs44 (d + 98) _ ((e54.view.ID.N:Nat):Int) ((e99.view.ID.N:Nat):Int) e54.view.ID.P e99.view.ID.P)) ?_
 refine st (v:=.bool (decide (e54.view.ID = e99.view.ID))) (x_move (.tmp rfl (cVb (GViewID.beq_dec e54.view.ID e99.view.ID)))) ?_
 rcases Bool.eq_false_or_eq_true (decide (e54.view.ID = e99.view.ID)) with hc133 | hc133
 have hp133:e54.view.ID = e99.view.ID:=of_decide_eq_true hc133
 refine g_yes (yk 53 true rfl rfl hc133) ?_
 refine st (v:=.agg #[.int .i64 e54.node,.int .u64 ((e54.view.ID.N:Nat):Int),.int .i64 e54.view.ID.P,.int .u16 ((e54.view.Set:Nat):Int),.slice A68 n69 c70,.slice A72 n73 c74,.int .i64 e54.safe,.int .u64 ((e54.next.N:Nat):Int),.int .i64 e54.next.P]) (ld62 (cs:=[.int .i64 e54.node,.int .u64 ((e54.view.ID.N:Nat):Int),.int .i64 e54.view.ID.P,.int .u16 ((e54.view.Set:Nat):Int),.slice A68 n69 c70,.slice A72 n73 c74,.int .i64 e54.safe,.int .u64 ((e54.next.N:Nat):Int),.int .i64 e54.next.P]) (.tmp rfl hρ90) (hs132.at_ 1 rfl (0) rfl) rfl) ?_
 refine g_yes (yk 53 true rfl rfl hc133) ?_
 refine st (v:=.agg #[.int .i64 e99.node,.int .u64 ((e99.view.ID.N:Nat):Int),.int .i64 e99.view.ID.P,.int .u16 ((e99.view.Set:Nat):Int),.slice A113 n114 c115,.slice A117 n118 c119,.int .i64 e99.safe,.int .u64 ((e99.next.N:Nat):Int),.int .i64 e99.next.P]) (ld62 (cs:=[.int .i64 e99.node,.int .u64 ((e99.view.ID.N:Nat):Int),.int .i64 e99.view.ID.P,.int .u16 ((e99.view.Set:Nat):Int),.slice A113 n114 c115,.slice A117 n118 c119,.int .i64 e99.safe,.int .u64 ((e99.next.N:Nat):Int),.int .i64 e99.next.P]) (.tmp rfl rfl) (hs132.at_ 0 rfl (0) rfl) rfl) ?_
 refine g_yes (yk 53 true rfl rfl hc133) ?_
 have hr134:kLife.rep H46 e54 [.int .i64 e54.node,.int .u64 ((e54.view.ID.N:Nat):Int),.int .i64 e54.view.ID.P,.int .u16 ((e54.view.Set:Nat):Int),.slice A68 n69 c70,.slice A72 n73 c74,.int .i64 e54.safe,.int .u64 ((e54.next.N:Nat):Int),.int .i64 e54.next.P]:=⟨A68,n69,c70,A72,n73,c74,rfl,⟨b62,b63⟩,b64,⟨b65,b66⟩,b67,hl71,hl75,⟨b76,b77⟩,b78,⟨b79,b80⟩⟩
 have hr135:kLife.rep H46 e99 [.int .i64 e99.node,.int .u64 ((e99.view.ID.N:Nat):Int),.int .i64 e99.view.ID.P,.int .u16 ((e99.view.Set:Nat):Int),.slice A113 n114 c115,.slice A117 n118 c119,.int .i64 e99.safe,.int .u64 ((e99.next.N:Nat):Int),.int .i64 e99.next.P]:=⟨A113,n114,c115,A117,n118,c119,rfl,⟨b107,b108⟩,b109,⟨b110,b111⟩,b112,hl116,hl120,⟨b121,b122⟩,b123,⟨b124,b125⟩⟩
 refine st_c cb25 .func (evs2 (.tmp rfl rfl) (.tmp rfl rfl)) (pair_spec hs132 e54 hr134 e99 hr135 ) ?_
 rintro e w136 ⟨rfl,hs137⟩
 refine ⟨_,rfl,?_⟩
 refine g_yes (yk 53 true rfl rfl hc133) ?_
 refine st (v:=.bool (!(pairL e54 e99))) (x_not (.tmp rfl rfl)) ?_
 refine st (v:=.bool (!(pairL e54 e99))) (x_pick_t (.tmp rfl (cVb hc133)) (.tmp rfl rfl)) ?_
 refine c_nil (n_then ?_)
 rcases Bool.eq_false_or_eq_true (pairL e54 e99) with hc138 | hc138
 refine c_cond_f (t:=false) (.tmp rfl (cVb (by rw [hc138]; rfl))) rfl ?_
 refine c_skip (n_block (n_then (c_region (st (v:=.int .i64 (((q + 1):Nat):Int)) (x_add (k:=.i64) (a:=((q:Nat):Int)) (b:=1) (.tmp rfl hρ96) .const ((w64 (by omega) (by omega)).trans (by omega))) ?_))))
 refine st (v:=.int .i64 (((q + 1):Nat):Int)) (x_move (.tmp rfl rfl)) ?_
 refine c_nil ?_
 refine n_then ⟨_,_,rfl,?_,(q + 1),hρ89,hρ90,hρ91,hρ92,hρ93,hρ94,hρ95,rfl,(by omega),(nth_next (p:=fun b => (decide (e54.view.ID = b.view.ID) && !pairL e54 b) = false) hpr hx103 (by rw [hc138]; simp)),hs137.drop,rfl⟩
 omega
 refine c_cond_t (t:=true) (.tmp rfl (cVb (by rw [hc138]; rfl))) rfl ?_
 refine c_seq (c_region (st (v:=.bool false) (x_assign .const) ?_))
 refine c_nil (n_then (c_ret (r_block (r_then (r_then (r_block (r_then (r_block (r_then (r_then (r_block (r_then (leave_ret (res_one (v:=.bool false) rfl (.mk rfl rfl)) ?_)))))))))))))
 have hans139:judgeV tr = false:=judge_no2 hal (by omega) (life_bad1 hx58 hx103 (of_decide_eq_true hc133) hc138) (by omega)
 rw [hans139]
 exact ⟨H46,((hg2.trans hle43).trans hg47),rfl,hs137.drop.drop⟩
 have hp133:¬ (e54.view.ID = e99.view.ID):=of_decide_eq_false hc133
 refine g_no (yk 53 false rfl rfl hc133) rfl ?_
 refine g_no (yk 53 false rfl rfl hc133) rfl ?_
 refine g_no (yk 53 false rfl rfl hc133) rfl ?_
 refine g_no (yk 53 false rfl rfl hc133) rfl ?_
 refine st (v:=.bool false) (x_pick_f (.tmp rfl (cVb hc133)) .const) ?_
 refine c_nil (n_then (c_cond_f (t:=false) (.tmp rfl rfl) rfl ?_))
 refine c_skip (n_block (n_then (c_region (st (v:=.int .i64 (((q + 1):Nat):Int)) (x_add (k:=.i64) (a:=((q:Nat):Int)) (b:=1) (.tmp rfl hρ96) .const ((w64 (by omega) (by omega)).trans (by omega))) ?_))))
 refine st (v:=.int .i64 (((q + 1):Nat):Int)) (x_move (.tmp rfl rfl)) ?_
 refine c_nil ?_
 refine n_then ⟨_,_,rfl,?_,(q + 1),hρ89,hρ90,hρ91,hρ92,hρ93,hρ94,hρ95,rfl,(by omega),(nth_next (p:=fun b => (decide (e54.view.ID = b.view.ID) && !pairL e54 b) = false) hpr hx103 (by rw [decide_eq_false (of_decide_eq_false hc133)]; rfl)),hs132.drop,rfl⟩
 omega
 have hp98:¬ ((((q:Nat):Int):Int) < ((m:Nat):Int)):=of_decide_eq_false hc98
 refine c_cond_f (t:=false) (.tmp rfl (cVb hc98)) rfl ?_
 refine c_exit (x_then (x_then (x_here (n_then (c_seq (c_region (st (v:=.agg #[.int .i64 e54.node,.int .u64 ((e54.view.ID.N:Nat):Int),.int .i64 e54.view.ID.P,.int .u16 ((e54.view.Set:Nat):Int),.slice A68 n69 c70,.slice A72 n73 c74,.int .i64 e54.safe,.int .u64 ((e54.next.N:Nat):Int),.int .i64 e54.next.P]) (ld62 (cs:=[.int .i64 e54.node,.int .u64 ((e54.view.ID.N:Nat):Int),.int .i64 e54.view.ID.P,.int .u16 ((e54.view.Set:Nat):Int),.slice A68 n69 c70,.slice A72 n73 c74,.int .i64 e54.safe,.int .u64 ((e54.next.N:Nat):Int),.int .i64 e54.next.P]) (.tmp rfl hρ90) (hs97.at_ 0 rfl (0) rfl) rfl) ?_)))))))
 refine st (v:=.slice A41 all.length c42) (x_move (.tmp rfl hρ89)) ?_
 have hr140:kLife.rep H46 e54 [.int .i64 e54.node,.int .u64 ((e54.view.ID.N:Nat):Int),.int .i64 e54.view.ID.P,.int .u16 ((e54.view.Set:Nat):Int),.slice A68 n69 c70,.slice A72 n73 c74,.int .i64 e54.safe,.int .u64 ((e54.next.N:Nat):Int),.int .i64 e54.next.P]:=⟨A68,n69,c70,A72,n73,c74,rfl,⟨b62,b63⟩,b64,⟨b65,b66⟩,b67,hl71,hl75,⟨b76,b77⟩,b78,⟨b79,b80⟩⟩
 refine st_c cb26 .func (evs2 (.tmp rfl rfl) (.tmp rfl rfl)) (whole_spec hs97 e54 hr140 all (sp45.mono hg47) hno (htab.mono ((hg2.trans hle43).trans hg47))) ?_
 rintro e w141 ⟨H143,hle144,rfl,hs142⟩
 refine ⟨_,rfl,?_⟩
 refine st (v:=.bool (!(wholeL e54 all))) (x_not (.tmp rfl rfl)) ?_
 refine c_nil (n_then ?_)
 rcases Bool.eq_false_or_eq_true (wholeL e54 all) with hc145 | hc145
 refine c_cond_f (t:=false) (.tmp rfl (cVb (by rw [hc145]; rfl))) rfl ?_
 refine c_skip (n_block (n_then (c_region (st (v:=.int .i64 (((m + 1):Nat):Int)) (x_add (k:=.i64) (a:=((m:Nat):Int)) (b:=1) (.tmp rfl hρ93) .const ((w64 (by omega) (by omega)).trans (by omega))) ?_))))
 refine st (v:=.int .i64 (((m + 1):Nat):Int)) (x_move (.tmp rfl rfl)) ?_
 refine c_nil ?_
 refine n_then ⟨_,_,rfl,?_,H143,(m + 1),hρ89,hρ91,hρ92,rfl,(hg47.trans hle144),(by omega),(see_next (p:=fun i => lifeOk all i = true) hlf (life_ok hx58 (fun j b hj hb => hpr j b (by omega) hb) hc145)),hs142.drop,rfl⟩
 omega
 refine c_cond_t (t:=true) (.tmp rfl (cVb (by rw [hc145]; rfl))) rfl ?_
 refine c_seq (c_region (st (v:=.bool false) (x_assign .const) ?_))
 refine c_nil (n_then (c_ret (r_block (r_then (r_then (r_block (r_then (leave_ret (res_one (v:=.bool false) rfl (.mk rfl rfl)) ?_))))))))
 have hans146:judgeV tr = false:=judge_no2 hal (by omega) (life_bad2 hx58 hc145) (by omega)
 rw [hans146]
 exact ⟨H143,(((hg2.trans hle43).trans hg47).trans hle144),rfl,hs142.drop⟩
 have hp53:¬ ((((m:Nat):Int):Int) < ((all.length:Nat):Int)):=of_decide_eq_false hc53
 refine c_cond_f (t:=false) (.tmp rfl (cVb hc53)) rfl ?_
 refine c_exit (x_then (x_then (x_here (n_then (c_seq (c_region (st (v:=.bool true) (x_assign .const) ?_)))))))
 refine c_nil (n_then (c_ret (leave_ret (res_one (v:=.bool true) rfl (.mk rfl rfl)) ?_)))
 have hans147:judgeV tr = true:=judge_yes hal (by omega) hok (fun j hj => hlf j (by omega))
 rw [hans147]
 exact ⟨H46,((hg2.trans hle43).trans hg47),rfl,hs52⟩
end Go.Proofs.YtnikcgcbkdeeeaaDoor

set_option linter.unusedVariables false
set_option linter.unusedSimpArgs false
namespace Go.Proofs.YtnikcgcbkdeeeaaDoor
open Go Go.FM Go.Proofs
attribute [local irreducible] wpList wpQuiet Code.wp Calls
end Go.Proofs.YtnikcgcbkdeeeaaDoor
