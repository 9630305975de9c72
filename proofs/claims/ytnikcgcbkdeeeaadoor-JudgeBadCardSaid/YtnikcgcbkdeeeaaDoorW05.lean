/- Steps of the proofs over the functions of this seat, printed by a program (gen.py) and checked by Lean. -/
import Derived.Test.YtnikcgcbkdeeeaaDoorW01
import Derived.Test.YtnikcgcbkdeeeaaDoorW00
import Derived.Test.YtnikcgcbkdeeeaaDoorW02
import Derived.Test.YtnikcgcbkdeeeaaDoorW04
set_option linter.unusedVariables false
set_option linter.unusedSimpArgs false
namespace Go.Proofs.YtnikcgcbkdeeeaaDoor
open Go Go.FM Go.Proofs
attribute [local irreducible] wpList wpQuiet Code.wp Calls
set_option maxHeartbeats 8000000 in
theorem views14_spec {H:Hp} {w:World} {L:List Res} (hs:St H w (L)) {A_l:Option Addr} {n_l c_l:Nat} (l:(List GEvent)) (h_l:Sl kEvent H A_l n_l c_l l):Calls Tryd.prog 36 #[.slice A_l n_l c_l] w (fun e w' => ∃ (H':Hp) (A0:Option Addr) (n0 c0:Nat),H.le H'∧e = .returned (.slice A0 n0 c0)∧Sl kView H' A0 n0 c0 ((viewsT l))∧St H' w' (L)):=by
 have:=h_l.len; have:=h_l.le; have:n_l * 64 ≤ 140737488351232:=h_l.bnd
 refine enter (args:=[.slice A_l n_l c_l]) (N:=26) Tryd.func36 rfl rfl rfl ?_
 have hnb:=h_l.bnd
 have hnb2:n_l * 64 ≤ 140737488351232:=hnb
 refine c_seq (c_region (st (v:=.slice none 0 0) (x_assign .const) ?_))
 refine c_nil (n_then (c_seq (c_region (st (v:=.slice none 0 0) (x_assign .const) ?_))))
 refine c_nil (n_then (c_seq (c_seq (c_region (st (v:=.int .i64 0) (x_assign .const) ?_)))))
 refine c_nil (n_then (c_block ?_))
 have hs2:St H _ (row 47 3 (.slice none 0 0) (([]:List GView).length) []::L):=hs.krowNil 47 kView
 have:([]:List GView).length = 0:=rfl
 refine c_loop (fun ρ w mm => ∃ (i:Nat) (out:List GView) (v_out:Value) (c_out:List Value),ρ 0 = .slice A_l n_l c_l∧ρ 3 = v_out∧ρ 4 = .int .i64 ((i:Nat):Int)∧(RowOk kView.sz v_out out.length c_out)∧(kView.toKn.rows H out c_out)∧(i ≤ n_l)∧(out = viewsT (l.take i))∧(out.length ≤ i)∧St H w (row 47 3 v_out out.length c_out::L)∧mm = n_l - i) _ ⟨0,([]:List GView),(.slice none 0 0),[],rfl,rfl,rfl,(RowOk.knil kView),(Kn.rows_nil _ _),(by omega),rfl,(Nat.zero_le _),hs2,rfl⟩ ?_
 rintro ρ w mm ⟨i,out,v_out,c_out,hρ4,hρ5,hρ6,ok_out,hk_out,hi,hv,hvl,hs7,rfl⟩
 refine c_seq (c_seq (c_region (st (v:=.int .i64 ((i:Nat):Int)) (x_move (.tmp rfl hρ6)) ?_)))
 refine st (v:=.slice A_l n_l c_l) (x_move (.tmp rfl hρ4)) ?_
 refine st (v:=.int .i64 ((n_l:Nat):Int)) (x_len (n:=n_l) Tryd.underlying41 (.tmp rfl rfl)) ?_
 refine st (v:=.bool (decide ((((i:Nat):Int):Int) < ((n_l:Nat):Int)))) (x_lss (k:=.i64) (a:=((i:Nat):Int)) (b:=((n_l:Nat):Int)) (.tmp rfl rfl) (.tmp rfl rfl)) ?_
 refine c_nil (n_then ?_)
 rcases Bool.eq_false_or_eq_true (decide ((((i:Nat):Int):Int) < ((n_l:Nat):Int))) with hc8 | hc8
 have hp8:(((i:Nat):Int):Int) < ((n_l:Nat):Int):=of_decide_eq_true hc8
 refine c_cond_t (t:=true) (.tmp rfl (cVb hc8)) rfl ?_
 refine c_skip (n_then (c_seq (c_block (c_seq (c_region (st (v:=.slice A_l n_l c_l) (x_move (.tmp rfl hρ4)) ?_))))))
 refine st (v:=.int .i64 ((i:Nat):Int)) (x_move (.tmp rfl hρ6)) ?_
 obtain ⟨e9,b10,o11,cs12,hx13,hA14,hr15,hat16⟩:=h_l.get (i:=i) (by omega)
 obtain ⟨A24,n25,c26,rfl,b17,b18,⟨b19,b20⟩,b21,⟨b22,b23⟩,hy27⟩:=hr15
 have:=hy27.len; have:=hy27.bnd; have:=hy27.le
 have hat16x:∀ {w:World} {L:List Res},St H w L → At w ⟨b10,o11 + i * 6,none⟩ [.int .u8 ((e9.Kind:Nat):Int),.int .u64 ((e9.View.ID.N:Nat):Int),.int .i64 e9.View.ID.P,.int .u16 ((e9.View.Set:Nat):Int),.int .i64 e9.From,.slice A24 n25 c26]:=fun h => hat16 h
 refine st (v:=.pointer (some ⟨b10,(o11 + i * 6),none⟩)) (ixo41 (.tmp rfl rfl) hA14 (i:=((i:Nat):Int)) (.tmp rfl rfl) (by omega) (by omega) (by omega)) ?_
 refine st (v:=.pointer (some ⟨b10,(o11 + i * 6) + 0,none⟩)) (fa49_0 (.tmp rfl rfl)) ?_
 refine st (v:=.int .u8 ((e9.Kind:Nat):Int)) (ld5 (.tmp rfl rfl) ((hat16x hs7).cell 0 rfl)) ?_
 refine st (v:=.bool (decide ((((e9.Kind:Nat):Int):Int) = 1))) (x_eql (k:=.u8) (a:=((e9.Kind:Nat):Int)) (b:=1) (.tmp rfl rfl) .const) ?_
 refine c_nil (n_then ?_)
 rcases Bool.eq_false_or_eq_true (decide ((((e9.Kind:Nat):Int):Int) = 1)) with hc28 | hc28
 have hp28:(((e9.Kind:Nat):Int):Int) = 1:=of_decide_eq_true hc28
 refine c_cond_t (t:=true) (.tmp rfl (cVb hc28)) rfl ?_
 refine c_region (st (v:=v_out) (x_move (.tmp rfl hρ5)) ?_)
 refine st (v:=.slice A_l n_l c_l) (x_move (.tmp rfl hρ4)) ?_
 refine st (v:=.int .i64 ((i:Nat):Int)) (x_move (.tmp rfl hρ6)) ?_
 refine st (v:=.pointer (some ⟨b10,(o11 + i * 6),none⟩)) (ixo41 (.tmp rfl rfl) hA14 (i:=((i:Nat):Int)) (.tmp rfl rfl) (by omega) (by omega) (by omega)) ?_
 refine st (v:=.pointer (some ⟨b10,(o11 + i * 6) + 1,none⟩)) (fa49_1 (.tmp rfl rfl)) ?_
 refine st (v:=.agg #[.int .u64 ((e9.View.ID.N:Nat):Int),.int .i64 e9.View.ID.P,.int .u16 ((e9.View.Set:Nat):Int)]) (ld47 (cs:=[.int .u64 ((e9.View.ID.N:Nat):Int),.int .i64 e9.View.ID.P,.int .u16 ((e9.View.Set:Nat):Int)]) (.tmp rfl rfl) ((hat16x hs7).sub 1 rfl) rfl) ?_
 refine st_m (m_lit (n:=1) (ps:=[(0,.agg #[.int .u64 ((e9.View.ID.N:Nat):Int),.int .i64 e9.View.ID.P,.int .u16 ((e9.View.Set:Nat):Int)])]) (cs:=[.int .u64 ((e9.View.ID.N:Nat):Int),.int .i64 e9.View.ID.P,.int .u16 ((e9.View.Set:Nat):Int)]) Tryd.underlying79 inf47 (.cons (.tmp rfl rfl) Evp.nil) (by decide) (by decide) rfl rfl hs7) ?_
 rintro _ w30 ⟨g29,rfl,hs32⟩
 have hs33:=hs32.p1
 have hr41:kView.rep H e9.View [.int .u64 ((e9.View.ID.N:Nat):Int),.int .i64 e9.View.ID.P,.int .u16 ((e9.View.Set:Nat):Int)]:=⟨rfl,b18,⟨b19,b20⟩,b21⟩
 refine st_m (m_appK (d:=kView) (ys:=[e9.View]) (news:=[.int .u64 ((e9.View.ID.N:Nat):Int),.int .i64 e9.View.ID.P,.int .u16 ((e9.View.Set:Nat):Int)]) Tryd.underlying79 inf47 rfl hs33 ok_out hk_out (.tmp rfl rfl) (.tmp rfl rfl) (Kn.rows_one hr41) rfl (hs33.at_ 1 rfl 0 rfl) (by have:([e9.View]:List GView).length = 1:=rfl; omega) (by decide)) ?_
 rintro v34 w35 ⟨cs36,ok37,hk38,hs39⟩
 have hn40:(out ++ [e9.View]).length = out.length + 1:=by simp
 refine st (v:=v34) (x_assign (.tmp rfl rfl)) ?_
 refine c_nil (n_block (n_then (c_region (st (v:=.int .i64 ((i:Nat):Int)) (x_move (.tmp rfl hρ6)) ?_))))
 refine st (v:=.int .i64 (((i + 1):Nat):Int)) (x_add (k:=.i64) (a:=((i:Nat):Int)) (b:=1) (.tmp rfl rfl) .const ((w64 (by omega) (by omega)).trans (by omega))) ?_
 refine st (v:=.int .i64 (((i + 1):Nat):Int)) (x_assign (.tmp rfl rfl)) ?_
 refine c_nil ?_
 refine n_then ⟨_,_,rfl,?_,(i + 1),(out ++ [e9.View]),v34,cs36,hρ4,rfl,rfl,ok37,hk38,(by omega),(by rw [hv]; exact vT_yes hx13 (by omega)),(by simp only [List.length_append,List.length_singleton]; omega),(hs39.p1).drop,rfl⟩
 omega
 have hp28:¬ ((((e9.Kind:Nat):Int):Int) = 1):=of_decide_eq_false hc28
 refine c_cond_f (t:=false) (.tmp rfl (cVb hc28)) rfl ?_
 refine c_skip (n_block (n_then (c_region (st (v:=.int .i64 ((i:Nat):Int)) (x_move (.tmp rfl hρ6)) ?_))))
 refine st (v:=.int .i64 (((i + 1):Nat):Int)) (x_add (k:=.i64) (a:=((i:Nat):Int)) (b:=1) (.tmp rfl rfl) .const ((w64 (by omega) (by omega)).trans (by omega))) ?_
 refine st (v:=.int .i64 (((i + 1):Nat):Int)) (x_assign (.tmp rfl rfl)) ?_
 refine c_nil ?_
 refine n_then ⟨_,_,rfl,?_,(i + 1),out,v_out,c_out,hρ4,hρ5,rfl,ok_out,hk_out,(by omega),(by rw [hv]; exact vT_no hx13 (by omega)),(by omega),hs7,rfl⟩
 omega
 have hp8:¬ ((((i:Nat):Int):Int) < ((n_l:Nat):Int)):=of_decide_eq_false hc8
 refine c_cond_f (t:=false) (.tmp rfl (cVb hc8)) rfl ?_
 refine c_exit (x_then (x_then (x_here (n_then (c_seq (c_region (st (v:=v_out) (x_move (.tmp rfl hρ5)) ?_)))))))
 refine st (v:=v_out) (x_assign (.tmp rfl rfl)) ?_
 refine c_nil (n_then (c_ret (leave_ret (res_one (v:=v_out) rfl (.mk rfl rfl)) ?_)))
 have hvr:viewsT l = out:=by rw [hv,List.take_of_length_le (by omega)]
 rw [hvr]
 have:out.length * 24 ≤ 140737488351232:=by omega
 obtain ⟨H42,A43,c44,hle45,hs46,rfl,sp47⟩:=hs7.freezeSl (d:=kView) ok_out hk_out this
 have:=sp47.len; have:=sp47.le
 exact ⟨H42,A43,out.length,c44,hle45,rfl,sp47,hs46⟩
set_option maxHeartbeats 8000000 in
theorem items14_spec {H:Hp} {w:World} {L:List Res} (hs:St H w (L)) {A_l:Option Addr} {n_l c_l:Nat} (l:(List GEvent)) (h_l:Sl kEvent H A_l n_l c_l l) (node:Int) (b_node:IB node) (kind:Nat) (b_kind:kind < 256) (v:GViewID) {k_v:List Value} (h_v:kViewID.rep H v k_v):Calls Tryd.prog 43 #[.slice A_l n_l c_l,.int .i64 node,.int .u8 ((kind:Nat):Int),.agg k_v.toArray] w (fun e w' => ∃ (H':Hp) (A0:Option Addr) (n0 c0:Nat),H.le H'∧e = .returned (.slice A0 n0 c0)∧Sl kItem H' A0 n0 c0 ((itemsT l node kind v))∧St H' w' (L)):=by
 have:=h_l.len; have:=h_l.le; have:n_l * 64 ≤ 140737488351232:=h_l.bnd
 obtain ⟨b_node1,b_node2⟩:=b_node
 obtain ⟨rfl,b1,⟨b2,b3⟩⟩:=h_v
 refine enter (args:=[.slice A_l n_l c_l,.int .i64 node,.int .u8 ((kind:Nat):Int),.agg #[.int .u64 ((v.N:Nat):Int),.int .i64 v.P]]) (N:=55) Tryd.func43 rfl rfl rfl ?_
 have hnb:=h_l.bnd
 have hnb2:n_l * 64 ≤ 140737488351232:=hnb
 refine c_seq (c_region (st_m (m_box (cs:=[.int .u64 ((v.N:Nat):Int),.int .i64 v.P]) hs (v:=.agg #[.int .u64 ((v.N:Nat):Int),.int .i64 v.P]) (.tmp rfl rfl) rfl) ?_))
 rintro _ w5 ⟨g4,rfl,hs7⟩
 refine st (v:=.slice none 0 0) (x_assign .const) ?_
 refine c_nil (n_then (c_seq (c_region (st (v:=.slice none 0 0) (x_assign .const) ?_))))
 refine c_nil (n_then (c_seq (c_seq (c_region (st (v:=.int .i64 0) (x_assign .const) ?_)))))
 refine c_nil (n_then (c_block ?_))
 have hs9:St H _ (row 34 2 (.slice none 0 0) (([]:List GItem).length) []::obj g4 44 [.int .u64 ((v.N:Nat):Int),.int .i64 v.P]::L):=hs7.krowNil 34 kItem
 have:([]:List GItem).length = 0:=rfl
 refine c_loop (fun ρ w mm => ∃ (i:Nat) (out:List GItem) (v_out:Value) (c_out:List Value),ρ 0 = .slice A_l n_l c_l∧ρ 1 = .int .i64 node∧ρ 2 = .int .u8 ((kind:Nat):Int)∧ρ 7 = .pointer (some ⟨g4,0,none⟩)∧ρ 9 = v_out∧ρ 10 = .int .i64 ((i:Nat):Int)∧(RowOk kItem.sz v_out out.length c_out)∧(kItem.toKn.rows H out c_out)∧(i ≤ n_l)∧(out = itemsT (l.take i) node kind v)∧(out.length ≤ i)∧St H w (row 34 2 v_out out.length c_out::obj g4 44 [.int .u64 ((v.N:Nat):Int),.int .i64 v.P]::L)∧mm = n_l - i) _ ⟨0,([]:List GItem),(.slice none 0 0),[],rfl,rfl,rfl,rfl,rfl,rfl,(RowOk.knil kItem),(Kn.rows_nil _ _),(by omega),rfl,(Nat.zero_le _),((hs9.p1).p1),rfl⟩ ?_
 rintro ρ w mm ⟨i,out,v_out,c_out,hρ11,hρ12,hρ13,hρ14,hρ15,hρ16,ok_out,hk_out,hi,hv,hvl,hs17,rfl⟩
 refine c_seq (c_seq (c_region (st (v:=.int .i64 ((i:Nat):Int)) (x_move (.tmp rfl hρ16)) ?_)))
 refine st (v:=.slice A_l n_l c_l) (x_move (.tmp rfl hρ11)) ?_
 refine st (v:=.int .i64 ((n_l:Nat):Int)) (x_len (n:=n_l) Tryd.underlying41 (.tmp rfl rfl)) ?_
 refine st (v:=.bool (decide ((((i:Nat):Int):Int) < ((n_l:Nat):Int)))) (x_lss (k:=.i64) (a:=((i:Nat):Int)) (b:=((n_l:Nat):Int)) (.tmp rfl rfl) (.tmp rfl rfl)) ?_
 refine c_nil (n_then ?_)
 rcases Bool.eq_false_or_eq_true (decide ((((i:Nat):Int):Int) < ((n_l:Nat):Int))) with hc18 | hc18
 have hp18:(((i:Nat):Int):Int) < ((n_l:Nat):Int):=of_decide_eq_true hc18
 refine c_cond_t (t:=true) (.tmp rfl (cVb hc18)) rfl ?_
 refine c_skip (n_then (c_seq (c_block (c_seq (q_region mixed hs17 (by kernel_rfl) ?_)))))
 refine q_st (v:=.slice A_l n_l c_l) (fun w hs => (x_move (.tmp rfl hρ11))) ?_
 refine q_st (v:=.int .i64 ((i:Nat):Int)) (fun w hs => (x_move (.tmp rfl hρ16))) ?_
 obtain ⟨e19,b20,o21,cs22,hx23,hA24,hr25,hat26⟩:=h_l.get (i:=i) (by omega)
 obtain ⟨A34,n35,c36,rfl,b27,b28,⟨b29,b30⟩,b31,⟨b32,b33⟩,hy37⟩:=hr25
 have:=hy37.len; have:=hy37.bnd; have:=hy37.le
 have hat26x:∀ {w:World} {L:List Res},St H w L → At w ⟨b20,o21 + i * 6,none⟩ [.int .u8 ((e19.Kind:Nat):Int),.int .u64 ((e19.View.ID.N:Nat):Int),.int .i64 e19.View.ID.P,.int .u16 ((e19.View.Set:Nat):Int),.int .i64 e19.From,.slice A34 n35 c36]:=fun h => hat26 h
 refine q_st (v:=.pointer (some ⟨b20,(o21 + i * 6),none⟩)) (fun w hs => (ixo41 (.tmp rfl rfl) hA24 (i:=((i:Nat):Int)) (.tmp rfl rfl) (by omega) (by omega) (by omega))) ?_
 refine q_st (v:=.pointer (some ⟨b20,(o21 + i * 6) + 0,none⟩)) (fun w hs => (fa49_0 (.tmp rfl rfl))) ?_
 refine q_st (v:=.int .u8 ((e19.Kind:Nat):Int)) (fun w hs => (ld5 (.tmp rfl rfl) ((hat26x hs).cell 0 rfl))) ?_
 refine q_st (v:=.int .u8 ((kind:Nat):Int)) (fun w hs => (x_move (.tmp rfl hρ13))) ?_
 refine q_st (v:=.bool (decide ((((e19.Kind:Nat):Int):Int) = ((kind:Nat):Int)))) (fun w hs => (x_eql (k:=.u8) (a:=((e19.Kind:Nat):Int)) (b:=((kind:Nat):Int)) (.tmp rfl rfl) (.tmp rfl rfl))) ?_
 refine q_st (v:=.bool (decide ((((e19.Kind:Nat):Int):Int) = ((kind:Nat):Int)))) (fun w hs => (x_move (.tmp rfl rfl))) ?_
 refine jq 9 (fun ρ => ρ 34 = .bool ((decide ((((e19.Kind:Nat):Int):Int) = ((kind:Nat):Int))) && (decide (e19.View.ID = v)))∧ρ 0 = .slice A_l n_l c_l∧ρ 1 = .int .i64 node∧ρ 2 = .int .u8 ((kind:Nat):Int)∧ρ 7 = .pointer (some ⟨g4,0,none⟩)∧ρ 9 = v_out∧ρ 10 = .int .i64 ((i:Nat):Int)∧True) ?_ ?_
 rcases Bool.eq_false_or_eq_true (decide ((((e19.Kind:Nat):Int):Int) = ((kind:Nat):Int))) with hc38 | hc38
 have hp38:(((e19.Kind:Nat):Int):Int) = ((kind:Nat):Int):=of_decide_eq_true hc38
 refine q_yes (yk 25 true rfl rfl hc38) ?_
 refine q_st (v:=.slice A_l n_l c_l) (fun w hs => (x_move (.tmp rfl hρ11))) ?_
 refine q_yes (yk 25 true rfl rfl hc38) ?_
 refine q_st (v:=.int .i64 ((i:Nat):Int)) (fun w hs => (x_move (.tmp rfl hρ16))) ?_
 refine q_yes (yk 25 true rfl rfl hc38) ?_
 refine q_st (v:=.pointer (some ⟨b20,(o21 + i * 6),none⟩)) (fun w hs => (ixo41 (.tmp rfl rfl) hA24 (i:=((i:Nat):Int)) (.tmp rfl rfl) (by omega) (by omega) (by omega))) ?_
 refine q_yes (yk 25 true rfl rfl hc38) ?_
 refine q_st (v:=.pointer (some ⟨b20,(o21 + i * 6) + 1,none⟩)) (fun w hs => (fa49_1 (.tmp rfl rfl))) ?_
 refine q_yes (yk 25 true rfl rfl hc38) ?_
 refine q_st (v:=.pointer (some ⟨b20,(o21 + i * 6) + 1 + 0,none⟩)) (fun w hs => (fa47_0 (.tmp rfl rfl))) ?_
 refine q_yes (yk 25 true rfl rfl hc38) ?_
 refine q_st (v:=.agg #[.int .u64 ((e19.View.ID.N:Nat):Int),.int .i64 e19.View.ID.P]) (fun w hs => (ld44 (cs:=[.int .u64 ((e19.View.ID.N:Nat):Int),.int .i64 e19.View.ID.P]) (.tmp rfl rfl) ((hat26x hs).sub 1 rfl) rfl)) ?_
 refine q_yes (yk 25 true rfl rfl hc38) ?_
 refine q_st (v:=.agg #[.int .u64 ((v.N:Nat):Int),.int .i64 v.P]) (fun w hs => (ld44 (cs:=[.int .u64 ((v.N:Nat):Int),.int .i64 v.P]) (.tmp rfl hρ14) (hs.at_ 1 rfl (0) rfl) rfl)) ?_
 refine q_yes (yk 25 true rfl rfl hc38) ?_
 refine q_st (v:=.bool ((((e19.View.ID.N:Nat):Int) == ((v.N:Nat):Int)) && ((e19.View.ID.P == v.P) && true))) (fun w hs => (x_eqlA eqg44 (.tmp rfl rfl) (.tmp rfl rfl) (fun d => eqs44 (d + 98) _ ((e19.View.ID.N:Nat):Int) ((v.N:Nat):Int) e19.View.ID.P v.P))) ?_
 refine q_st (v:=.bool (decide (e19.View.ID = v))) (fun w hs => (x_pick_t (.tmp rfl (cVb hc38)) (.tmp rfl (cVb (GViewID.beq_dec e19.View.ID v))))) ?_
 exact jq_end ⟨(cVb (jand_t hc38)),hρ11,hρ12,hρ13,hρ14,hρ15,hρ16,True.intro⟩
 have hp38:¬ ((((e19.Kind:Nat):Int):Int) = ((kind:Nat):Int)):=of_decide_eq_false hc38
 refine q_no (yk 25 false rfl rfl hc38) rfl ?_
 refine q_no (yk 25 false rfl rfl hc38) rfl ?_
 refine q_no (yk 25 false rfl rfl hc38) rfl ?_
 refine q_no (yk 25 false rfl rfl hc38) rfl ?_
 refine q_no (yk 25 false rfl rfl hc38) rfl ?_
 refine q_no (yk 25 false rfl rfl hc38) rfl ?_
 refine q_no (yk 25 false rfl rfl hc38) rfl ?_
 refine q_no (yk 25 false rfl rfl hc38) rfl ?_
 refine q_st (v:=.bool false) (fun w hs => (x_pick_f (.tmp rfl (cVb hc38)) .const)) ?_
 exact jq_end ⟨(cVb (jand_f hc38)),hρ11,hρ12,hρ13,hρ14,hρ15,hρ16,True.intro⟩
 rintro ρ ⟨hρ39,hρ40,hρ41,hρ42,hρ43,hρ44,hρ45,_⟩
 refine q_nil ?_
 intro w hs47
 refine n_then ?_
 rcases Bool.eq_false_or_eq_true ((decide ((((e19.Kind:Nat):Int):Int) = ((kind:Nat):Int))) && (decide (e19.View.ID = v))) with hc48 | hc48
 have hp48:((((e19.Kind:Nat):Int):Int) = ((kind:Nat):Int))∧(e19.View.ID = v):=((J_and decide_eq_true_iff decide_eq_true_iff)).1 hc48
 refine c_cond_t (t:=true) (.tmp rfl (hρ39.trans (cVb hc48))) rfl ?_
 refine c_seq (u_region (L:=row 34 2 v_out out.length c_out::obj g4 44 [.int .u64 ((v.N:Nat):Int),.int .i64 v.P]::L) (L':=row 34 2 v_out out.length c_out::obj g4 44 [.int .u64 ((v.N:Nat):Int),.int .i64 v.P]::L) (Z:=[12]) (F:=[]) (Lw:=row 34 2 v_out out.length c_out::obj g4 44 [.int .u64 ((v.N:Nat):Int),.int .i64 v.P]::L) (pl:=(.q 0 (.q 1 (.q 2 (.q 3 (.q 4 (.q 5 (.q 6 (.q 7 (.q 8 (.q 9 (.q 10 (.e 11 (.e 12 .done)))))))))))))) mixed hs47 (fun u hu => hu) (fun u hu => hu) (by kernel_rfl) ?_)
 intro w49 hs50
 refine u_st (k:=0) (v:=.slice A_l n_l c_l) rfl rfl (fun w hs => (x_move (.tmp rfl hρ40))) ?_
 refine u_st (k:=1) (v:=.int .i64 ((i:Nat):Int)) rfl rfl (fun w hs => (x_move (.tmp rfl hρ45))) ?_
 refine u_st (k:=2) (v:=.pointer (some ⟨b20,(o21 + i * 6),none⟩)) rfl rfl (fun w hs => (ixo41 (.tmp rfl rfl) hA24 (i:=((i:Nat):Int)) (.tmp rfl rfl) (by omega) (by omega) (by omega))) ?_
 refine u_st (k:=3) (v:=.pointer (some ⟨b20,(o21 + i * 6) + 4,none⟩)) rfl rfl (fun w hs => (fa49_2 (.tmp rfl rfl))) ?_
 refine u_st (k:=4) (v:=.int .i64 e19.From) rfl rfl (fun w hs => (ld3 (.tmp rfl rfl) ((hat26x hs).cell 4 rfl))) ?_
 refine u_st (k:=5) (v:=.slice A_l n_l c_l) rfl rfl (fun w hs => (x_move (.tmp rfl hρ40))) ?_
 refine u_st (k:=6) (v:=.int .i64 ((i:Nat):Int)) rfl rfl (fun w hs => (x_move (.tmp rfl hρ45))) ?_
 refine u_st (k:=7) (v:=.pointer (some ⟨b20,(o21 + i * 6),none⟩)) rfl rfl (fun w hs => (ixo41 (.tmp rfl rfl) hA24 (i:=((i:Nat):Int)) (.tmp rfl rfl) (by omega) (by omega) (by omega))) ?_
 refine u_st (k:=8) (v:=.pointer (some ⟨b20,(o21 + i * 6) + 5,none⟩)) rfl rfl (fun w hs => (fa49_3 (.tmp rfl rfl))) ?_
 refine u_st (k:=9) (v:=.slice A34 n35 c36) rfl rfl (fun w hs => (ld30 (.tmp rfl rfl) ((hat26x hs).cell 5 rfl))) ?_
 refine u_st (k:=10) (v:=.agg #[.int .i64 e19.From,.slice A34 n35 c36]) rfl rfl (fun w hs => (bl34 (ps:=[(0,.int .i64 e19.From),(1,.slice A34 n35 c36)]) (.cons (.tmp rfl rfl) (.cons (.tmp rfl rfl) Evp.nil)) rfl)) ?_
 refine u_eff (k:=11) rfl ?_
 refine st_m (al34 (cs:=[.int .i64 0,.slice none 0 0]) hs50 rfl) ?_
 rintro _ w52 ⟨g51,rfl,hs54⟩
 refine u_on (S':=fun u => St H u (obj g51 34 [.int .i64 0,.slice none 0 0]::row 34 2 v_out out.length c_out::obj g4 44 [.int .u64 ((v.N:Nat):Int),.int .i64 v.P]::L)) (fun u hu => hu.drop) (fun u hu => hu.drop) hs54 ?_
 refine u_eff (k:=12) rfl ?_
 refine st_m0 (sto34 (cs':=[.int .i64 e19.From,.slice A34 n35 c36]) (i:=0) hs54 (v:=.agg #[.int .i64 e19.From,.slice A34 n35 c36]) (.tmp rfl rfl) (.tmp rfl rfl) rfl (Nat.le_of_ble_eq_true rfl) (oneA rfl) rfl) ?_
 rintro w55 hs57
 refine u_new (S':=fun u => St H u (obj g51 34 [.int .i64 e19.From,.slice A34 n35 c36]::row 34 2 v_out out.length c_out::obj g4 44 [.int .u64 ((v.N:Nat):Int),.int .i64 v.P]::L)) rfl (fun u hu => hu.drop) hs57 ?_
 refine u_nil ?_
 refine n_then (c_seq (c_seq (c_region (st (v:=.int .u8 ((kind:Nat):Int)) (x_move (.tmp rfl hρ42)) ?_))))
 refine st (v:=.bool (decide ((((kind:Nat):Int):Int) = 2))) (x_eql (k:=.u8) (a:=((kind:Nat):Int)) (b:=2) (.tmp rfl rfl) .const) ?_
 refine c_nil (n_then ?_)
 rcases Bool.eq_false_or_eq_true (decide ((((kind:Nat):Int):Int) = 2)) with hc58 | hc58
 have hp58:(((kind:Nat):Int):Int) = 2:=of_decide_eq_true hc58
 refine c_cond_t (t:=true) (.tmp rfl (cVb hc58)) rfl ?_
 refine c_region (st (v:=.int .i64 node) (x_move (.tmp rfl hρ41)) ?_)
 refine st (v:=.pointer (some ⟨g51,0 + 0,none⟩)) (fa34_0 (.tmp rfl rfl)) ?_
 refine st_m0 (sto3 (cs':=[.int .i64 node,.slice A34 n35 c36]) (i:=0 + 0) hs57 (v:=.int .i64 node) (.tmp rfl rfl) (.tmp rfl rfl) rfl (Nat.le_of_ble_eq_true rfl) one1 rfl) ?_
 rintro w59 hs61
 refine c_nil (n_then (c_region (st (v:=v_out) (x_move (.tmp rfl hρ44)) ?_)))
 refine st (v:=.agg #[.int .i64 node,.slice A34 n35 c36]) (ld34 (cs:=[.int .i64 node,.slice A34 n35 c36]) (.tmp rfl rfl) (hs61.at_ 0 rfl (0) rfl) rfl) ?_
 refine st_m (m_lit (n:=1) (ps:=[(0,.agg #[.int .i64 node,.slice A34 n35 c36])]) (cs:=[.int .i64 node,.slice A34 n35 c36]) Tryd.underlying25 inf34 (.cons (.tmp rfl rfl) Evp.nil) (by decide) (by decide) rfl rfl hs61) ?_
 rintro _ w63 ⟨g62,rfl,hs65⟩
 have hs66:=hs65.p2
 have hr74:kItem.rep H (GItem.mk node e19.M) [.int .i64 node,.slice A34 n35 c36]:=⟨A34,n35,c36,rfl,⟨b_node1,b_node2⟩,hy37⟩
 refine st_m (m_appK (d:=kItem) (ys:=[(GItem.mk node e19.M)]) (news:=[.int .i64 node,.slice A34 n35 c36]) Tryd.underlying25 inf34 rfl hs66 ok_out hk_out (.tmp rfl rfl) (.tmp rfl rfl) (Kn.rows_one hr74) rfl (hs66.at_ 1 rfl 0 rfl) (by have:([(GItem.mk node e19.M)]:List GItem).length = 1:=rfl; omega) (by decide)) ?_
 rintro v67 w68 ⟨cs69,ok70,hk71,hs72⟩
 have hn73:(out ++ [(GItem.mk node e19.M)]).length = out.length + 1:=by simp
 refine st (v:=v67) (x_assign (.tmp rfl rfl)) ?_
 refine c_nil (n_block (n_then (c_region (st (v:=.int .i64 ((i:Nat):Int)) (x_move (.tmp rfl hρ45)) ?_))))
 refine st (v:=.int .i64 (((i + 1):Nat):Int)) (x_add (k:=.i64) (a:=((i:Nat):Int)) (b:=1) (.tmp rfl rfl) .const ((w64 (by omega) (by omega)).trans (by omega))) ?_
 refine st (v:=.int .i64 (((i + 1):Nat):Int)) (x_assign (.tmp rfl rfl)) ?_
 refine c_nil ?_
 have hjk:e19.Kind = kind∧e19.View.ID = v:=by have h9:=hc48; simp only [Bool.and_eq_true,decide_eq_true_eq] at h9; exact ⟨by omega,h9.2⟩
 refine n_then ⟨_,_,rfl,?_,(i + 1),(out ++ [(GItem.mk node e19.M)]),v67,cs69,hρ40,hρ41,hρ42,hρ43,rfl,rfl,ok70,hk71,(by omega),(by rw [hv,itemT_send (kind:=kind) (by omega)]; exact iT_yes hx23 hjk.1 hjk.2),(by simp only [List.length_append,List.length_singleton]; omega),((((hs72.p1).drop.p1).drop.p1).p1),rfl⟩
 omega
 have hp58:¬ ((((kind:Nat):Int):Int) = 2):=of_decide_eq_false hc58
 refine c_cond_f (t:=false) (.tmp rfl (cVb hc58)) rfl ?_
 refine c_skip (n_then (c_region (st (v:=v_out) (x_move (.tmp rfl hρ44)) ?_)))
 refine st (v:=.agg #[.int .i64 e19.From,.slice A34 n35 c36]) (ld34 (cs:=[.int .i64 e19.From,.slice A34 n35 c36]) (.tmp rfl rfl) (hs57.at_ 0 rfl (0) rfl) rfl) ?_
 refine st_m (m_lit (n:=1) (ps:=[(0,.agg #[.int .i64 e19.From,.slice A34 n35 c36])]) (cs:=[.int .i64 e19.From,.slice A34 n35 c36]) Tryd.underlying25 inf34 (.cons (.tmp rfl rfl) Evp.nil) (by decide) (by decide) rfl rfl hs57) ?_
 rintro _ w76 ⟨g75,rfl,hs78⟩
 have hs79:=hs78.p2
 have hr87:kItem.rep H (GItem.mk e19.From e19.M) [.int .i64 e19.From,.slice A34 n35 c36]:=⟨A34,n35,c36,rfl,⟨b32,b33⟩,hy37⟩
 refine st_m (m_appK (d:=kItem) (ys:=[(GItem.mk e19.From e19.M)]) (news:=[.int .i64 e19.From,.slice A34 n35 c36]) Tryd.underlying25 inf34 rfl hs79 ok_out hk_out (.tmp rfl rfl) (.tmp rfl rfl) (Kn.rows_one hr87) rfl (hs79.at_ 1 rfl 0 rfl) (by have:([(GItem.mk e19.From e19.M)]:List GItem).length = 1:=rfl; omega) (by decide)) ?_
 rintro v80 w81 ⟨cs82,ok83,hk84,hs85⟩
 have hn86:(out ++ [(GItem.mk e19.From e19.M)]).length = out.length + 1:=by simp
 refine st (v:=v80) (x_assign (.tmp rfl rfl)) ?_
 refine c_nil (n_block (n_then (c_region (st (v:=.int .i64 ((i:Nat):Int)) (x_move (.tmp rfl hρ45)) ?_))))
 refine st (v:=.int .i64 (((i + 1):Nat):Int)) (x_add (k:=.i64) (a:=((i:Nat):Int)) (b:=1) (.tmp rfl rfl) .const ((w64 (by omega) (by omega)).trans (by omega))) ?_
 refine st (v:=.int .i64 (((i + 1):Nat):Int)) (x_assign (.tmp rfl rfl)) ?_
 refine c_nil ?_
 have hjk:e19.Kind = kind∧e19.View.ID = v:=by have h9:=hc48; simp only [Bool.and_eq_true,decide_eq_true_eq] at h9; exact ⟨by omega,h9.2⟩
 refine n_then ⟨_,_,rfl,?_,(i + 1),(out ++ [(GItem.mk e19.From e19.M)]),v80,cs82,hρ40,hρ41,hρ42,hρ43,rfl,rfl,ok83,hk84,(by omega),(by rw [hv,itemT_else (node:=node) (kind:=kind) (by omega)]; exact iT_yes hx23 hjk.1 hjk.2),(by simp only [List.length_append,List.length_singleton]; omega),((((hs85.p1).drop.p1).drop.p1).p1),rfl⟩
 omega
 have hp48:¬ (((((e19.Kind:Nat):Int):Int) = ((kind:Nat):Int))∧(e19.View.ID = v)):=J_no (J_and decide_eq_true_iff decide_eq_true_iff) hc48
 refine c_cond_f (t:=false) (.tmp rfl (hρ39.trans (cVb hc48))) rfl ?_
 refine c_skip (n_block (n_then (c_region (st (v:=.int .i64 ((i:Nat):Int)) (x_move (.tmp rfl hρ45)) ?_))))
 refine st (v:=.int .i64 (((i + 1):Nat):Int)) (x_add (k:=.i64) (a:=((i:Nat):Int)) (b:=1) (.tmp rfl rfl) .const ((w64 (by omega) (by omega)).trans (by omega))) ?_
 refine st (v:=.int .i64 (((i + 1):Nat):Int)) (x_assign (.tmp rfl rfl)) ?_
 refine c_nil ?_
 refine n_then ⟨_,_,rfl,?_,(i + 1),out,v_out,c_out,hρ40,hρ41,hρ42,hρ43,hρ44,rfl,ok_out,hk_out,(by omega),(by rw [hv]; exact iT_no hx23 (by have h9:=hc48; first | exact h9 | (simp only [Int.natCast_inj] at h9; exact h9))),(by omega),((hs47.p1).p1),rfl⟩
 omega
 have hp18:¬ ((((i:Nat):Int):Int) < ((n_l:Nat):Int)):=of_decide_eq_false hc18
 refine c_cond_f (t:=false) (.tmp rfl (cVb hc18)) rfl ?_
 refine c_exit (x_then (x_then (x_here (n_then (c_seq (c_region (st (v:=v_out) (x_move (.tmp rfl hρ15)) ?_)))))))
 refine st (v:=v_out) (x_assign (.tmp rfl rfl)) ?_
 refine c_nil (n_then (c_ret (leave_ret (res_one (v:=v_out) rfl (.mk rfl rfl)) ?_)))
 have hvr:itemsT l node kind v = out:=by rw [hv,List.take_of_length_le (by omega)]
 rw [hvr]
 have:out.length * 32 ≤ 140737488351232:=by omega
 obtain ⟨H88,A89,c90,hle91,hs92,rfl,sp93⟩:=hs17.freezeSl (d:=kItem) ok_out hk_out this
 have:=sp93.len; have:=sp93.le
 exact ⟨H88,A89,out.length,c90,hle91,rfl,sp93,hs92.drop⟩
set_option maxHeartbeats 8000000 in
theorem begins14_spec {H:Hp} {w:World} {L:List Res} (hs:St H w (L)) {A_a:Option Addr} {n_a c_a:Nat} (a:(List GItem)) (h_a:Sl kItem H A_a n_a c_a a) {A_b:Option Addr} {n_b c_b:Nat} (b:(List GItem)) (h_b:Sl kItem H A_b n_b c_b b):Calls Tryd.prog 42 #[.slice A_a n_a c_a,.slice A_b n_b c_b] w (fun e w' => e = .returned (.bool (beginsT a b))∧St H w' (L)):=by
 have:=h_a.len; have:=h_a.le; have:n_a * 32 ≤ 140737488351232:=h_a.bnd
 have:=h_b.len; have:=h_b.le; have:n_b * 32 ≤ 140737488351232:=h_b.bnd
 refine enter (args:=[.slice A_a n_a c_a,.slice A_b n_b c_b]) (N:=18) Tryd.func42 rfl rfl rfl ?_
 refine c_seq (c_region (st (v:=.bool false) (x_assign .const) ?_))
 refine c_nil (n_then (c_seq (c_region (st (v:=.slice A_a n_a c_a) (x_move (.tmp rfl rfl)) ?_))))
 refine st (v:=.int .i64 ((n_a:Nat):Int)) (x_len (n:=n_a) Tryd.underlying25 (.tmp rfl rfl)) ?_
 refine st (v:=.slice A_b n_b c_b) (x_move (.tmp rfl rfl)) ?_
 refine st (v:=.int .i64 ((n_b:Nat):Int)) (x_len (n:=n_b) Tryd.underlying25 (.tmp rfl rfl)) ?_
 refine st (v:=.bool (decide ((((n_a:Nat):Int):Int) ≤ ((n_b:Nat):Int)))) (x_leq (k:=.i64) (a:=((n_a:Nat):Int)) (b:=((n_b:Nat):Int)) (.tmp rfl rfl) (.tmp rfl rfl)) ?_
 refine st (v:=.bool (decide ((((n_a:Nat):Int):Int) ≤ ((n_b:Nat):Int)))) (x_move (.tmp rfl rfl)) ?_
 rcases Bool.eq_false_or_eq_true (decide ((((n_a:Nat):Int):Int) ≤ ((n_b:Nat):Int))) with hc1 | hc1
 have hp1:(((n_a:Nat):Int):Int) ≤ ((n_b:Nat):Int):=of_decide_eq_true hc1
 refine g_yes (yk 10 true rfl rfl hc1) ?_
 refine st (v:=.slice A_a n_a c_a) (x_move (.tmp rfl rfl)) ?_
 refine g_yes (yk 10 true rfl rfl hc1) ?_
 refine st (v:=.slice A_b n_b c_b) (x_move (.tmp rfl rfl)) ?_
 refine g_yes (yk 10 true rfl rfl hc1) ?_
 refine st (v:=.slice A_a n_a c_a) (x_move (.tmp rfl rfl)) ?_
 refine g_yes (yk 10 true rfl rfl hc1) ?_
 refine st (v:=.int .i64 ((n_a:Nat):Int)) (x_len (n:=n_a) Tryd.underlying25 (.tmp rfl rfl)) ?_
 refine g_yes (yk 10 true rfl rfl hc1) ?_
 refine st (v:=.slice A_b n_a c_b) (sl_h (d:=kItem) Tryd.underlying25 inf34 (a:=((n_a:Nat):Int)) (.tmp rfl rfl) (.tmp rfl rfl) (by omega) (by omega)) ?_
 refine g_yes (yk 10 true rfl rfl hc1) ?_
 refine st_c cb13 .func (evs2 (.tmp rfl rfl) (.tmp rfl rfl)) (items_spec hs a h_a (b.take n_a) (h_b.take (k:=n_a) (by omega)) ) ?_
 rintro e w2 ⟨rfl,hs3⟩
 refine ⟨_,rfl,?_⟩
 refine st (v:=.bool (decide (a = (b.take n_a)))) (x_pick_t (.tmp rfl (cVb hc1)) (.tmp rfl rfl)) ?_
 refine st (v:=.bool (decide (a = (b.take n_a)))) (x_assign (.tmp rfl rfl)) ?_
 refine c_nil (n_then (c_ret (leave_ret (res_one (v:=.bool (decide (a = (b.take n_a)))) rfl (.mk rfl rfl)) ?_)))
 have hans4:(beginsT a b) = (decide (a = (b.take n_a))):=(by unfold beginsT; rw [decide_eq_true (show a.length ≤ b.length by omega),Bool.true_and,show a.length = n_a from h_a.len])
 rw [hans4]
 exact ⟨rfl,hs3⟩
 have hp1:¬ ((((n_a:Nat):Int):Int) ≤ ((n_b:Nat):Int)):=of_decide_eq_false hc1
 refine g_no (yk 10 false rfl rfl hc1) rfl ?_
 refine g_no (yk 10 false rfl rfl hc1) rfl ?_
 refine g_no (yk 10 false rfl rfl hc1) rfl ?_
 refine g_no (yk 10 false rfl rfl hc1) rfl ?_
 refine g_no (yk 10 false rfl rfl hc1) rfl ?_
 refine g_no (yk 10 false rfl rfl hc1) rfl ?_
 refine st (v:=.bool false) (x_pick_f (.tmp rfl (cVb hc1)) .const) ?_
 refine st (v:=.bool false) (x_assign (.tmp rfl rfl)) ?_
 refine c_nil (n_then (c_ret (leave_ret (res_one (v:=.bool false) rfl (.mk rfl rfl)) ?_)))
 have hans5:(beginsT a b) = false:=(by unfold beginsT; rw [decide_eq_false (show ¬ a.length ≤ b.length by omega)]; rfl)
 rw [hans5]
 exact ⟨rfl,hs⟩
set_option maxHeartbeats 8000000 in
theorem from14_spec {H:Hp} {w:World} {L:List Res} (hs:St H w (L)) {A_l:Option Addr} {n_l c_l:Nat} (l:(List GItem)) (h_l:Sl kItem H A_l n_l c_l l) (j:Int) (b_j:IB j):Calls Tryd.prog 45 #[.slice A_l n_l c_l,.int .i64 j] w (fun e w' => ∃ (H':Hp) (A0:Option Addr) (n0 c0:Nat),H.le H'∧e = .returned (.slice A0 n0 c0)∧Sl kItem H' A0 n0 c0 ((fromT l j))∧St H' w' (L)):=by
 have:=h_l.len; have:=h_l.le; have:n_l * 32 ≤ 140737488351232:=h_l.bnd
 obtain ⟨b_j1,b_j2⟩:=b_j
 refine enter (args:=[.slice A_l n_l c_l,.int .i64 j]) (N:=28) Tryd.func45 rfl rfl rfl ?_
 have hnb:=h_l.bnd
 have hnb2:n_l * 32 ≤ 140737488351232:=hnb
 refine c_seq (c_region (st (v:=.slice none 0 0) (x_assign .const) ?_))
 refine c_nil (n_then (c_seq (c_region (st (v:=.slice none 0 0) (x_assign .const) ?_))))
 refine c_nil (n_then (c_seq (c_seq (c_region (st (v:=.int .i64 0) (x_assign .const) ?_)))))
 refine c_nil (n_then (c_block ?_))
 have hs2:St H _ (row 34 2 (.slice none 0 0) (([]:List GItem).length) []::L):=hs.krowNil 34 kItem
 have:([]:List GItem).length = 0:=rfl
 refine c_loop (fun ρ w mm => ∃ (i:Nat) (out:List GItem) (v_out:Value) (c_out:List Value),ρ 0 = .slice A_l n_l c_l∧ρ 1 = .int .i64 j∧ρ 5 = v_out∧ρ 6 = .int .i64 ((i:Nat):Int)∧(RowOk kItem.sz v_out out.length c_out)∧(kItem.toKn.rows H out c_out)∧(i ≤ n_l)∧(out = fromT (l.take i) j)∧(out.length ≤ i)∧St H w (row 34 2 v_out out.length c_out::L)∧mm = n_l - i) _ ⟨0,([]:List GItem),(.slice none 0 0),[],rfl,rfl,rfl,rfl,(RowOk.knil kItem),(Kn.rows_nil _ _),(by omega),rfl,(Nat.zero_le _),hs2,rfl⟩ ?_
 rintro ρ w mm ⟨i,out,v_out,c_out,hρ4,hρ5,hρ6,hρ7,ok_out,hk_out,hi,hv,hvl,hs8,rfl⟩
 refine c_seq (c_seq (c_region (st (v:=.int .i64 ((i:Nat):Int)) (x_move (.tmp rfl hρ7)) ?_)))
 refine st (v:=.slice A_l n_l c_l) (x_move (.tmp rfl hρ4)) ?_
 refine st (v:=.int .i64 ((n_l:Nat):Int)) (x_len (n:=n_l) Tryd.underlying25 (.tmp rfl rfl)) ?_
 refine st (v:=.bool (decide ((((i:Nat):Int):Int) < ((n_l:Nat):Int)))) (x_lss (k:=.i64) (a:=((i:Nat):Int)) (b:=((n_l:Nat):Int)) (.tmp rfl rfl) (.tmp rfl rfl)) ?_
 refine c_nil (n_then ?_)
 rcases Bool.eq_false_or_eq_true (decide ((((i:Nat):Int):Int) < ((n_l:Nat):Int))) with hc9 | hc9
 have hp9:(((i:Nat):Int):Int) < ((n_l:Nat):Int):=of_decide_eq_true hc9
 refine c_cond_t (t:=true) (.tmp rfl (cVb hc9)) rfl ?_
 refine c_skip (n_then (c_seq (c_block (c_seq (c_region (st (v:=.slice A_l n_l c_l) (x_move (.tmp rfl hρ4)) ?_))))))
 refine st (v:=.int .i64 ((i:Nat):Int)) (x_move (.tmp rfl hρ7)) ?_
 obtain ⟨e10,b11,o12,cs13,hx14,hA15,hr16,hat17⟩:=h_l.get (i:=i) (by omega)
 obtain ⟨A20,n21,c22,rfl,⟨b18,b19⟩,hy23⟩:=hr16
 have:=hy23.len; have:=hy23.bnd; have:=hy23.le
 have hat17x:∀ {w:World} {L:List Res},St H w L → At w ⟨b11,o12 + i * 2,none⟩ [.int .i64 e10.From,.slice A20 n21 c22]:=fun h => hat17 h
 refine st (v:=.pointer (some ⟨b11,(o12 + i * 2),none⟩)) (ixo25 (.tmp rfl rfl) hA15 (i:=((i:Nat):Int)) (.tmp rfl rfl) (by omega) (by omega) (by omega)) ?_
 refine st (v:=.pointer (some ⟨b11,(o12 + i * 2) + 0,none⟩)) (fa34_0 (.tmp rfl rfl)) ?_
 refine st (v:=.int .i64 e10.From) (ld3 (.tmp rfl rfl) ((hat17x hs8).cell 0 rfl)) ?_
 refine st (v:=.int .i64 j) (x_move (.tmp rfl hρ5)) ?_
 refine st (v:=.bool (decide ((e10.From:Int) = j))) (x_eql (k:=.i64) (a:=e10.From) (b:=j) (.tmp rfl rfl) (.tmp rfl rfl)) ?_
 refine c_nil (n_then ?_)
 rcases Bool.eq_false_or_eq_true (decide ((e10.From:Int) = j)) with hc24 | hc24
 have hp24:(e10.From:Int) = j:=of_decide_eq_true hc24
 refine c_cond_t (t:=true) (.tmp rfl (cVb hc24)) rfl ?_
 refine c_region (st (v:=v_out) (x_move (.tmp rfl hρ6)) ?_)
 refine st (v:=.slice A_l n_l c_l) (x_move (.tmp rfl hρ4)) ?_
 refine st (v:=.int .i64 ((i:Nat):Int)) (x_move (.tmp rfl hρ7)) ?_
 refine st (v:=.pointer (some ⟨b11,(o12 + i * 2),none⟩)) (ixo25 (.tmp rfl rfl) hA15 (i:=((i:Nat):Int)) (.tmp rfl rfl) (by omega) (by omega) (by omega)) ?_
 refine st (v:=.agg #[.int .i64 e10.From,.slice A20 n21 c22]) (ld34 (cs:=[.int .i64 e10.From,.slice A20 n21 c22]) (.tmp rfl rfl) ((hat17x hs8).sub 0 rfl) rfl) ?_
 refine st_m (m_lit (n:=1) (ps:=[(0,.agg #[.int .i64 e10.From,.slice A20 n21 c22])]) (cs:=[.int .i64 e10.From,.slice A20 n21 c22]) Tryd.underlying25 inf34 (.cons (.tmp rfl rfl) Evp.nil) (by decide) (by decide) rfl rfl hs8) ?_
 rintro _ w26 ⟨g25,rfl,hs28⟩
 have hs29:=hs28.p1
 have hr37:kItem.rep H e10 [.int .i64 e10.From,.slice A20 n21 c22]:=⟨A20,n21,c22,rfl,⟨b18,b19⟩,hy23⟩
 refine st_m (m_appK (d:=kItem) (ys:=[e10]) (news:=[.int .i64 e10.From,.slice A20 n21 c22]) Tryd.underlying25 inf34 rfl hs29 ok_out hk_out (.tmp rfl rfl) (.tmp rfl rfl) (Kn.rows_one hr37) rfl (hs29.at_ 1 rfl 0 rfl) (by have:([e10]:List GItem).length = 1:=rfl; omega) (by decide)) ?_
 rintro v30 w31 ⟨cs32,ok33,hk34,hs35⟩
 have hn36:(out ++ [e10]).length = out.length + 1:=by simp
 refine st (v:=v30) (x_assign (.tmp rfl rfl)) ?_
 refine c_nil (n_block (n_then (c_region (st (v:=.int .i64 ((i:Nat):Int)) (x_move (.tmp rfl hρ7)) ?_))))
 refine st (v:=.int .i64 (((i + 1):Nat):Int)) (x_add (k:=.i64) (a:=((i:Nat):Int)) (b:=1) (.tmp rfl rfl) .const ((w64 (by omega) (by omega)).trans (by omega))) ?_
 refine st (v:=.int .i64 (((i + 1):Nat):Int)) (x_assign (.tmp rfl rfl)) ?_
 refine c_nil ?_
 refine n_then ⟨_,_,rfl,?_,(i + 1),(out ++ [e10]),v30,cs32,hρ4,hρ5,rfl,rfl,ok33,hk34,(by omega),(by rw [hv]; exact fT_yes hx14 (by omega)),(by simp only [List.length_append,List.length_singleton]; omega),(hs35.p1).drop,rfl⟩
 omega
 have hp24:¬ ((e10.From:Int) = j):=of_decide_eq_false hc24
 refine c_cond_f (t:=false) (.tmp rfl (cVb hc24)) rfl ?_
 refine c_skip (n_block (n_then (c_region (st (v:=.int .i64 ((i:Nat):Int)) (x_move (.tmp rfl hρ7)) ?_))))
 refine st (v:=.int .i64 (((i + 1):Nat):Int)) (x_add (k:=.i64) (a:=((i:Nat):Int)) (b:=1) (.tmp rfl rfl) .const ((w64 (by omega) (by omega)).trans (by omega))) ?_
 refine st (v:=.int .i64 (((i + 1):Nat):Int)) (x_assign (.tmp rfl rfl)) ?_
 refine c_nil ?_
 refine n_then ⟨_,_,rfl,?_,(i + 1),out,v_out,c_out,hρ4,hρ5,hρ6,rfl,ok_out,hk_out,(by omega),(by rw [hv]; exact fT_no hx14 (by omega)),(by omega),hs8,rfl⟩
 omega
 have hp9:¬ ((((i:Nat):Int):Int) < ((n_l:Nat):Int)):=of_decide_eq_false hc9
 refine c_cond_f (t:=false) (.tmp rfl (cVb hc9)) rfl ?_
 refine c_exit (x_then (x_then (x_here (n_then (c_seq (c_region (st (v:=v_out) (x_move (.tmp rfl hρ6)) ?_)))))))
 refine st (v:=v_out) (x_assign (.tmp rfl rfl)) ?_
 refine c_nil (n_then (c_ret (leave_ret (res_one (v:=v_out) rfl (.mk rfl rfl)) ?_)))
 have hvr:fromT l j = out:=by rw [hv,List.take_of_length_le (by omega)]
 rw [hvr]
 have:out.length * 32 ≤ 140737488351232:=by omega
 obtain ⟨H38,A39,c40,hle41,hs42,rfl,sp43⟩:=hs8.freezeSl (d:=kItem) ok_out hk_out this
 have:=sp43.len; have:=sp43.le
 exact ⟨H38,A39,out.length,c40,hle41,rfl,sp43,hs42⟩
end Go.Proofs.YtnikcgcbkdeeeaaDoor

set_option linter.unusedVariables false
set_option linter.unusedSimpArgs false
namespace Go.Proofs.YtnikcgcbkdeeeaaDoor
open Go Go.FM Go.Proofs
attribute [local irreducible] wpList wpQuiet Code.wp Calls
set_option maxHeartbeats 8000000 in
theorem has14_spec {H:Hp} {w:World} {L:List Res} (hs:St H w (L)) {A_l:Option Addr} {n_l c_l:Nat} (l:(List GEvent)) (h_l:Sl kEvent H A_l n_l c_l l) (v:GViewID) {k_v:List Value} (h_v:kViewID.rep H v k_v):Calls Tryd.prog 44 #[.slice A_l n_l c_l,.agg k_v.toArray] w (fun e w' => ∃ (H':Hp) (cs0:List Value),H.le H'∧e = .returned (.tuple #[.agg cs0.toArray,.bool ((hasT l v).isSome)])∧kView.rep H' (((hasT l v).getD view0)) cs0∧St H' w' (L)):=by
 have:=h_l.len; have:=h_l.le; have:n_l * 64 ≤ 140737488351232:=h_l.bnd
 obtain ⟨rfl,b1,⟨b2,b3⟩⟩:=h_v
 refine enter (args:=[.slice A_l n_l c_l,.agg #[.int .u64 ((v.N:Nat):Int),.int .i64 v.P]]) (N:=28) Tryd.func44 rfl rfl rfl ?_
 have hvl2:=vT_len (l:=l)
 have hnb2:n_l * 64 ≤ 140737488351232:=h_l.bnd
 refine c_seq (c_region (st_m (m_box (cs:=[.int .u64 ((v.N:Nat):Int),.int .i64 v.P]) hs (v:=.agg #[.int .u64 ((v.N:Nat):Int),.int .i64 v.P]) (.tmp rfl rfl) rfl) ?_))
 rintro _ w5 ⟨g4,rfl,hs7⟩
 refine st_m (al47 (cs:=[.int .u64 0,.int .i64 0,.int .u16 0]) hs7 rfl) ?_
 rintro _ w9 ⟨g8,rfl,hs11⟩
 refine st (v:=.bool false) (x_assign .const) ?_
 refine c_nil (n_then (c_seq (c_region (st (v:=.slice A_l n_l c_l) (x_move (.tmp rfl rfl)) ?_))))
 refine st_c cb36 .func (evs1 (.tmp rfl rfl)) (views14_spec hs11 l h_l ) ?_
 rintro e w12 ⟨H14,A16,n17,c18,hle15,rfl,sp19,hs13⟩
 have:=sp19.len; have:=sp19.le; have:n17 * 24 ≤ 140737488351232:=sp19.bnd
 refine ⟨_,rfl,?_⟩
 refine st (v:=.slice A16 n17 c18) (x_assign (.tmp rfl rfl)) ?_
 refine c_nil (n_then (c_seq (c_seq (c_region (st (v:=.int .i64 0) (x_assign .const) ?_)))))
 refine c_nil (n_then (c_block (c_loop (fun ρ w mm => ∃ (i:Nat),ρ 3 = .pointer (some ⟨g4,0,none⟩)∧ρ 4 = .pointer (some ⟨g8,0,none⟩)∧ρ 6 = .slice A16 n17 c18∧ρ 7 = .int .i64 ((i:Nat):Int)∧(i ≤ (viewsT l).length)∧(((viewsT l).take i).find? (fun w => decide (w.ID = v)) = none)∧St H14 w (obj g8 47 [.int .u64 0,.int .i64 0,.int .u16 0]::obj g4 44 [.int .u64 ((v.N:Nat):Int),.int .i64 v.P]::L)∧mm = (viewsT l).length - i) _ ⟨0,rfl,rfl,rfl,rfl,(by omega),rfl,((hs13.p1).p1),rfl⟩ ?_)))
 rintro ρ w mm ⟨i,hρ21,hρ22,hρ23,hρ24,hi,hf,hs25,rfl⟩
 refine c_seq (c_seq (c_region (st (v:=.int .i64 ((i:Nat):Int)) (x_move (.tmp rfl hρ24)) ?_)))
 refine st (v:=.slice A16 n17 c18) (x_move (.tmp rfl hρ23)) ?_
 refine st (v:=.int .i64 ((n17:Nat):Int)) (x_len (n:=n17) Tryd.underlying79 (.tmp rfl rfl)) ?_
 refine st (v:=.bool (decide ((((i:Nat):Int):Int) < ((n17:Nat):Int)))) (x_lss (k:=.i64) (a:=((i:Nat):Int)) (b:=((n17:Nat):Int)) (.tmp rfl rfl) (.tmp rfl rfl)) ?_
 refine c_nil (n_then ?_)
 rcases Bool.eq_false_or_eq_true (decide ((((i:Nat):Int):Int) < ((n17:Nat):Int))) with hc26 | hc26
 have hp26:(((i:Nat):Int):Int) < ((n17:Nat):Int):=of_decide_eq_true hc26
 refine c_cond_t (t:=true) (.tmp rfl (cVb hc26)) rfl ?_
 refine c_skip (n_then (c_seq (c_block (c_seq (q_region mixed hs25 (by kernel_rfl) ?_)))))
 refine q_st (v:=.slice A16 n17 c18) (fun w hs => (x_move (.tmp rfl hρ23))) ?_
 refine q_st (v:=.int .i64 ((i:Nat):Int)) (fun w hs => (x_move (.tmp rfl hρ24))) ?_
 obtain ⟨e27,b28,o29,cs30,hx31,hA32,hr33,hat34⟩:=sp19.get (i:=i) (by omega)
 obtain ⟨rfl,b35,⟨b36,b37⟩,b38⟩:=hr33
 have hat34x:∀ {w:World} {L:List Res},St H14 w L → At w ⟨b28,o29 + i * 3,none⟩ [.int .u64 ((e27.ID.N:Nat):Int),.int .i64 e27.ID.P,.int .u16 ((e27.Set:Nat):Int)]:=fun h => hat34 h
 refine q_st (v:=.pointer (some ⟨b28,(o29 + i * 3),none⟩)) (fun w hs => (ixo79 (.tmp rfl rfl) hA32 (i:=((i:Nat):Int)) (.tmp rfl rfl) (by omega) (by omega) (by omega))) ?_
 refine q_st (v:=.pointer (some ⟨b28,(o29 + i * 3) + 0,none⟩)) (fun w hs => (fa47_0 (.tmp rfl rfl))) ?_
 refine q_st (v:=.agg #[.int .u64 ((e27.ID.N:Nat):Int),.int .i64 e27.ID.P]) (fun w hs => (ld44 (cs:=[.int .u64 ((e27.ID.N:Nat):Int),.int .i64 e27.ID.P]) (.tmp rfl rfl) ((hat34x hs).sub 0 rfl) rfl)) ?_
 refine q_st (v:=.agg #[.int .u64 ((v.N:Nat):Int),.int .i64 v.P]) (fun w hs => (ld44 (cs:=[.int .u64 ((v.N:Nat):Int),.int .i64 v.P]) (.tmp rfl hρ21) (hs.at_ 1 rfl (0) rfl) rfl)) ?_
 refine q_st (v:=.bool ((((e27.ID.N:Nat):Int) == ((v.N:Nat):Int)) && ((e27.ID.P == v.P) && true))) (fun w hs => (x_eqlA eqg44 (.tmp rfl rfl) (.tmp rfl rfl) (fun d => eqs44 (d + 98) _ ((e27.ID.N:Nat):Int) ((v.N:Nat):Int) e27.ID.P v.P))) ?_
 refine q_nil ?_
 intro w hs39
 refine n_then ?_
 rcases Bool.eq_false_or_eq_true (decide (e27.ID = v)) with hc40 | hc40
 have hp40:e27.ID = v:=of_decide_eq_true hc40
 refine c_cond_t (t:=true) (.tmp rfl ((cVb (GViewID.beq_dec e27.ID v)).trans (cVb hc40))) rfl ?_
 refine c_seq (c_region (st (v:=.slice A16 n17 c18) (x_move (.tmp rfl hρ23)) ?_))
 refine st (v:=.int .i64 ((i:Nat):Int)) (x_move (.tmp rfl hρ24)) ?_
 refine st (v:=.pointer (some ⟨b28,(o29 + i * 3),none⟩)) (ixo79 (.tmp rfl rfl) hA32 (i:=((i:Nat):Int)) (.tmp rfl rfl) (by omega) (by omega) (by omega)) ?_
 refine st (v:=.agg #[.int .u64 ((e27.ID.N:Nat):Int),.int .i64 e27.ID.P,.int .u16 ((e27.Set:Nat):Int)]) (ld47 (cs:=[.int .u64 ((e27.ID.N:Nat):Int),.int .i64 e27.ID.P,.int .u16 ((e27.Set:Nat):Int)]) (.tmp rfl rfl) ((hat34x hs39).sub 0 rfl) rfl) ?_
 refine st_m0 (sto47 (cs':=[.int .u64 ((e27.ID.N:Nat):Int),.int .i64 e27.ID.P,.int .u16 ((e27.Set:Nat):Int)]) (i:=0) hs39 (v:=.agg #[.int .u64 ((e27.ID.N:Nat):Int),.int .i64 e27.ID.P,.int .u16 ((e27.Set:Nat):Int)]) (.tmp rfl hρ22) (.tmp rfl rfl) rfl (Nat.le_of_ble_eq_true rfl) (oneA rfl) rfl) ?_
 rintro w41 hs43
 refine st (v:=.bool true) (x_assign .const) ?_
 refine c_nil (n_then (c_ret (r_block (r_then (r_then (r_block (r_then (leave_ret (res_two (v:=.agg #[.int .u64 ((e27.ID.N:Nat):Int),.int .i64 e27.ID.P,.int .u16 ((e27.Set:Nat):Int)]) (u:=.bool true) rfl (.mkCell rfl hρ22 (lv47 (cs:=[.int .u64 ((e27.ID.N:Nat):Int),.int .i64 e27.ID.P,.int .u16 ((e27.Set:Nat):Int)]) (hs43.at_ 0 rfl 0 rfl) rfl)) (.mk rfl rfl)) ?_))))))))
 have hhas:hasT l v = some e27:=find_yes hx31 hf (by simpa using hc40)
 rw [hhas]
 exact ⟨H14,[.int .u64 ((e27.ID.N:Nat):Int),.int .i64 e27.ID.P,.int .u16 ((e27.Set:Nat):Int)],hle15,rfl,⟨rfl,b35,⟨b36,b37⟩,b38⟩,hs43.drop.drop⟩
 have hp40:¬ (e27.ID = v):=of_decide_eq_false hc40
 refine c_cond_f (t:=false) (.tmp rfl ((cVb (GViewID.beq_dec e27.ID v)).trans (cVb hc40))) rfl ?_
 refine c_skip (n_block (n_then (c_region (st (v:=.int .i64 ((i:Nat):Int)) (x_move (.tmp rfl hρ24)) ?_))))
 refine st (v:=.int .i64 (((i + 1):Nat):Int)) (x_add (k:=.i64) (a:=((i:Nat):Int)) (b:=1) (.tmp rfl rfl) .const ((w64 (by omega) (by omega)).trans (by omega))) ?_
 refine st (v:=.int .i64 (((i + 1):Nat):Int)) (x_assign (.tmp rfl rfl)) ?_
 refine c_nil ?_
 refine n_then ⟨_,_,rfl,?_,(i + 1),hρ21,hρ22,hρ23,rfl,(by omega),(find_no hx31 hf (by simpa using hc40)),((hs39.p1).p1),rfl⟩
 omega
 have hp26:¬ ((((i:Nat):Int):Int) < ((n17:Nat):Int)):=of_decide_eq_false hc26
 refine c_cond_f (t:=false) (.tmp rfl (cVb hc26)) rfl ?_
 refine c_exit (x_then (x_then (x_here (n_then (c_seq (c_region (st (v:=.agg #[.int .u64 0,.int .i64 0,.int .u16 0]) (bl47 (ps:=[]) Evp.nil rfl) ?_)))))))
 refine st_m0 (sto47 (cs':=[.int .u64 0,.int .i64 0,.int .u16 0]) (i:=0) hs25 (v:=.agg #[.int .u64 0,.int .i64 0,.int .u16 0]) (.tmp rfl hρ22) (.tmp rfl rfl) rfl (Nat.le_of_ble_eq_true rfl) (oneA rfl) rfl) ?_
 rintro w44 hs46
 refine st (v:=.bool false) (x_assign .const) ?_
 refine c_nil (n_then (c_ret (leave_ret (res_two (v:=.agg #[.int .u64 0,.int .i64 0,.int .u16 0]) (u:=.bool false) rfl (.mkCell rfl hρ22 (lv47 (cs:=[.int .u64 0,.int .i64 0,.int .u16 0]) (hs46.at_ 0 rfl 0 rfl) rfl)) (.mk rfl rfl)) ?_)))
 have hhas:hasT l v = none:=by unfold hasT; rw [List.take_of_length_le (by omega)] at hf; exact hf
 rw [hhas]
 exact ⟨H14,[.int .u64 0,.int .i64 0,.int .u16 0],hle15,rfl,⟨rfl,(show 0 < 18446744073709551616 from by omega),(show IB 0 from ⟨by omega,by omega⟩),(show 0 < 65536 from by omega)⟩,hs46.drop.drop⟩
set_option maxHeartbeats 8000000 in
theorem next14_spec {H:Hp} {w:World} {L:List Res} (hs:St H w (L)) {A_l:Option Addr} {n_l c_l:Nat} (l:(List GEvent)) (h_l:Sl kEvent H A_l n_l c_l l) (v:GViewID) {k_v:List Value} (h_v:kViewID.rep H v k_v):Calls Tryd.prog 46 #[.slice A_l n_l c_l,.agg k_v.toArray] w (fun e w' => ∃ (H':Hp) (cs0:List Value),H.le H'∧e = .returned (.agg cs0.toArray)∧kViewID.rep H' ((nextT l v)) cs0∧St H' w' (L)):=by
 have:=h_l.len; have:=h_l.le; have:n_l * 64 ≤ 140737488351232:=h_l.bnd
 obtain ⟨rfl,b1,⟨b2,b3⟩⟩:=h_v
 refine enter (args:=[.slice A_l n_l c_l,.agg #[.int .u64 ((v.N:Nat):Int),.int .i64 v.P]]) (N:=30) Tryd.func46 rfl rfl rfl ?_
 have hvl2:=vT_len (l:=l)
 have hnb2:n_l * 64 ≤ 140737488351232:=h_l.bnd
 refine c_seq (c_region (st_m (m_box (cs:=[.int .u64 ((v.N:Nat):Int),.int .i64 v.P]) hs (v:=.agg #[.int .u64 ((v.N:Nat):Int),.int .i64 v.P]) (.tmp rfl rfl) rfl) ?_))
 rintro _ w5 ⟨g4,rfl,hs7⟩
 refine st_m (al44 (cs:=[.int .u64 0,.int .i64 0]) hs7 rfl) ?_
 rintro _ w9 ⟨g8,rfl,hs11⟩
 refine c_nil (n_then (c_seq (c_region (st (v:=.slice A_l n_l c_l) (x_move (.tmp rfl rfl)) ?_))))
 refine st_c cb36 .func (evs1 (.tmp rfl rfl)) (views14_spec hs11 l h_l ) ?_
 rintro e w12 ⟨H14,A16,n17,c18,hle15,rfl,sp19,hs13⟩
 have:=sp19.len; have:=sp19.le; have:n17 * 24 ≤ 140737488351232:=sp19.bnd
 refine ⟨_,rfl,?_⟩
 refine st (v:=.slice A16 n17 c18) (x_assign (.tmp rfl rfl)) ?_
 refine c_nil (n_then (c_seq (c_seq (c_region (st (v:=.int .i64 0) (x_assign .const) ?_)))))
 refine c_nil (n_then (c_block (c_loop (fun ρ w mm => ∃ (i:Nat),ρ 3 = .pointer (some ⟨g4,0,none⟩)∧ρ 4 = .pointer (some ⟨g8,0,none⟩)∧ρ 5 = .slice A16 n17 c18∧ρ 6 = .int .i64 ((i:Nat):Int)∧(i ≤ (viewsT l).length)∧(∀ j w',j < i → (viewsT l)[j]? = some w' → w'.ID ≠ v)∧St H14 w (obj g8 44 [.int .u64 0,.int .i64 0]::obj g4 44 [.int .u64 ((v.N:Nat):Int),.int .i64 v.P]::L)∧mm = (viewsT l).length - i) _ ⟨0,rfl,rfl,rfl,rfl,(by omega),(fun j w h => absurd h (Nat.not_lt_zero _)),((hs13.p1).p1),rfl⟩ ?_)))
 rintro ρ w mm ⟨i,hρ21,hρ22,hρ23,hρ24,hi,hm,hs25,rfl⟩
 refine c_seq (c_seq (c_region (st (v:=.int .i64 ((i:Nat):Int)) (x_move (.tmp rfl hρ24)) ?_)))
 refine st (v:=.int .i64 (((i + 1):Nat):Int)) (x_add (k:=.i64) (a:=((i:Nat):Int)) (b:=1) (.tmp rfl rfl) .const ((w64 (by omega) (by omega)).trans (by omega))) ?_
 refine st (v:=.slice A16 n17 c18) (x_move (.tmp rfl hρ23)) ?_
 refine st (v:=.int .i64 ((n17:Nat):Int)) (x_len (n:=n17) Tryd.underlying79 (.tmp rfl rfl)) ?_
 refine st (v:=.bool (decide (((((i + 1):Nat):Int):Int) < ((n17:Nat):Int)))) (x_lss (k:=.i64) (a:=(((i + 1):Nat):Int)) (b:=((n17:Nat):Int)) (.tmp rfl rfl) (.tmp rfl rfl)) ?_
 refine c_nil (n_then ?_)
 rcases Bool.eq_false_or_eq_true (decide (((((i + 1):Nat):Int):Int) < ((n17:Nat):Int))) with hc26 | hc26
 have hp26:((((i + 1):Nat):Int):Int) < ((n17:Nat):Int):=of_decide_eq_true hc26
 refine c_cond_t (t:=true) (.tmp rfl (cVb hc26)) rfl ?_
 refine c_skip (n_then (c_seq (c_block (c_seq (q_region mixed hs25 (by kernel_rfl) ?_)))))
 refine q_st (v:=.slice A16 n17 c18) (fun w hs => (x_move (.tmp rfl hρ23))) ?_
 refine q_st (v:=.int .i64 ((i:Nat):Int)) (fun w hs => (x_move (.tmp rfl hρ24))) ?_
 obtain ⟨e27,b28,o29,cs30,hx31,hA32,hr33,hat34⟩:=sp19.get (i:=i) (by omega)
 obtain ⟨rfl,b35,⟨b36,b37⟩,b38⟩:=hr33
 have hat34x:∀ {w:World} {L:List Res},St H14 w L → At w ⟨b28,o29 + i * 3,none⟩ [.int .u64 ((e27.ID.N:Nat):Int),.int .i64 e27.ID.P,.int .u16 ((e27.Set:Nat):Int)]:=fun h => hat34 h
 refine q_st (v:=.pointer (some ⟨b28,(o29 + i * 3),none⟩)) (fun w hs => (ixo79 (.tmp rfl rfl) hA32 (i:=((i:Nat):Int)) (.tmp rfl rfl) (by omega) (by omega) (by omega))) ?_
 refine q_st (v:=.pointer (some ⟨b28,(o29 + i * 3) + 0,none⟩)) (fun w hs => (fa47_0 (.tmp rfl rfl))) ?_
 refine q_st (v:=.agg #[.int .u64 ((e27.ID.N:Nat):Int),.int .i64 e27.ID.P]) (fun w hs => (ld44 (cs:=[.int .u64 ((e27.ID.N:Nat):Int),.int .i64 e27.ID.P]) (.tmp rfl rfl) ((hat34x hs).sub 0 rfl) rfl)) ?_
 refine q_st (v:=.agg #[.int .u64 ((v.N:Nat):Int),.int .i64 v.P]) (fun w hs => (ld44 (cs:=[.int .u64 ((v.N:Nat):Int),.int .i64 v.P]) (.tmp rfl hρ21) (hs.at_ 1 rfl (0) rfl) rfl)) ?_
 refine q_st (v:=.bool ((((e27.ID.N:Nat):Int) == ((v.N:Nat):Int)) && ((e27.ID.P == v.P) && true))) (fun w hs => (x_eqlA eqg44 (.tmp rfl rfl) (.tmp rfl rfl) (fun d => eqs44 (d + 98) _ ((e27.ID.N:Nat):Int) ((v.N:Nat):Int) e27.ID.P v.P))) ?_
 refine q_nil ?_
 intro w hs39
 refine n_then ?_
 rcases Bool.eq_false_or_eq_true (decide (e27.ID = v)) with hc40 | hc40
 have hp40:e27.ID = v:=of_decide_eq_true hc40
 refine c_cond_t (t:=true) (.tmp rfl ((cVb (GViewID.beq_dec e27.ID v)).trans (cVb hc40))) rfl ?_
 refine c_seq (c_region (st (v:=.slice A16 n17 c18) (x_move (.tmp rfl hρ23)) ?_))
 refine st (v:=.int .i64 ((i:Nat):Int)) (x_move (.tmp rfl hρ24)) ?_
 refine st (v:=.int .i64 (((i + 1):Nat):Int)) (x_add (k:=.i64) (a:=((i:Nat):Int)) (b:=1) (.tmp rfl rfl) .const ((w64 (by omega) (by omega)).trans (by omega))) ?_
 obtain ⟨e41,b42,o43,cs44,hx45,hA46,hr47,hat48⟩:=sp19.get (i:=(i + 1)) (by omega)
 obtain ⟨rfl,b49,⟨b50,b51⟩,b52⟩:=hr47
 have hat48x:∀ {w:World} {L:List Res},St H14 w L → At w ⟨b42,o43 + (i + 1) * 3,none⟩ [.int .u64 ((e41.ID.N:Nat):Int),.int .i64 e41.ID.P,.int .u16 ((e41.Set:Nat):Int)]:=fun h => hat48 h
 refine st (v:=.pointer (some ⟨b42,(o43 + (i + 1) * 3),none⟩)) (ixo79 (.tmp rfl rfl) hA46 (i:=(((i + 1):Nat):Int)) (.tmp rfl rfl) (by omega) (by omega) (by omega)) ?_
 refine st (v:=.pointer (some ⟨b42,(o43 + (i + 1) * 3) + 0,none⟩)) (fa47_0 (.tmp rfl rfl)) ?_
 refine st (v:=.agg #[.int .u64 ((e41.ID.N:Nat):Int),.int .i64 e41.ID.P]) (ld44 (cs:=[.int .u64 ((e41.ID.N:Nat):Int),.int .i64 e41.ID.P]) (.tmp rfl rfl) ((hat48x hs39).sub 0 rfl) rfl) ?_
 refine st_m0 (sto44 (cs':=[.int .u64 ((e41.ID.N:Nat):Int),.int .i64 e41.ID.P]) (i:=0) hs39 (v:=.agg #[.int .u64 ((e41.ID.N:Nat):Int),.int .i64 e41.ID.P]) (.tmp rfl hρ22) (.tmp rfl rfl) rfl (Nat.le_of_ble_eq_true rfl) (oneA rfl) rfl) ?_
 rintro w53 hs55
 refine c_nil (n_then (c_ret (r_block (r_then (r_then (r_block (r_then (leave_ret (res_one (v:=.agg #[.int .u64 ((e41.ID.N:Nat):Int),.int .i64 e41.ID.P]) rfl (.mkCell rfl hρ22 (lv44 (cs:=[.int .u64 ((e41.ID.N:Nat):Int),.int .i64 e41.ID.P]) (hs55.at_ 0 rfl 0 rfl) rfl))) ?_))))))))
 have hnx:nextT l v = e41.ID:=next_go _ i e27 e41 hm hx31 hx45 (by simpa using hc40)
 rw [hnx]
 exact ⟨H14,[.int .u64 ((e41.ID.N:Nat):Int),.int .i64 e41.ID.P],hle15,rfl,⟨rfl,b49,⟨b50,b51⟩⟩,hs55.drop.drop⟩
 have hp40:¬ (e27.ID = v):=of_decide_eq_false hc40
 refine c_cond_f (t:=false) (.tmp rfl ((cVb (GViewID.beq_dec e27.ID v)).trans (cVb hc40))) rfl ?_
 refine c_skip (n_block (n_then (c_region (st (v:=.int .i64 ((i:Nat):Int)) (x_move (.tmp rfl hρ24)) ?_))))
 refine st (v:=.int .i64 (((i + 1):Nat):Int)) (x_add (k:=.i64) (a:=((i:Nat):Int)) (b:=1) (.tmp rfl rfl) .const ((w64 (by omega) (by omega)).trans (by omega))) ?_
 refine st (v:=.int .i64 (((i + 1):Nat):Int)) (x_assign (.tmp rfl rfl)) ?_
 refine c_nil ?_
 refine n_then ⟨_,_,rfl,?_,(i + 1),hρ21,hρ22,hρ23,rfl,(by omega),(met_next hm hx31 (by simpa using hc40)),((hs39.p1).p1),rfl⟩
 omega
 have hp26:¬ (((((i + 1):Nat):Int):Int) < ((n17:Nat):Int)):=of_decide_eq_false hc26
 refine c_cond_f (t:=false) (.tmp rfl (cVb hc26)) rfl ?_
 refine c_exit (x_then (x_then (x_here (n_then (c_seq (c_region (st (v:=.agg #[.int .u64 0,.int .i64 0]) (bl44 (ps:=[]) Evp.nil rfl) ?_)))))))
 refine st_m0 (sto44 (cs':=[.int .u64 0,.int .i64 0]) (i:=0) hs25 (v:=.agg #[.int .u64 0,.int .i64 0]) (.tmp rfl hρ22) (.tmp rfl rfl) rfl (Nat.le_of_ble_eq_true rfl) (oneA rfl) rfl) ?_
 rintro w56 hs58
 refine c_nil (n_then (c_ret (leave_ret (res_one (v:=.agg #[.int .u64 0,.int .i64 0]) rfl (.mkCell rfl hρ22 (lv44 (cs:=[.int .u64 0,.int .i64 0]) (hs58.at_ 0 rfl 0 rfl) rfl))) ?_)))
 have hnx:nextT l v = vid0:=next_end _ (fun j w' hj hw => hm j w' (by omega) hw)
 rw [hnx]
 exact ⟨H14,[.int .u64 0,.int .i64 0],hle15,rfl,⟨rfl,(show 0 < 18446744073709551616 from by omega),(show IB 0 from ⟨by omega,by omega⟩)⟩,hs58.drop.drop⟩
end Go.Proofs.YtnikcgcbkdeeeaaDoor

set_option linter.unusedVariables false
set_option linter.unusedSimpArgs false
namespace Go.Proofs.YtnikcgcbkdeeeaaDoor
open Go Go.FM Go.Proofs
attribute [local irreducible] wpList wpQuiet Code.wp Calls
set_option maxHeartbeats 8000000 in
theorem alone14_spec {H:Hp} {w:World} {L:List Res} (hs:St H w (L)) (node:Int) (b_node:IB node) {A_l:Option Addr} {n_l c_l:Nat} (l:(List GEvent)) (h_l:Sl kEvent H A_l n_l c_l l):Calls Tryd.prog 35 #[.int .i64 node,.slice A_l n_l c_l] w (fun e w' => ∃ (H':Hp),H.le H'∧e = .returned (.bool (aloneT node l))∧St H' w' (L)):=by
 obtain ⟨b_node1,b_node2⟩:=b_node
 have:=h_l.len; have:=h_l.le; have:n_l * 64 ≤ 140737488351232:=h_l.bnd
 refine enter (args:=[.int .i64 node,.slice A_l n_l c_l]) (N:=103) Tryd.func35 rfl rfl rfl ?_
 have hvl2:=vT_len (l:=l)
 have hnb2:n_l * 64 ≤ 140737488351232:=h_l.bnd
 refine c_seq (c_region (st (v:=.bool false) (x_assign .const) ?_))
 refine c_nil (n_then (c_seq (c_region (st (v:=.bool false) (x_assign .const) ?_))))
 refine c_nil (n_then (c_seq (c_region (st (v:=.agg #[.int .u64 0,.int .i64 0,.int .u16 0]) (bl47 (ps:=[]) Evp.nil rfl) ?_))))
 refine st_m (al47 (cs:=[.int .u64 0,.int .i64 0,.int .u16 0]) hs rfl) ?_
 rintro _ w2 ⟨g1,rfl,hs4⟩
 refine st_m0 (sto47 (cs':=[.int .u64 0,.int .i64 0,.int .u16 0]) (i:=0) hs4 (v:=.agg #[.int .u64 0,.int .i64 0,.int .u16 0]) (.tmp rfl rfl) (.tmp rfl rfl) rfl (Nat.le_of_ble_eq_true rfl) (oneA rfl) rfl) ?_
 rintro w5 hs7
 refine c_nil (n_then (c_seq (c_region (st (v:=.int .i64 0) (x_assign .const) ?_))))
 refine c_nil (n_then (c_seq (c_region (st (v:=.int .i64 0) (x_assign .const) ?_))))
 refine c_nil (n_then (c_seq (c_seq (c_region (st (v:=.int .i64 0) (x_assign .const) ?_)))))
 refine c_nil (n_then (c_block (c_loop (fun ρ w mm => ∃ (i:Nat) (on:Bool) (rc:Nat) (sf:Nat) (cv:GView),ρ 0 = .int .i64 node∧ρ 1 = .slice A_l n_l c_l∧ρ 5 = .bool on∧ρ 6 = .pointer (some ⟨g1,0,none⟩)∧ρ 7 = .int .i64 ((rc:Nat):Int)∧ρ 8 = .int .i64 ((sf:Nat):Int)∧ρ 9 = .int .i64 ((i:Nat):Int)∧(i ≤ n_l)∧(aRun node (l.take i) = some ⟨on,cv,rc,sf⟩)∧(cv.ID.N < 18446744073709551616)∧(IB cv.ID.P)∧(cv.Set < 65536)∧(rc ≤ i)∧(sf ≤ i)∧St H w (obj g1 47 [.int .u64 ((cv.ID.N:Nat):Int),.int .i64 cv.ID.P,.int .u16 ((cv.Set:Nat):Int)]::L)∧mm = n_l - i) _ ⟨0,false,0,0,view0,rfl,rfl,rfl,rfl,rfl,rfl,rfl,(by omega),rfl,(show 0 < 18446744073709551616 by omega),(show IB 0 from ⟨by omega,by omega⟩),(show 0 < 65536 by omega),(by omega),(by omega),hs7,rfl⟩ ?_)))
 rintro ρ w mm ⟨i,on,rc,sf,cv,hρ9,hρ10,hρ11,hρ12,hρ13,hρ14,hρ15,hi,hst,bcv,icv,scv,hrl,hfl,hs16,rfl⟩
 refine c_seq (c_seq (c_region (st (v:=.int .i64 ((i:Nat):Int)) (x_move (.tmp rfl hρ15)) ?_)))
 refine st (v:=.slice A_l n_l c_l) (x_move (.tmp rfl hρ10)) ?_
 refine st (v:=.int .i64 ((n_l:Nat):Int)) (x_len (n:=n_l) Tryd.underlying41 (.tmp rfl rfl)) ?_
 refine st (v:=.bool (decide ((((i:Nat):Int):Int) < ((n_l:Nat):Int)))) (x_lss (k:=.i64) (a:=((i:Nat):Int)) (b:=((n_l:Nat):Int)) (.tmp rfl rfl) (.tmp rfl rfl)) ?_
 refine c_nil (n_then ?_)
 rcases Bool.eq_false_or_eq_true (decide ((((i:Nat):Int):Int) < ((n_l:Nat):Int))) with hc17 | hc17
 have hp17:(((i:Nat):Int):Int) < ((n_l:Nat):Int):=of_decide_eq_true hc17
 refine c_cond_t (t:=true) (.tmp rfl (cVb hc17)) rfl ?_
 refine c_skip (n_then (c_seq (c_block (c_seq (c_region (st (v:=.slice A_l n_l c_l) (x_move (.tmp rfl hρ10)) ?_))))))
 refine st (v:=.int .i64 ((i:Nat):Int)) (x_move (.tmp rfl hρ15)) ?_
 obtain ⟨e18,b19,o20,cs21,hx22,hA23,hr24,hat25⟩:=h_l.get (i:=i) (by omega)
 obtain ⟨A33,n34,c35,rfl,b26,b27,⟨b28,b29⟩,b30,⟨b31,b32⟩,hy36⟩:=hr24
 have:=hy36.len; have:=hy36.bnd; have:=hy36.le
 have hat25x:∀ {w:World} {L:List Res},St H w L → At w ⟨b19,o20 + i * 6,none⟩ [.int .u8 ((e18.Kind:Nat):Int),.int .u64 ((e18.View.ID.N:Nat):Int),.int .i64 e18.View.ID.P,.int .u16 ((e18.View.Set:Nat):Int),.int .i64 e18.From,.slice A33 n34 c35]:=fun h => hat25 h
 refine st (v:=.pointer (some ⟨b19,(o20 + i * 6),none⟩)) (ixo41 (.tmp rfl rfl) hA23 (i:=((i:Nat):Int)) (.tmp rfl rfl) (by omega) (by omega) (by omega)) ?_
 refine st (v:=.pointer (some ⟨b19,(o20 + i * 6) + 1,none⟩)) (fa49_1 (.tmp rfl rfl)) ?_
 refine st (v:=.agg #[.int .u64 ((e18.View.ID.N:Nat):Int),.int .i64 e18.View.ID.P,.int .u16 ((e18.View.Set:Nat):Int)]) (ld47 (cs:=[.int .u64 ((e18.View.ID.N:Nat):Int),.int .i64 e18.View.ID.P,.int .u16 ((e18.View.Set:Nat):Int)]) (.tmp rfl rfl) ((hat25x hs16).sub 1 rfl) rfl) ?_
 refine st_m (al47 (cs:=[.int .u64 0,.int .i64 0,.int .u16 0]) hs16 rfl) ?_
 rintro _ w38 ⟨g37,rfl,hs40⟩
 refine st_m0 (sto47 (cs':=[.int .u64 ((e18.View.ID.N:Nat):Int),.int .i64 e18.View.ID.P,.int .u16 ((e18.View.Set:Nat):Int)]) (i:=0) hs40 (v:=.agg #[.int .u64 ((e18.View.ID.N:Nat):Int),.int .i64 e18.View.ID.P,.int .u16 ((e18.View.Set:Nat):Int)]) (.tmp rfl rfl) (.tmp rfl rfl) rfl (Nat.le_of_ble_eq_true rfl) (oneA rfl) rfl) ?_
 rintro w41 hs43
 refine c_nil (n_then (c_seq (c_seq (c_region (st (v:=.slice A_l n_l c_l) (x_move (.tmp rfl hρ10)) ?_)))))
 refine st (v:=.int .i64 ((i:Nat):Int)) (x_move (.tmp rfl hρ15)) ?_
 refine st (v:=.pointer (some ⟨b19,(o20 + i * 6),none⟩)) (ixo41 (.tmp rfl rfl) hA23 (i:=((i:Nat):Int)) (.tmp rfl rfl) (by omega) (by omega) (by omega)) ?_
 refine st (v:=.pointer (some ⟨b19,(o20 + i * 6) + 0,none⟩)) (fa49_0 (.tmp rfl rfl)) ?_
 refine st (v:=.int .u8 ((e18.Kind:Nat):Int)) (ld5 (.tmp rfl rfl) ((hat25x hs43).cell 0 rfl)) ?_
 refine c_nil (n_then (c_block (c_seq (c_region (st (v:=.bool (decide ((((e18.Kind:Nat):Int):Int) = 1))) (x_eql (k:=.u8) (a:=((e18.Kind:Nat):Int)) (b:=1) (.tmp rfl rfl) .const) ?_)))))
 refine st (v:=.bool (decide ((((e18.Kind:Nat):Int):Int) = 1))) (x_assign (.tmp rfl rfl)) ?_
 refine c_nil (n_then ?_)
 rcases Bool.eq_false_or_eq_true (decide ((((e18.Kind:Nat):Int):Int) = 1)) with hc44 | hc44
 have hp44:(((e18.Kind:Nat):Int):Int) = 1:=of_decide_eq_true hc44
 refine c_cond_t (t:=true) (.tmp rfl (cVb hc44)) rfl ?_
 refine c_seq (c_seq (c_region (st (v:=.pointer (some ⟨g37,0 + 0,none⟩)) (fa47_0 (.tmp rfl rfl)) ?_)))
 refine st (v:=.pointer (some ⟨g37,0 + 0 + 0,none⟩)) (fa44_0 (.tmp rfl rfl)) ?_
 refine st (v:=.int .u64 ((e18.View.ID.N:Nat):Int)) (ld42 (.tmp rfl rfl) (hs43.cell 0 rfl (0 + 0 + 0) rfl)) ?_
 refine st (v:=.bool (decide ((((e18.View.ID.N:Nat):Int):Int) = 0))) (x_eql (k:=.u64) (a:=((e18.View.ID.N:Nat):Int)) (b:=0) (.tmp rfl rfl) .const) ?_
 refine st (v:=.bool (decide ((((e18.View.ID.N:Nat):Int):Int) = 0))) (x_move (.tmp rfl rfl)) ?_
 refine jw 6 (fun ρ w => ρ 42 = .bool ((decide ((((e18.View.ID.N:Nat):Int):Int) = 0)) || (!(has e18.View.Set node)))∧ρ 0 = .int .i64 node∧ρ 1 = .slice A_l n_l c_l∧ρ 5 = .bool on∧ρ 6 = .pointer (some ⟨g1,0,none⟩)∧ρ 9 = .int .i64 ((i:Nat):Int)∧ρ 10 = .pointer (some ⟨g37,0,none⟩)∧St H w (obj g37 47 [.int .u64 ((e18.View.ID.N:Nat):Int),.int .i64 e18.View.ID.P,.int .u16 ((e18.View.Set:Nat):Int)]::obj g1 47 [.int .u64 ((cv.ID.N:Nat):Int),.int .i64 cv.ID.P,.int .u16 ((cv.Set:Nat):Int)]::L)) ?_ ?_
 rcases Bool.eq_false_or_eq_true (decide ((((e18.View.ID.N:Nat):Int):Int) = 0)) with hc45 | hc45
 have hp45:(((e18.View.ID.N:Nat):Int):Int) = 0:=of_decide_eq_true hc45
 refine g_no (yk 36 true rfl rfl hc45) rfl ?_
 refine g_no (yk 36 true rfl rfl hc45) rfl ?_
 refine g_no (yk 36 true rfl rfl hc45) rfl ?_
 refine g_no (yk 36 true rfl rfl hc45) rfl ?_
 refine g_no (yk 36 true rfl rfl hc45) rfl ?_
 refine st (v:=.bool true) (x_pick_t (.tmp rfl (cVb hc45)) .const) ?_
 exact jw_end ⟨(cVb (jor_t hc45)),hρ9,hρ10,hρ11,hρ12,hρ15,rfl,hs43⟩
 have hp45:¬ ((((e18.View.ID.N:Nat):Int):Int) = 0):=of_decide_eq_false hc45
 refine g_yes (yk 36 false rfl rfl hc45) ?_
 refine st (v:=.pointer (some ⟨g37,0 + 2,none⟩)) (fa47_1 (.tmp rfl rfl)) ?_
 refine g_yes (yk 36 false rfl rfl hc45) ?_
 refine st (v:=.int .u16 ((e18.View.Set:Nat):Int)) (ld45 (.tmp rfl rfl) (hs43.cell 0 rfl (0 + 2) rfl)) ?_
 refine g_yes (yk 36 false rfl rfl hc45) ?_
 refine st (v:=.int .i64 node) (x_move (.tmp rfl hρ9)) ?_
 refine g_yes (yk 36 false rfl rfl hc45) ?_
 refine st_c cb40 .func (evs2 (.tmp rfl rfl) (.tmp rfl rfl)) (rhas_spec hs43 e18.View.Set node b30 (by omega)) ?_
 rintro e w46 ⟨rfl,hs47⟩
 refine ⟨_,rfl,?_⟩
 refine g_yes (yk 36 false rfl rfl hc45) ?_
 refine st (v:=.bool (!(has e18.View.Set node))) (x_not (.tmp rfl rfl)) ?_
 refine st (v:=.bool (!(has e18.View.Set node))) (x_pick_f (.tmp rfl (cVb hc45)) (.tmp rfl rfl)) ?_
 exact jw_end ⟨(cVb (jor_f hc45)),hρ9,hρ10,hρ11,hρ12,hρ15,rfl,hs47⟩
 rintro ρ w ⟨hρ48,hρ49,hρ50,hρ51,hρ52,hρ53,hρ54,hs55⟩
 refine st (v:=.bool ((decide ((((e18.View.ID.N:Nat):Int):Int) = 0)) || (!(has e18.View.Set node)))) (x_move (.tmp rfl hρ48)) ?_
 refine jw 10 (fun ρ w => ρ 53 = .bool (((decide ((((e18.View.ID.N:Nat):Int):Int) = 0)) || (!(has e18.View.Set node))) || (on && (decide (((cmpV e18.View.ID.N e18.View.ID.P cv.ID.N cv.ID.P):Int) ≤ 0))))∧ρ 0 = .int .i64 node∧ρ 1 = .slice A_l n_l c_l∧ρ 6 = .pointer (some ⟨g1,0,none⟩)∧ρ 9 = .int .i64 ((i:Nat):Int)∧ρ 10 = .pointer (some ⟨g37,0,none⟩)∧St H w (obj g37 47 [.int .u64 ((e18.View.ID.N:Nat):Int),.int .i64 e18.View.ID.P,.int .u16 ((e18.View.Set:Nat):Int)]::obj g1 47 [.int .u64 ((cv.ID.N:Nat):Int),.int .i64 cv.ID.P,.int .u16 ((cv.Set:Nat):Int)]::L)) ?_ ?_
 rcases Bool.eq_false_or_eq_true ((decide ((((e18.View.ID.N:Nat):Int):Int) = 0)) || (!(has e18.View.Set node))) with hc56 | hc56
 have hp56:((((e18.View.ID.N:Nat):Int):Int) = 0) ∨ (¬ ((has e18.View.Set node) = true)):=((J_or decide_eq_true_iff (J_not Iff.rfl))).1 hc56
 refine g_no (yk 43 true rfl rfl hc56) rfl ?_
 refine g_no (yk 43 true rfl rfl hc56) rfl ?_
 refine g_no0 (yn (dj:=45) rfl rfl) ?_
 refine g_no0 (yn (dj:=45) rfl rfl) ?_
 refine g_no0 (yn (dj:=45) rfl rfl) ?_
 refine g_no0 (yn (dj:=45) rfl rfl) ?_
 refine g_no0 (yn (dj:=45) rfl rfl) ?_
 refine g_no0 (yn (dj:=45) rfl rfl) ?_
 refine g_no (yk 43 true rfl rfl hc56) rfl ?_
 refine st (v:=.bool true) (x_pick_t (.tmp rfl (cVb hc56)) .const) ?_
 exact jw_end ⟨(cVb (jor_t hc56)),hρ49,hρ50,hρ52,hρ53,hρ54,hs55⟩
 have hp56:¬ (((((e18.View.ID.N:Nat):Int):Int) = 0) ∨ (¬ ((has e18.View.Set node) = true))):=J_no (J_or decide_eq_true_iff (J_not Iff.rfl)) hc56
 refine g_yes (yk 43 false rfl rfl hc56) ?_
 refine st (v:=.bool on) (x_move (.tmp rfl hρ51)) ?_
 refine g_yes (yk 43 false rfl rfl hc56) ?_
 refine st (v:=.bool on) (x_move (.tmp rfl rfl)) ?_
 refine jw 7 (fun ρ w => ρ 52 = .bool (on && (decide (((cmpV e18.View.ID.N e18.View.ID.P cv.ID.N cv.ID.P):Int) ≤ 0)))∧ρ 0 = .int .i64 node∧ρ 1 = .slice A_l n_l c_l∧ρ 6 = .pointer (some ⟨g1,0,none⟩)∧ρ 9 = .int .i64 ((i:Nat):Int)∧ρ 10 = .pointer (some ⟨g37,0,none⟩)∧ρ 43 = .bool false∧St H w (obj g37 47 [.int .u64 ((e18.View.ID.N:Nat):Int),.int .i64 e18.View.ID.P,.int .u16 ((e18.View.Set:Nat):Int)]::obj g1 47 [.int .u64 ((cv.ID.N:Nat):Int),.int .i64 cv.ID.P,.int .u16 ((cv.Set:Nat):Int)]::L)) ?_ ?_
 rcases Bool.eq_false_or_eq_true on with hc57 | hc57
 refine g_yes (yk 45 true rfl rfl hc57) ?_
 refine st (v:=.pointer (some ⟨g37,0 + 0,none⟩)) (fa47_0 (.tmp rfl hρ54)) ?_
 refine g_yes (yk 45 true rfl rfl hc57) ?_
 refine st (v:=.agg #[.int .u64 ((e18.View.ID.N:Nat):Int),.int .i64 e18.View.ID.P]) (ld44 (cs:=[.int .u64 ((e18.View.ID.N:Nat):Int),.int .i64 e18.View.ID.P]) (.tmp rfl rfl) (hs55.at_ 0 rfl (0 + 0) rfl) rfl) ?_
 refine g_yes (yk 45 true rfl rfl hc57) ?_
 refine st (v:=.pointer (some ⟨g1,0 + 0,none⟩)) (fa47_0 (.tmp rfl hρ52)) ?_
 refine g_yes (yk 45 true rfl rfl hc57) ?_
 refine st (v:=.agg #[.int .u64 ((cv.ID.N:Nat):Int),.int .i64 cv.ID.P]) (ld44 (cs:=[.int .u64 ((cv.ID.N:Nat):Int),.int .i64 cv.ID.P]) (.tmp rfl rfl) (hs55.at_ 1 rfl (0 + 0) rfl) rfl) ?_
 refine g_yes (yk 45 true rfl rfl hc57) ?_
 refine st_c cb41 .func (evs2 (.tmp rfl rfl) (.tmp rfl rfl)) (rcompare_spec hs55 e18.View.ID.N e18.View.ID.P cv.ID.N cv.ID.P) ?_
 rintro e w58 ⟨rfl,hs59⟩
 refine ⟨_,rfl,?_⟩
 refine g_yes (yk 45 true rfl rfl hc57) ?_
 refine st (v:=.bool (decide (((cmpV e18.View.ID.N e18.View.ID.P cv.ID.N cv.ID.P):Int) ≤ 0))) (x_leq (k:=.i64) (a:=(cmpV e18.View.ID.N e18.View.ID.P cv.ID.N cv.ID.P)) (b:=0) (.tmp rfl rfl) .const) ?_
 refine g_yes (yk 43 false rfl rfl hc56) ?_
 refine st (v:=.bool (decide (((cmpV e18.View.ID.N e18.View.ID.P cv.ID.N cv.ID.P):Int) ≤ 0))) (x_pick_t (.tmp rfl (cVb hc57)) (.tmp rfl rfl)) ?_
 exact jw_end ⟨(cVb (jand_t hc57)),hρ49,hρ50,hρ52,hρ53,hρ54,(cVb hc56),hs59⟩
 refine g_no (yk 45 false rfl rfl hc57) rfl ?_
 refine g_no (yk 45 false rfl rfl hc57) rfl ?_
 refine g_no (yk 45 false rfl rfl hc57) rfl ?_
 refine g_no (yk 45 false rfl rfl hc57) rfl ?_
 refine g_no (yk 45 false rfl rfl hc57) rfl ?_
 refine g_no (yk 45 false rfl rfl hc57) rfl ?_
 refine g_yes (yk 43 false rfl rfl hc56) ?_
 refine st (v:=.bool false) (x_pick_f (.tmp rfl (cVb hc57)) .const) ?_
 exact jw_end ⟨(cVb (jand_f hc57)),hρ49,hρ50,hρ52,hρ53,hρ54,(cVb hc56),hs55⟩
 rintro ρ w ⟨hρ60,hρ61,hρ62,hρ63,hρ64,hρ65,hρ66,hs67⟩
 refine st (v:=.bool (on && (decide (((cmpV e18.View.ID.N e18.View.ID.P cv.ID.N cv.ID.P):Int) ≤ 0)))) (x_pick_f (.tmp rfl hρ66) (.tmp rfl hρ60)) ?_
 exact jw_end ⟨(cVb (jor_f hc56)),hρ61,hρ62,hρ63,hρ64,hρ65,hs67⟩
 rintro ρ w ⟨hρ68,hρ69,hρ70,hρ71,hρ72,hρ73,hs74⟩
 refine c_nil (n_then ?_)
 rcases Bool.eq_false_or_eq_true (((decide ((((e18.View.ID.N:Nat):Int):Int) = 0)) || (!(has e18.View.Set node))) || (on && (decide (((cmpV e18.View.ID.N e18.View.ID.P cv.ID.N cv.ID.P):Int) ≤ 0)))) with hc75 | hc75
 have hp75:(((((e18.View.ID.N:Nat):Int):Int) = 0) ∨ (¬ ((has e18.View.Set node) = true))) ∨ ((on = true)∧(((cmpV e18.View.ID.N e18.View.ID.P cv.ID.N cv.ID.P):Int) ≤ 0)):=((J_or (J_or decide_eq_true_iff (J_not Iff.rfl)) (J_and Iff.rfl decide_eq_true_iff))).1 hc75
 refine c_cond_t (t:=true) (.tmp rfl (hρ68.trans (cVb hc75))) rfl ?_
 refine c_seq (c_region (st (v:=.bool false) (x_assign .const) ?_))
 refine c_nil (n_then (c_ret (r_then (r_block (r_then (r_block (r_then (r_then (r_block (r_then (leave_ret (res_one (v:=.bool false) rfl (.mk rfl rfl)) ?_)))))))))))
 have hans76:aloneT node l = false:=alone_no1 (aRun_step hx22 hst (aS_1bad (by omega) (by have h9:=hc75; simpa using h9)))
 rw [hans76]
 exact ⟨H,(Hp.le.refl _),rfl,hs74.drop.drop⟩
 have hp75:¬ ((((((e18.View.ID.N:Nat):Int):Int) = 0) ∨ (¬ ((has e18.View.Set node) = true))) ∨ ((on = true)∧(((cmpV e18.View.ID.N e18.View.ID.P cv.ID.N cv.ID.P):Int) ≤ 0))):=J_no (J_or (J_or decide_eq_true_iff (J_not Iff.rfl)) (J_and Iff.rfl decide_eq_true_iff)) hc75
 refine c_cond_f (t:=false) (.tmp rfl (hρ68.trans (cVb hc75))) rfl ?_
 refine c_skip (n_then (c_seq (c_region (st (v:=.bool true) (x_assign .const) ?_))))
 refine c_nil (n_then (c_seq (c_region (st (v:=.agg #[.int .u64 ((e18.View.ID.N:Nat):Int),.int .i64 e18.View.ID.P,.int .u16 ((e18.View.Set:Nat):Int)]) (ld47 (cs:=[.int .u64 ((e18.View.ID.N:Nat):Int),.int .i64 e18.View.ID.P,.int .u16 ((e18.View.Set:Nat):Int)]) (.tmp rfl hρ73) (hs74.at_ 0 rfl (0) rfl) rfl) ?_))))
 have hs77:=hs74.p1
 refine st_m0 (sto47 (cs':=[.int .u64 ((e18.View.ID.N:Nat):Int),.int .i64 e18.View.ID.P,.int .u16 ((e18.View.Set:Nat):Int)]) (i:=0) hs77 (v:=.agg #[.int .u64 ((e18.View.ID.N:Nat):Int),.int .i64 e18.View.ID.P,.int .u16 ((e18.View.Set:Nat):Int)]) (.tmp rfl hρ71) (.tmp rfl rfl) rfl (Nat.le_of_ble_eq_true rfl) (oneA rfl) rfl) ?_
 rintro w78 hs80
 refine c_nil (n_then (c_seq (c_region (st (v:=.int .i64 0) (x_assign .const) ?_))))
 refine c_nil (n_then (c_seq (c_region (st (v:=.int .i64 0) (x_assign .const) ?_))))
 refine c_nil (n_then (c_exit (x_block rfl (x_then (x_here (n_then (c_region (st (v:=.int .i64 ((i:Nat):Int)) (x_move (.tmp rfl hρ72)) ?_))))))))
 refine st (v:=.int .i64 (((i + 1):Nat):Int)) (x_add (k:=.i64) (a:=((i:Nat):Int)) (b:=1) (.tmp rfl rfl) .const ((w64 (by omega) (by omega)).trans (by omega))) ?_
 refine st (v:=.int .i64 (((i + 1):Nat):Int)) (x_assign (.tmp rfl rfl)) ?_
 refine c_nil ?_
 refine n_then ⟨_,_,rfl,?_,(i + 1),true,0,0,e18.View,hρ69,hρ70,rfl,hρ71,rfl,rfl,rfl,(by omega),(aRun_step hx22 hst (aS_1ok (by omega) (by have h9:=hc75; simpa using h9))),b27,⟨b28,b29⟩,b30,(by omega),(by omega),(hs80.p1).drop,rfl⟩
 omega
 have hp44:¬ ((((e18.Kind:Nat):Int):Int) = 1):=of_decide_eq_false hc44
 refine c_cond_f (t:=false) (.tmp rfl (cVb hc44)) rfl ?_
 refine c_seq (c_region (st (v:=.bool (decide ((((e18.Kind:Nat):Int):Int) = 3))) (x_eql (k:=.u8) (a:=((e18.Kind:Nat):Int)) (b:=3) (.tmp rfl rfl) .const) ?_))
 refine st (v:=.bool (decide ((((e18.Kind:Nat):Int):Int) = 3))) (x_assign (.tmp rfl rfl)) ?_
 refine c_nil (n_then ?_)
 rcases Bool.eq_false_or_eq_true (decide ((((e18.Kind:Nat):Int):Int) = 3)) with hc81 | hc81
 have hp81:(((e18.Kind:Nat):Int):Int) = 3:=of_decide_eq_true hc81
 refine c_cond_t (t:=true) (.tmp rfl (cVb hc81)) rfl ?_
 refine c_region (st (v:=.int .i64 ((rc:Nat):Int)) (x_move (.tmp rfl hρ13)) ?_)
 refine st (v:=.int .i64 (((rc + 1):Nat):Int)) (x_add (k:=.i64) (a:=((rc:Nat):Int)) (b:=1) (.tmp rfl rfl) .const ((w64 (by omega) (by omega)).trans (by omega))) ?_
 refine st (v:=.int .i64 (((rc + 1):Nat):Int)) (x_assign (.tmp rfl rfl)) ?_
 refine c_nil (n_block (n_then (c_seq (c_region (st (v:=.bool on) (x_move (.tmp rfl hρ11)) ?_)))))
 refine st (v:=.bool (!on)) (x_not (.tmp rfl rfl)) ?_
 refine st (v:=.bool (!on)) (x_move (.tmp rfl rfl)) ?_
 refine jw 4 (fun ρ w => ρ 71 = .bool ((!on) || (!(decide (e18.View = cv))))∧ρ 0 = .int .i64 node∧ρ 1 = .slice A_l n_l c_l∧ρ 5 = .bool on∧ρ 6 = .pointer (some ⟨g1,0,none⟩)∧ρ 7 = .int .i64 (((rc + 1):Nat):Int)∧ρ 8 = .int .i64 ((sf:Nat):Int)∧ρ 9 = .int .i64 ((i:Nat):Int)∧St H w (obj g37 47 [.int .u64 ((e18.View.ID.N:Nat):Int),.int .i64 e18.View.ID.P,.int .u16 ((e18.View.Set:Nat):Int)]::obj g1 47 [.int .u64 ((cv.ID.N:Nat):Int),.int .i64 cv.ID.P,.int .u16 ((cv.Set:Nat):Int)]::L)) ?_ ?_
 rcases Bool.eq_false_or_eq_true on with hc82 | hc82
 refine g_yes (yl (dj:=67) (b:=false) rfl rfl (cVb (by rw [hc82]; rfl))) ?_
 refine st (v:=.agg #[.int .u64 ((e18.View.ID.N:Nat):Int),.int .i64 e18.View.ID.P,.int .u16 ((e18.View.Set:Nat):Int)]) (ld47 (cs:=[.int .u64 ((e18.View.ID.N:Nat):Int),.int .i64 e18.View.ID.P,.int .u16 ((e18.View.Set:Nat):Int)]) (.tmp rfl rfl) (hs43.at_ 0 rfl (0) rfl) rfl) ?_
 refine g_yes (yl (dj:=67) (b:=false) rfl rfl (cVb (by rw [hc82]; rfl))) ?_
 refine st (v:=.agg #[.int .u64 ((cv.ID.N:Nat):Int),.int .i64 cv.ID.P,.int .u16 ((cv.Set:Nat):Int)]) (ld47 (cs:=[.int .u64 ((cv.ID.N:Nat):Int),.int .i64 cv.ID.P,.int .u16 ((cv.Set:Nat):Int)]) (.tmp rfl hρ12) (hs43.at_ 1 rfl (0) rfl) rfl) ?_
 refine g_yes (yl (dj:=67) (b:=false) rfl rfl (cVb (by rw [hc82]; rfl))) ?_
 refine st (v:=.bool (!(((((e18.View.ID.N:Nat):Int) == ((cv.ID.N:Nat):Int)) && ((e18.View.ID.P == cv.ID.P) && true)) && ((((e18.View.Set:Nat):Int) == ((cv.Set:Nat):Int)) && true)))) (x_neqA eqg47 (.tmp rfl rfl) (.tmp rfl rfl) (fun d => eqs47 (d + 97) _ ((e18.View.ID.N:Nat):Int) ((cv.ID.N:Nat):Int) e18.View.ID.P cv.ID.P ((e18.View.Set:Nat):Int) ((cv.Set:Nat):Int))) ?_
 refine st (v:=.bool (!(decide (e18.View = cv)))) (x_pick_f (.tmp rfl (cVb (by rw [hc82]; rfl))) (.tmp rfl (congrArg (fun z => Value.bool (!z)) (GView.beq_dec e18.View cv)))) ?_
 exact jw_end ⟨(cVb (jor_f (by rw [hc82]; rfl))),hρ9,hρ10,((hρ11.trans (cVb hc82)).trans (cVb (hc82).symm)),hρ12,rfl,hρ14,hρ15,hs43⟩
 refine g_no (yl (dj:=67) (b:=true) rfl rfl (cVb (by rw [hc82]; rfl))) rfl ?_
 refine g_no (yl (dj:=67) (b:=true) rfl rfl (cVb (by rw [hc82]; rfl))) rfl ?_
 refine g_no (yl (dj:=67) (b:=true) rfl rfl (cVb (by rw [hc82]; rfl))) rfl ?_
 refine st (v:=.bool true) (x_pick_t (.tmp rfl (cVb (by rw [hc82]; rfl))) .const) ?_
 exact jw_end ⟨(cVb (jor_t (by rw [hc82]; rfl))),hρ9,hρ10,((hρ11.trans (cVb hc82)).trans (cVb (hc82).symm)),hρ12,rfl,hρ14,hρ15,hs43⟩
 rintro ρ w ⟨hρ83,hρ84,hρ85,hρ86,hρ87,hρ88,hρ89,hρ90,hs91⟩
 refine st (v:=.bool ((!on) || (!(decide (e18.View = cv))))) (x_move (.tmp rfl hρ83)) ?_
 refine jw 4 (fun ρ w => ρ 76 = .bool (((!on) || (!(decide (e18.View = cv)))) || (decide (((((rc + 1):Nat):Int):Int) < ((sf:Nat):Int))))∧ρ 0 = .int .i64 node∧ρ 1 = .slice A_l n_l c_l∧ρ 5 = .bool on∧ρ 6 = .pointer (some ⟨g1,0,none⟩)∧ρ 7 = .int .i64 (((rc + 1):Nat):Int)∧ρ 8 = .int .i64 ((sf:Nat):Int)∧ρ 9 = .int .i64 ((i:Nat):Int)∧St H w (obj g37 47 [.int .u64 ((e18.View.ID.N:Nat):Int),.int .i64 e18.View.ID.P,.int .u16 ((e18.View.Set:Nat):Int)]::obj g1 47 [.int .u64 ((cv.ID.N:Nat):Int),.int .i64 cv.ID.P,.int .u16 ((cv.Set:Nat):Int)]::L)) ?_ ?_
 rcases Bool.eq_false_or_eq_true ((!on) || (!(decide (e18.View = cv)))) with hc92 | hc92
 have hp92:(¬ (on = true)) ∨ (¬ (e18.View = cv)):=((J_or (J_not Iff.rfl) (J_not decide_eq_true_iff))).1 hc92
 refine g_no (yk 72 true rfl rfl hc92) rfl ?_
 refine g_no (yk 72 true rfl rfl hc92) rfl ?_
 refine g_no (yk 72 true rfl rfl hc92) rfl ?_
 refine st (v:=.bool true) (x_pick_t (.tmp rfl (cVb hc92)) .const) ?_
 exact jw_end ⟨(cVb (jor_t hc92)),hρ84,hρ85,hρ86,hρ87,hρ88,hρ89,hρ90,hs91⟩
 have hp92:¬ ((¬ (on = true)) ∨ (¬ (e18.View = cv))):=J_no (J_or (J_not Iff.rfl) (J_not decide_eq_true_iff)) hc92
 refine g_yes (yk 72 false rfl rfl hc92) ?_
 refine st (v:=.int .i64 ((sf:Nat):Int)) (x_move (.tmp rfl hρ89)) ?_
 refine g_yes (yk 72 false rfl rfl hc92) ?_
 refine st (v:=.int .i64 (((rc + 1):Nat):Int)) (x_move (.tmp rfl hρ88)) ?_
 refine g_yes (yk 72 false rfl rfl hc92) ?_
 refine st (v:=.bool (decide (((((rc + 1):Nat):Int):Int) < ((sf:Nat):Int)))) (x_gtr (k:=.i64) (a:=((sf:Nat):Int)) (b:=(((rc + 1):Nat):Int)) (.tmp rfl rfl) (.tmp rfl rfl)) ?_
 refine st (v:=.bool (decide (((((rc + 1):Nat):Int):Int) < ((sf:Nat):Int)))) (x_pick_f (.tmp rfl (cVb hc92)) (.tmp rfl rfl)) ?_
 exact jw_end ⟨(cVb (jor_f hc92)),hρ84,hρ85,hρ86,hρ87,hρ88,hρ89,hρ90,hs91⟩
 rintro ρ w ⟨hρ93,hρ94,hρ95,hρ96,hρ97,hρ98,hρ99,hρ100,hs101⟩
 refine c_nil (n_then ?_)
 rcases Bool.eq_false_or_eq_true (((!on) || (!(decide (e18.View = cv)))) || (decide (((((rc + 1):Nat):Int):Int) < ((sf:Nat):Int)))) with hc102 | hc102
 have hp102:((¬ (on = true)) ∨ (¬ (e18.View = cv))) ∨ (((((rc + 1):Nat):Int):Int) < ((sf:Nat):Int)):=((J_or (J_or (J_not Iff.rfl) (J_not decide_eq_true_iff)) decide_eq_true_iff)).1 hc102
 refine c_cond_t (t:=true) (.tmp rfl (hρ93.trans (cVb hc102))) rfl ?_
 refine c_seq (c_region (st (v:=.bool false) (x_assign .const) ?_))
 refine c_nil (n_then (c_ret (r_block (r_then (r_then (r_block (r_then (leave_ret (res_one (v:=.bool false) rfl (.mk rfl rfl)) ?_))))))))
 have hans103:aloneT node l = false:=alone_no1 (aRun_step hx22 hst (aS_bad (r:=(rc + 1)) (f:=sf) (by omega) (by rw [if_pos (by omega)]) (by rw [if_neg (by omega)]) (by have h9:=hc102; simp at h9; rcases h9 with h9 | h9; exact .inl h9; exact .inr (by omega))))
 rw [hans103]
 exact ⟨H,(Hp.le.refl _),rfl,hs101.drop.drop⟩
 have hp102:¬ (((¬ (on = true)) ∨ (¬ (e18.View = cv))) ∨ (((((rc + 1):Nat):Int):Int) < ((sf:Nat):Int))):=J_no (J_or (J_or (J_not Iff.rfl) (J_not decide_eq_true_iff)) decide_eq_true_iff) hc102
 refine c_cond_f (t:=false) (.tmp rfl (hρ93.trans (cVb hc102))) rfl ?_
 refine c_skip (n_block (n_then (c_region (st (v:=.int .i64 ((i:Nat):Int)) (x_move (.tmp rfl hρ100)) ?_))))
 refine st (v:=.int .i64 (((i + 1):Nat):Int)) (x_add (k:=.i64) (a:=((i:Nat):Int)) (b:=1) (.tmp rfl rfl) .const ((w64 (by omega) (by omega)).trans (by omega))) ?_
 refine st (v:=.int .i64 (((i + 1):Nat):Int)) (x_assign (.tmp rfl rfl)) ?_
 refine c_nil ?_
 refine n_then ⟨_,_,rfl,?_,(i + 1),on,(rc + 1),sf,cv,hρ94,hρ95,hρ96,hρ97,hρ98,hρ99,rfl,(by omega),(aRun_step hx22 hst (aS_ok (r:=(rc + 1)) (f:=sf) (by omega) (by rw [if_pos (by omega)]) (by rw [if_neg (by omega)]) (by have h9:=hc102; simp at h9; exact ⟨h9.1,by have h8:=h9.2; omega⟩))),bcv,icv,scv,(by omega),(by omega),hs101.drop,rfl⟩
 omega
 have hp81:¬ ((((e18.Kind:Nat):Int):Int) = 3):=of_decide_eq_false hc81
 refine c_cond_f (t:=false) (.tmp rfl (cVb hc81)) rfl ?_
 refine c_seq (c_region (st (v:=.bool (decide ((((e18.Kind:Nat):Int):Int) = 4))) (x_eql (k:=.u8) (a:=((e18.Kind:Nat):Int)) (b:=4) (.tmp rfl rfl) .const) ?_))
 refine st (v:=.bool (decide ((((e18.Kind:Nat):Int):Int) = 4))) (x_assign (.tmp rfl rfl)) ?_
 refine c_nil (n_then ?_)
 rcases Bool.eq_false_or_eq_true (decide ((((e18.Kind:Nat):Int):Int) = 4)) with hc104 | hc104
 have hp104:(((e18.Kind:Nat):Int):Int) = 4:=of_decide_eq_true hc104
 refine c_cond_t (t:=true) (.tmp rfl (cVb hc104)) rfl ?_
 refine c_region (st (v:=.int .i64 ((sf:Nat):Int)) (x_move (.tmp rfl hρ14)) ?_)
 refine st (v:=.int .i64 (((sf + 1):Nat):Int)) (x_add (k:=.i64) (a:=((sf:Nat):Int)) (b:=1) (.tmp rfl rfl) .const ((w64 (by omega) (by omega)).trans (by omega))) ?_
 refine st (v:=.int .i64 (((sf + 1):Nat):Int)) (x_assign (.tmp rfl rfl)) ?_
 refine c_nil (n_block (n_then (c_seq (c_region (st (v:=.bool on) (x_move (.tmp rfl hρ11)) ?_)))))
 refine st (v:=.bool (!on)) (x_not (.tmp rfl rfl)) ?_
 refine st (v:=.bool (!on)) (x_move (.tmp rfl rfl)) ?_
 refine jw 4 (fun ρ w => ρ 71 = .bool ((!on) || (!(decide (e18.View = cv))))∧ρ 0 = .int .i64 node∧ρ 1 = .slice A_l n_l c_l∧ρ 5 = .bool on∧ρ 6 = .pointer (some ⟨g1,0,none⟩)∧ρ 7 = .int .i64 ((rc:Nat):Int)∧ρ 8 = .int .i64 (((sf + 1):Nat):Int)∧ρ 9 = .int .i64 ((i:Nat):Int)∧St H w (obj g37 47 [.int .u64 ((e18.View.ID.N:Nat):Int),.int .i64 e18.View.ID.P,.int .u16 ((e18.View.Set:Nat):Int)]::obj g1 47 [.int .u64 ((cv.ID.N:Nat):Int),.int .i64 cv.ID.P,.int .u16 ((cv.Set:Nat):Int)]::L)) ?_ ?_
 rcases Bool.eq_false_or_eq_true on with hc105 | hc105
 refine g_yes (yl (dj:=67) (b:=false) rfl rfl (cVb (by rw [hc105]; rfl))) ?_
 refine st (v:=.agg #[.int .u64 ((e18.View.ID.N:Nat):Int),.int .i64 e18.View.ID.P,.int .u16 ((e18.View.Set:Nat):Int)]) (ld47 (cs:=[.int .u64 ((e18.View.ID.N:Nat):Int),.int .i64 e18.View.ID.P,.int .u16 ((e18.View.Set:Nat):Int)]) (.tmp rfl rfl) (hs43.at_ 0 rfl (0) rfl) rfl) ?_
 refine g_yes (yl (dj:=67) (b:=false) rfl rfl (cVb (by rw [hc105]; rfl))) ?_
 refine st (v:=.agg #[.int .u64 ((cv.ID.N:Nat):Int),.int .i64 cv.ID.P,.int .u16 ((cv.Set:Nat):Int)]) (ld47 (cs:=[.int .u64 ((cv.ID.N:Nat):Int),.int .i64 cv.ID.P,.int .u16 ((cv.Set:Nat):Int)]) (.tmp rfl hρ12) (hs43.at_ 1 rfl (0) rfl) rfl) ?_
 refine g_yes (yl (dj:=67) (b:=false) rfl rfl (cVb (by rw [hc105]; rfl))) ?_
 refine st (v:=.bool (!(((((e18.View.ID.N:Nat):Int) == ((cv.ID.N:Nat):Int)) && ((e18.View.ID.P == cv.ID.P) && true)) && ((((e18.View.Set:Nat):Int) == ((cv.Set:Nat):Int)) && true)))) (x_neqA eqg47 (.tmp rfl rfl) (.tmp rfl rfl) (fun d => eqs47 (d + 97) _ ((e18.View.ID.N:Nat):Int) ((cv.ID.N:Nat):Int) e18.View.ID.P cv.ID.P ((e18.View.Set:Nat):Int) ((cv.Set:Nat):Int))) ?_
 refine st (v:=.bool (!(decide (e18.View = cv)))) (x_pick_f (.tmp rfl (cVb (by rw [hc105]; rfl))) (.tmp rfl (congrArg (fun z => Value.bool (!z)) (GView.beq_dec e18.View cv)))) ?_
 exact jw_end ⟨(cVb (jor_f (by rw [hc105]; rfl))),hρ9,hρ10,((hρ11.trans (cVb hc105)).trans (cVb (hc105).symm)),hρ12,hρ13,rfl,hρ15,hs43⟩
 refine g_no (yl (dj:=67) (b:=true) rfl rfl (cVb (by rw [hc105]; rfl))) rfl ?_
 refine g_no (yl (dj:=67) (b:=true) rfl rfl (cVb (by rw [hc105]; rfl))) rfl ?_
 refine g_no (yl (dj:=67) (b:=true) rfl rfl (cVb (by rw [hc105]; rfl))) rfl ?_
 refine st (v:=.bool true) (x_pick_t (.tmp rfl (cVb (by rw [hc105]; rfl))) .const) ?_
 exact jw_end ⟨(cVb (jor_t (by rw [hc105]; rfl))),hρ9,hρ10,((hρ11.trans (cVb hc105)).trans (cVb (hc105).symm)),hρ12,hρ13,rfl,hρ15,hs43⟩
 rintro ρ w ⟨hρ106,hρ107,hρ108,hρ109,hρ110,hρ111,hρ112,hρ113,hs114⟩
 refine st (v:=.bool ((!on) || (!(decide (e18.View = cv))))) (x_move (.tmp rfl hρ106)) ?_
 refine jw 4 (fun ρ w => ρ 76 = .bool (((!on) || (!(decide (e18.View = cv)))) || (decide ((((rc:Nat):Int):Int) < (((sf + 1):Nat):Int))))∧ρ 0 = .int .i64 node∧ρ 1 = .slice A_l n_l c_l∧ρ 5 = .bool on∧ρ 6 = .pointer (some ⟨g1,0,none⟩)∧ρ 7 = .int .i64 ((rc:Nat):Int)∧ρ 8 = .int .i64 (((sf + 1):Nat):Int)∧ρ 9 = .int .i64 ((i:Nat):Int)∧St H w (obj g37 47 [.int .u64 ((e18.View.ID.N:Nat):Int),.int .i64 e18.View.ID.P,.int .u16 ((e18.View.Set:Nat):Int)]::obj g1 47 [.int .u64 ((cv.ID.N:Nat):Int),.int .i64 cv.ID.P,.int .u16 ((cv.Set:Nat):Int)]::L)) ?_ ?_
 rcases Bool.eq_false_or_eq_true ((!on) || (!(decide (e18.View = cv)))) with hc115 | hc115
 have hp115:(¬ (on = true)) ∨ (¬ (e18.View = cv)):=((J_or (J_not Iff.rfl) (J_not decide_eq_true_iff))).1 hc115
 refine g_no (yk 72 true rfl rfl hc115) rfl ?_
 refine g_no (yk 72 true rfl rfl hc115) rfl ?_
 refine g_no (yk 72 true rfl rfl hc115) rfl ?_
 refine st (v:=.bool true) (x_pick_t (.tmp rfl (cVb hc115)) .const) ?_
 exact jw_end ⟨(cVb (jor_t hc115)),hρ107,hρ108,hρ109,hρ110,hρ111,hρ112,hρ113,hs114⟩
 have hp115:¬ ((¬ (on = true)) ∨ (¬ (e18.View = cv))):=J_no (J_or (J_not Iff.rfl) (J_not decide_eq_true_iff)) hc115
 refine g_yes (yk 72 false rfl rfl hc115) ?_
 refine st (v:=.int .i64 (((sf + 1):Nat):Int)) (x_move (.tmp rfl hρ112)) ?_
 refine g_yes (yk 72 false rfl rfl hc115) ?_
 refine st (v:=.int .i64 ((rc:Nat):Int)) (x_move (.tmp rfl hρ111)) ?_
 refine g_yes (yk 72 false rfl rfl hc115) ?_
 refine st (v:=.bool (decide ((((rc:Nat):Int):Int) < (((sf + 1):Nat):Int)))) (x_gtr (k:=.i64) (a:=(((sf + 1):Nat):Int)) (b:=((rc:Nat):Int)) (.tmp rfl rfl) (.tmp rfl rfl)) ?_
 refine st (v:=.bool (decide ((((rc:Nat):Int):Int) < (((sf + 1):Nat):Int)))) (x_pick_f (.tmp rfl (cVb hc115)) (.tmp rfl rfl)) ?_
 exact jw_end ⟨(cVb (jor_f hc115)),hρ107,hρ108,hρ109,hρ110,hρ111,hρ112,hρ113,hs114⟩
 rintro ρ w ⟨hρ116,hρ117,hρ118,hρ119,hρ120,hρ121,hρ122,hρ123,hs124⟩
 refine c_nil (n_then ?_)
 rcases Bool.eq_false_or_eq_true (((!on) || (!(decide (e18.View = cv)))) || (decide ((((rc:Nat):Int):Int) < (((sf + 1):Nat):Int)))) with hc125 | hc125
 have hp125:((¬ (on = true)) ∨ (¬ (e18.View = cv))) ∨ ((((rc:Nat):Int):Int) < (((sf + 1):Nat):Int)):=((J_or (J_or (J_not Iff.rfl) (J_not decide_eq_true_iff)) decide_eq_true_iff)).1 hc125
 refine c_cond_t (t:=true) (.tmp rfl (hρ116.trans (cVb hc125))) rfl ?_
 refine c_seq (c_region (st (v:=.bool false) (x_assign .const) ?_))
 refine c_nil (n_then (c_ret (r_block (r_then (r_then (r_block (r_then (leave_ret (res_one (v:=.bool false) rfl (.mk rfl rfl)) ?_))))))))
 have hans126:aloneT node l = false:=alone_no1 (aRun_step hx22 hst (aS_bad (r:=rc) (f:=(sf + 1)) (by omega) (by rw [if_neg (by omega)]) (by rw [if_pos (by omega)]) (by have h9:=hc125; simp at h9; rcases h9 with h9 | h9; exact .inl h9; exact .inr (by omega))))
 rw [hans126]
 exact ⟨H,(Hp.le.refl _),rfl,hs124.drop.drop⟩
 have hp125:¬ (((¬ (on = true)) ∨ (¬ (e18.View = cv))) ∨ ((((rc:Nat):Int):Int) < (((sf + 1):Nat):Int))):=J_no (J_or (J_or (J_not Iff.rfl) (J_not decide_eq_true_iff)) decide_eq_true_iff) hc125
 refine c_cond_f (t:=false) (.tmp rfl (hρ116.trans (cVb hc125))) rfl ?_
 refine c_skip (n_block (n_then (c_region (st (v:=.int .i64 ((i:Nat):Int)) (x_move (.tmp rfl hρ123)) ?_))))
 refine st (v:=.int .i64 (((i + 1):Nat):Int)) (x_add (k:=.i64) (a:=((i:Nat):Int)) (b:=1) (.tmp rfl rfl) .const ((w64 (by omega) (by omega)).trans (by omega))) ?_
 refine st (v:=.int .i64 (((i + 1):Nat):Int)) (x_assign (.tmp rfl rfl)) ?_
 refine c_nil ?_
 refine n_then ⟨_,_,rfl,?_,(i + 1),on,rc,(sf + 1),cv,hρ117,hρ118,hρ119,hρ120,hρ121,hρ122,rfl,(by omega),(aRun_step hx22 hst (aS_ok (r:=rc) (f:=(sf + 1)) (by omega) (by rw [if_neg (by omega)]) (by rw [if_pos (by omega)]) (by have h9:=hc125; simp at h9; exact ⟨h9.1,by have h8:=h9.2; omega⟩))),bcv,icv,scv,(by omega),(by omega),hs124.drop,rfl⟩
 omega
 have hp104:¬ ((((e18.Kind:Nat):Int):Int) = 4):=of_decide_eq_false hc104
 refine c_cond_f (t:=false) (.tmp rfl (cVb hc104)) rfl ?_
 refine c_seq (c_region (st (v:=.bool (decide ((((e18.Kind:Nat):Int):Int) = 2))) (x_eql (k:=.u8) (a:=((e18.Kind:Nat):Int)) (b:=2) (.tmp rfl rfl) .const) ?_))
 refine st (v:=.bool (decide ((((e18.Kind:Nat):Int):Int) = 2))) (x_assign (.tmp rfl rfl)) ?_
 refine c_nil (n_then ?_)
 rcases Bool.eq_false_or_eq_true (decide ((((e18.Kind:Nat):Int):Int) = 2)) with hc127 | hc127
 have hp127:(((e18.Kind:Nat):Int):Int) = 2:=of_decide_eq_true hc127
 refine c_cond_t (t:=true) (.tmp rfl (cVb hc127)) rfl ?_
 refine c_skip (n_block (n_then (c_seq (c_region (st (v:=.bool on) (x_move (.tmp rfl hρ11)) ?_)))))
 refine st (v:=.bool (!on)) (x_not (.tmp rfl rfl)) ?_
 refine st (v:=.bool (!on)) (x_move (.tmp rfl rfl)) ?_
 refine jw 4 (fun ρ w => ρ 71 = .bool ((!on) || (!(decide (e18.View = cv))))∧ρ 0 = .int .i64 node∧ρ 1 = .slice A_l n_l c_l∧ρ 5 = .bool on∧ρ 6 = .pointer (some ⟨g1,0,none⟩)∧ρ 7 = .int .i64 ((rc:Nat):Int)∧ρ 8 = .int .i64 ((sf:Nat):Int)∧ρ 9 = .int .i64 ((i:Nat):Int)∧St H w (obj g37 47 [.int .u64 ((e18.View.ID.N:Nat):Int),.int .i64 e18.View.ID.P,.int .u16 ((e18.View.Set:Nat):Int)]::obj g1 47 [.int .u64 ((cv.ID.N:Nat):Int),.int .i64 cv.ID.P,.int .u16 ((cv.Set:Nat):Int)]::L)) ?_ ?_
 rcases Bool.eq_false_or_eq_true on with hc128 | hc128
 refine g_yes (yl (dj:=67) (b:=false) rfl rfl (cVb (by rw [hc128]; rfl))) ?_
 refine st (v:=.agg #[.int .u64 ((e18.View.ID.N:Nat):Int),.int .i64 e18.View.ID.P,.int .u16 ((e18.View.Set:Nat):Int)]) (ld47 (cs:=[.int .u64 ((e18.View.ID.N:Nat):Int),.int .i64 e18.View.ID.P,.int .u16 ((e18.View.Set:Nat):Int)]) (.tmp rfl rfl) (hs43.at_ 0 rfl (0) rfl) rfl) ?_
 refine g_yes (yl (dj:=67) (b:=false) rfl rfl (cVb (by rw [hc128]; rfl))) ?_
 refine st (v:=.agg #[.int .u64 ((cv.ID.N:Nat):Int),.int .i64 cv.ID.P,.int .u16 ((cv.Set:Nat):Int)]) (ld47 (cs:=[.int .u64 ((cv.ID.N:Nat):Int),.int .i64 cv.ID.P,.int .u16 ((cv.Set:Nat):Int)]) (.tmp rfl hρ12) (hs43.at_ 1 rfl (0) rfl) rfl) ?_
 refine g_yes (yl (dj:=67) (b:=false) rfl rfl (cVb (by rw [hc128]; rfl))) ?_
 refine st (v:=.bool (!(((((e18.View.ID.N:Nat):Int) == ((cv.ID.N:Nat):Int)) && ((e18.View.ID.P == cv.ID.P) && true)) && ((((e18.View.Set:Nat):Int) == ((cv.Set:Nat):Int)) && true)))) (x_neqA eqg47 (.tmp rfl rfl) (.tmp rfl rfl) (fun d => eqs47 (d + 97) _ ((e18.View.ID.N:Nat):Int) ((cv.ID.N:Nat):Int) e18.View.ID.P cv.ID.P ((e18.View.Set:Nat):Int) ((cv.Set:Nat):Int))) ?_
 refine st (v:=.bool (!(decide (e18.View = cv)))) (x_pick_f (.tmp rfl (cVb (by rw [hc128]; rfl))) (.tmp rfl (congrArg (fun z => Value.bool (!z)) (GView.beq_dec e18.View cv)))) ?_
 exact jw_end ⟨(cVb (jor_f (by rw [hc128]; rfl))),hρ9,hρ10,((hρ11.trans (cVb hc128)).trans (cVb (hc128).symm)),hρ12,hρ13,hρ14,hρ15,hs43⟩
 refine g_no (yl (dj:=67) (b:=true) rfl rfl (cVb (by rw [hc128]; rfl))) rfl ?_
 refine g_no (yl (dj:=67) (b:=true) rfl rfl (cVb (by rw [hc128]; rfl))) rfl ?_
 refine g_no (yl (dj:=67) (b:=true) rfl rfl (cVb (by rw [hc128]; rfl))) rfl ?_
 refine st (v:=.bool true) (x_pick_t (.tmp rfl (cVb (by rw [hc128]; rfl))) .const) ?_
 exact jw_end ⟨(cVb (jor_t (by rw [hc128]; rfl))),hρ9,hρ10,((hρ11.trans (cVb hc128)).trans (cVb (hc128).symm)),hρ12,hρ13,hρ14,hρ15,hs43⟩
 rintro ρ w ⟨hρ129,hρ130,hρ131,hρ132,hρ133,hρ134,hρ135,hρ136,hs137⟩
 refine st (v:=.bool ((!on) || (!(decide (e18.View = cv))))) (x_move (.tmp rfl hρ129)) ?_
 refine jw 4 (fun ρ w => ρ 76 = .bool (((!on) || (!(decide (e18.View = cv)))) || (decide ((((rc:Nat):Int):Int) < ((sf:Nat):Int))))∧ρ 0 = .int .i64 node∧ρ 1 = .slice A_l n_l c_l∧ρ 5 = .bool on∧ρ 6 = .pointer (some ⟨g1,0,none⟩)∧ρ 7 = .int .i64 ((rc:Nat):Int)∧ρ 8 = .int .i64 ((sf:Nat):Int)∧ρ 9 = .int .i64 ((i:Nat):Int)∧St H w (obj g37 47 [.int .u64 ((e18.View.ID.N:Nat):Int),.int .i64 e18.View.ID.P,.int .u16 ((e18.View.Set:Nat):Int)]::obj g1 47 [.int .u64 ((cv.ID.N:Nat):Int),.int .i64 cv.ID.P,.int .u16 ((cv.Set:Nat):Int)]::L)) ?_ ?_
 rcases Bool.eq_false_or_eq_true ((!on) || (!(decide (e18.View = cv)))) with hc138 | hc138
 have hp138:(¬ (on = true)) ∨ (¬ (e18.View = cv)):=((J_or (J_not Iff.rfl) (J_not decide_eq_true_iff))).1 hc138
 refine g_no (yk 72 true rfl rfl hc138) rfl ?_
 refine g_no (yk 72 true rfl rfl hc138) rfl ?_
 refine g_no (yk 72 true rfl rfl hc138) rfl ?_
 refine st (v:=.bool true) (x_pick_t (.tmp rfl (cVb hc138)) .const) ?_
 exact jw_end ⟨(cVb (jor_t hc138)),hρ130,hρ131,hρ132,hρ133,hρ134,hρ135,hρ136,hs137⟩
 have hp138:¬ ((¬ (on = true)) ∨ (¬ (e18.View = cv))):=J_no (J_or (J_not Iff.rfl) (J_not decide_eq_true_iff)) hc138
 refine g_yes (yk 72 false rfl rfl hc138) ?_
 refine st (v:=.int .i64 ((sf:Nat):Int)) (x_move (.tmp rfl hρ135)) ?_
 refine g_yes (yk 72 false rfl rfl hc138) ?_
 refine st (v:=.int .i64 ((rc:Nat):Int)) (x_move (.tmp rfl hρ134)) ?_
 refine g_yes (yk 72 false rfl rfl hc138) ?_
 refine st (v:=.bool (decide ((((rc:Nat):Int):Int) < ((sf:Nat):Int)))) (x_gtr (k:=.i64) (a:=((sf:Nat):Int)) (b:=((rc:Nat):Int)) (.tmp rfl rfl) (.tmp rfl rfl)) ?_
 refine st (v:=.bool (decide ((((rc:Nat):Int):Int) < ((sf:Nat):Int)))) (x_pick_f (.tmp rfl (cVb hc138)) (.tmp rfl rfl)) ?_
 exact jw_end ⟨(cVb (jor_f hc138)),hρ130,hρ131,hρ132,hρ133,hρ134,hρ135,hρ136,hs137⟩
 rintro ρ w ⟨hρ139,hρ140,hρ141,hρ142,hρ143,hρ144,hρ145,hρ146,hs147⟩
 refine c_nil (n_then ?_)
 rcases Bool.eq_false_or_eq_true (((!on) || (!(decide (e18.View = cv)))) || (decide ((((rc:Nat):Int):Int) < ((sf:Nat):Int)))) with hc148 | hc148
 have hp148:((¬ (on = true)) ∨ (¬ (e18.View = cv))) ∨ ((((rc:Nat):Int):Int) < ((sf:Nat):Int)):=((J_or (J_or (J_not Iff.rfl) (J_not decide_eq_true_iff)) decide_eq_true_iff)).1 hc148
 refine c_cond_t (t:=true) (.tmp rfl (hρ139.trans (cVb hc148))) rfl ?_
 refine c_seq (c_region (st (v:=.bool false) (x_assign .const) ?_))
 refine c_nil (n_then (c_ret (r_block (r_then (r_then (r_block (r_then (leave_ret (res_one (v:=.bool false) rfl (.mk rfl rfl)) ?_))))))))
 have hans149:aloneT node l = false:=alone_no1 (aRun_step hx22 hst (aS_bad (r:=rc) (f:=sf) (by omega) (by rw [if_neg (by omega)]) (by rw [if_neg (by omega)]) (by have h9:=hc148; simp at h9; rcases h9 with h9 | h9; exact .inl h9; exact .inr (by omega))))
 rw [hans149]
 exact ⟨H,(Hp.le.refl _),rfl,hs147.drop.drop⟩
 have hp148:¬ (((¬ (on = true)) ∨ (¬ (e18.View = cv))) ∨ ((((rc:Nat):Int):Int) < ((sf:Nat):Int))):=J_no (J_or (J_or (J_not Iff.rfl) (J_not decide_eq_true_iff)) decide_eq_true_iff) hc148
 refine c_cond_f (t:=false) (.tmp rfl (hρ139.trans (cVb hc148))) rfl ?_
 refine c_skip (n_block (n_then (c_region (st (v:=.int .i64 ((i:Nat):Int)) (x_move (.tmp rfl hρ146)) ?_))))
 refine st (v:=.int .i64 (((i + 1):Nat):Int)) (x_add (k:=.i64) (a:=((i:Nat):Int)) (b:=1) (.tmp rfl rfl) .const ((w64 (by omega) (by omega)).trans (by omega))) ?_
 refine st (v:=.int .i64 (((i + 1):Nat):Int)) (x_assign (.tmp rfl rfl)) ?_
 refine c_nil ?_
 refine n_then ⟨_,_,rfl,?_,(i + 1),on,rc,sf,cv,hρ140,hρ141,hρ142,hρ143,hρ144,hρ145,rfl,(by omega),(aRun_step hx22 hst (aS_ok (r:=rc) (f:=sf) (by omega) (by rw [if_neg (by omega)]) (by rw [if_neg (by omega)]) (by have h9:=hc148; simp at h9; exact ⟨h9.1,by have h8:=h9.2; omega⟩))),bcv,icv,scv,(by omega),(by omega),hs147.drop,rfl⟩
 omega
 have hp127:¬ ((((e18.Kind:Nat):Int):Int) = 2):=of_decide_eq_false hc127
 refine c_cond_f (t:=false) (.tmp rfl (cVb hc127)) rfl ?_
 refine c_seq (c_region (st (v:=.bool false) (x_assign .const) ?_))
 refine c_nil (n_then (c_ret (r_block (r_then (r_block (r_then (r_then (r_block (r_then (leave_ret (res_one (v:=.bool false) rfl (.mk rfl rfl)) ?_))))))))))
 have hans150:aloneT node l = false:=alone_no1 (aRun_step hx22 hst (aS_none (by omega) (by omega) (by omega) (by omega)))
 rw [hans150]
 exact ⟨H,(Hp.le.refl _),rfl,hs43.drop.drop⟩
 have hp17:¬ ((((i:Nat):Int):Int) < ((n_l:Nat):Int)):=of_decide_eq_false hc17
 refine c_cond_f (t:=false) (.tmp rfl (cVb hc17)) rfl ?_
 refine c_exit (x_then (x_then (x_here (n_then (c_seq (c_region (st (v:=.slice A_l n_l c_l) (x_move (.tmp rfl hρ10)) ?_)))))))
 refine st_c cb36 .func (evs1 (.tmp rfl rfl)) (views14_spec hs16 l h_l ) ?_
 rintro e w151 ⟨H153,A155,n156,c157,hle154,rfl,sp158,hs152⟩
 have:=sp158.len; have:=sp158.le; have:n156 * 24 ≤ 140737488351232:=sp158.bnd
 refine ⟨_,rfl,?_⟩
 refine st (v:=.slice A155 n156 c157) (x_assign (.tmp rfl rfl)) ?_
 refine c_nil (n_then (c_seq (c_seq (c_region (st (v:=.int .i64 0) (x_assign .const) ?_)))))
 refine c_nil (n_then (c_block (c_loop (fun ρ w mm => ∃ (H159:Hp) (k:Nat),ρ 0 = .int .i64 node∧ρ 1 = .slice A_l n_l c_l∧ρ 11 = .slice A155 n156 c157∧ρ 12 = .int .i64 ((k:Nat):Int)∧(H153.le H159)∧(k ≤ (viewsT l).length)∧(∀ j w,j < k → (viewsT l)[j]? = some w → beginsT (itemsT l node 4 w.ID) (itemsT l node 3 w.ID) = true)∧St H159 w (L)∧mm = (viewsT l).length - k) _ ⟨H153,0,hρ9,hρ10,rfl,rfl,(Hp.le.refl _),(by omega),(fun j w h => absurd h (Nat.not_lt_zero _)),hs152.drop,rfl⟩ ?_)))
 rintro ρ w mm ⟨H159,k,hρ161,hρ162,hρ163,hρ164,hg160,hk,hb,hs165,rfl⟩
 refine c_seq (c_seq (c_region (st (v:=.int .i64 ((k:Nat):Int)) (x_move (.tmp rfl hρ164)) ?_)))
 refine st (v:=.slice A155 n156 c157) (x_move (.tmp rfl hρ163)) ?_
 refine st (v:=.int .i64 ((n156:Nat):Int)) (x_len (n:=n156) Tryd.underlying79 (.tmp rfl rfl)) ?_
 refine st (v:=.bool (decide ((((k:Nat):Int):Int) < ((n156:Nat):Int)))) (x_lss (k:=.i64) (a:=((k:Nat):Int)) (b:=((n156:Nat):Int)) (.tmp rfl rfl) (.tmp rfl rfl)) ?_
 refine c_nil (n_then ?_)
 rcases Bool.eq_false_or_eq_true (decide ((((k:Nat):Int):Int) < ((n156:Nat):Int))) with hc166 | hc166
 have hp166:(((k:Nat):Int):Int) < ((n156:Nat):Int):=of_decide_eq_true hc166
 refine c_cond_t (t:=true) (.tmp rfl (cVb hc166)) rfl ?_
 refine c_skip (n_then (c_seq (c_block (c_seq (t_region (L:=L) (L':=L) (Z:=[15,16]) (F:=[2,3,10,11]) (pl:=(.q 0 (.q 1 (.q 2 (.q 3 (.q 4 (.q 5 (.q 6 (.q 8 (.q 9 (.q 10 (.q 11 (.q 12 (.q 13 (.q 14 (.e 7 (.e 15 (.e 16 (.q 17 .done))))))))))))))))))) mixed hs165 (fun u hu => hu) (by kernel_rfl) ?_)))))
 intro w167 hs168
 refine t_st (k:=0) (v:=.slice A_l n_l c_l) rfl rfl (fun w hs => (x_move (.tmp rfl hρ162))) ?_
 refine t_st (k:=1) (v:=.int .i64 node) rfl rfl (fun w hs => (x_move (.tmp rfl hρ161))) ?_
 refine t_fr (k:=2) (v:=.slice A155 n156 c157) rfl (fun w _ => (x_move (.tmp rfl hρ163))) ?_
 refine t_fr (k:=3) (v:=.int .i64 ((k:Nat):Int)) rfl (fun w _ => (x_move (.tmp rfl hρ164))) ?_
 obtain ⟨e169,b170,o171,cs172,hx173,hA174,hr175,hat176⟩:=(sp158.mono hg160).get (i:=k) (by omega)
 obtain ⟨rfl,b177,⟨b178,b179⟩,b180⟩:=hr175
 have hat176x:∀ {w:World} {L:List Res},St H159 w L → At w ⟨b170,o171 + k * 3,none⟩ [.int .u64 ((e169.ID.N:Nat):Int),.int .i64 e169.ID.P,.int .u16 ((e169.Set:Nat):Int)]:=fun h => hat176 h
 refine t_st (k:=4) (v:=.pointer (some ⟨b170,(o171 + k * 3),none⟩)) rfl rfl (fun w hs => (ixo79 (.tmp rfl rfl) hA174 (i:=((k:Nat):Int)) (.tmp rfl rfl) (by omega) (by omega) (by omega))) ?_
 refine t_st (k:=5) (v:=.pointer (some ⟨b170,(o171 + k * 3) + 0,none⟩)) rfl rfl (fun w hs => (fa47_0 (.tmp rfl rfl))) ?_
 refine t_st (k:=6) (v:=.agg #[.int .u64 ((e169.ID.N:Nat):Int),.int .i64 e169.ID.P]) rfl rfl (fun w hs => (ld44 (cs:=[.int .u64 ((e169.ID.N:Nat):Int),.int .i64 e169.ID.P]) (.tmp rfl rfl) ((hat176x hs).sub 0 rfl) rfl)) ?_
 refine t_st (k:=8) (v:=.slice A_l n_l c_l) rfl rfl (fun w hs => (x_move (.tmp rfl hρ162))) ?_
 refine t_st (k:=9) (v:=.int .i64 node) rfl rfl (fun w hs => (x_move (.tmp rfl hρ161))) ?_
 refine t_fr (k:=10) (v:=.slice A155 n156 c157) rfl (fun w _ => (x_move (.tmp rfl hρ163))) ?_
 refine t_fr (k:=11) (v:=.int .i64 ((k:Nat):Int)) rfl (fun w _ => (x_move (.tmp rfl hρ164))) ?_
 refine t_st (k:=12) (v:=.pointer (some ⟨b170,(o171 + k * 3),none⟩)) rfl rfl (fun w hs => (ixo79 (.tmp rfl rfl) hA174 (i:=((k:Nat):Int)) (.tmp rfl rfl) (by omega) (by omega) (by omega))) ?_
 refine t_st (k:=13) (v:=.pointer (some ⟨b170,(o171 + k * 3) + 0,none⟩)) rfl rfl (fun w hs => (fa47_0 (.tmp rfl rfl))) ?_
 refine t_st (k:=14) (v:=.agg #[.int .u64 ((e169.ID.N:Nat):Int),.int .i64 e169.ID.P]) rfl rfl (fun w hs => (ld44 (cs:=[.int .u64 ((e169.ID.N:Nat):Int),.int .i64 e169.ID.P]) (.tmp rfl rfl) ((hat176x hs).sub 0 rfl) rfl)) ?_
 refine t_eff (k:=7) rfl ?_
 have hr181:kViewID.rep H159 e169.ID [.int .u64 ((e169.ID.N:Nat):Int),.int .i64 e169.ID.P]:=⟨rfl,b177,⟨b178,b179⟩⟩
 refine st_c cb43 .func (evs4 (.tmp rfl rfl) (.tmp rfl rfl) .const (.tmp rfl rfl)) (items14_spec hs168 l ((h_l.mono hle154).mono hg160) node ⟨b_node1,b_node2⟩ 4 (by decide) e169.ID hr181 ) ?_
 rintro e w182 ⟨H184,A186,n187,c188,hle185,rfl,sp189,hs183⟩
 have:=sp189.len; have:=sp189.le; have:n187 * 32 ≤ 140737488351232:=sp189.bnd
 refine ⟨_,rfl,?_⟩
 refine t_on (S':=fun u => St H184 u (L)) (fun u hu => hu.weaken hle185) hs183 ?_
 refine t_eff (k:=15) rfl ?_
 have hr190:kViewID.rep H184 e169.ID [.int .u64 ((e169.ID.N:Nat):Int),.int .i64 e169.ID.P]:=⟨rfl,b177,⟨b178,b179⟩⟩
 refine st_c cb43 .func (evs4 (.tmp rfl rfl) (.tmp rfl rfl) .const (.tmp rfl rfl)) (items14_spec hs183 l (((h_l.mono hle154).mono hg160).mono hle185) node ⟨b_node1,b_node2⟩ 3 (by decide) e169.ID hr190 ) ?_
 rintro e w191 ⟨H193,A195,n196,c197,hle194,rfl,sp198,hs192⟩
 have:=sp198.len; have:=sp198.le; have:n196 * 32 ≤ 140737488351232:=sp198.bnd
 refine ⟨_,rfl,?_⟩
 refine t_new (S':=fun u => St H193 u (L)) rfl hs192 ?_
 refine t_eff (k:=16) rfl ?_
 refine st_c cb42 .func (evs2 (.tmp rfl rfl) (.tmp rfl rfl)) (begins14_spec hs192 (itemsT l node 4 e169.ID) (sp189.mono hle194) (itemsT l node 3 e169.ID) sp198 ) ?_
 rintro e w199 ⟨rfl,hs200⟩
 refine ⟨_,rfl,?_⟩
 refine t_new (S':=fun u => St H193 u (L)) rfl hs200 ?_
 refine t_st (k:=17) (v:=.bool (!(beginsT (itemsT l node 4 e169.ID) (itemsT l node 3 e169.ID)))) rfl rfl (fun w hs => (x_not (.tmp rfl rfl))) ?_
 refine t_nil ?_
 refine n_then ?_
 rcases Bool.eq_false_or_eq_true (beginsT (itemsT l node 4 e169.ID) (itemsT l node 3 e169.ID)) with hc201 | hc201
 refine c_cond_f (t:=false) (.tmp rfl (cVb (by rw [hc201]; rfl))) rfl ?_
 refine c_skip (n_block (n_then (c_region (st (v:=.int .i64 ((k:Nat):Int)) (x_move (.tmp rfl hρ164)) ?_))))
 refine st (v:=.int .i64 (((k + 1):Nat):Int)) (x_add (k:=.i64) (a:=((k:Nat):Int)) (b:=1) (.tmp rfl rfl) .const ((w64 (by omega) (by omega)).trans (by omega))) ?_
 refine st (v:=.int .i64 (((k + 1):Nat):Int)) (x_assign (.tmp rfl rfl)) ?_
 refine c_nil ?_
 refine n_then ⟨_,_,rfl,?_,H193,(k + 1),hρ161,hρ162,hρ163,rfl,((hg160.trans hle185).trans hle194),(by omega),(all_next (p:=fun _ w => beginsT (itemsT l node 4 w.ID) (itemsT l node 3 w.ID) = true) hb hx173 (by simpa using hc201)),hs200,rfl⟩
 omega
 refine c_cond_t (t:=true) (.tmp rfl (cVb (by rw [hc201]; rfl))) rfl ?_
 refine c_seq (c_region (st (v:=.bool false) (x_assign .const) ?_))
 refine c_nil (n_then (c_ret (r_block (r_then (r_then (r_block (r_then (leave_ret (res_one (v:=.bool false) rfl (.mk rfl rfl)) ?_))))))))
 have hans202:aloneT node l = false:=alone_no2 hx173 (by simpa using hc201)
 rw [hans202]
 exact ⟨H193,(((hle154.trans hg160).trans hle185).trans hle194),rfl,hs200⟩
 have hp166:¬ ((((k:Nat):Int):Int) < ((n156:Nat):Int)):=of_decide_eq_false hc166
 refine c_cond_f (t:=false) (.tmp rfl (cVb hc166)) rfl ?_
 refine c_exit (x_then (x_then (x_here (n_then (c_seq (c_region (st (v:=.bool true) (x_assign .const) ?_)))))))
 refine c_nil (n_then (c_ret (leave_ret (res_one (v:=.bool true) rfl (.mk rfl rfl)) ?_)))
 have hans203:aloneT node l = true:=alone_yes hst (by omega) (fun j w hj hw => hb j w (by omega) hw)
 rw [hans203]
 exact ⟨H159,(hle154.trans hg160),rfl,hs165⟩
end Go.Proofs.YtnikcgcbkdeeeaaDoor
