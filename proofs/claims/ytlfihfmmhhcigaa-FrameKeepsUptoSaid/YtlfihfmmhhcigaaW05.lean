/- Steps of the proofs over the functions of this seat, printed by a program (gen.py) and checked by Lean. -/
import Derived.Test.YtlfihfmmhhcigaaW02
import Derived.Test.YtlfihfmmhhcigaaW00
import Derived.Test.YtlfihfmmhhcigaaW01
import Derived.Test.YtlfihfmmhhcigaaW04
set_option linter.unusedVariables false
set_option linter.unusedSimpArgs false
namespace Go.Proofs.Ytlfihfmmhhcigaa
open Go Go.FM Go.Proofs
attribute [local irreducible] wpList wpQuiet wpS Code.wp Calls
set_option maxHeartbeats 8000000 in
theorem witems_spec {H:Hp} {w:World} {L:List Res} {g_q:Nat} {v_q:Value} {q:List Nat} {b_q:Bool} (hs:St H w (obj g_q 58 [v_q,.bool b_q]::row 5 1 v_q q.length (q.map encB)::L)) (sm_q:Small q) (ok_q:RowOk 1 v_q q.length (q.map encB)) {A_l:Option Addr} {n_l c_l:Nat} (l:(List GItem)) (h_l:Sl kItem H A_l n_l c_l l) (hroom:q.length + (itemsE l).length ≤ 140737488350000):Calls Try.prog 27 #[.pointer (some ⟨g_q,0,none⟩),.slice A_l n_l c_l] w (fun e w' => ∃ (v_q':Value) (q':List Nat) (b_q':Bool),e = .returned (.tuple #[])∧Small q'∧RowOk 1 v_q' q'.length (q'.map encB)∧b_q' = (b_q || !okItems l)∧(b_q' = false → q' = q ++ itemsE l)∧q'.length ≤ q.length + (itemsE l).length∧St H w' (obj g_q 58 [v_q',.bool b_q']::row 5 1 v_q' q'.length (q'.map encB)::L)):=by
 have:=h_l.len; have:=h_l.le; have:n_l * 32 ≤ 140737488351232:=h_l.bnd
 refine enter (args:=[.pointer (some ⟨g_q,0,none⟩),.slice A_l n_l c_l]) (N:=62) Try.func27 rfl rfl rfl ?_
 refine c_seq (c_region (st (v:=.pointer (some ⟨g_q,0,none⟩)) (x_move (.tmp rfl rfl)) ?_))
 refine st (v:=.pointer (some ⟨g_q,0,none⟩)) (x_move (.tmp rfl rfl)) ?_
 refine st (v:=.pointer (some ⟨g_q,0,none⟩)) (x_nilCheck (.tmp rfl rfl)) ?_
 refine st (v:=.pointer (some ⟨g_q,0 + 1,none⟩)) (fa58_1 (.tmp rfl rfl)) ?_
 refine st (v:=.bool b_q) (ld4 (.tmp rfl rfl) (hs.cell 0 rfl (0 + 1) rfl)) ?_
 refine st (v:=.bool b_q) (x_move (.tmp rfl rfl)) ?_
 rcases Bool.eq_false_or_eq_true b_q with hc1 | hc1
 refine g_no (yk 11 true rfl rfl hc1) rfl ?_
 refine g_no (yk 11 true rfl rfl hc1) rfl ?_
 refine g_no (yk 11 true rfl rfl hc1) rfl ?_
 refine st (v:=.bool true) (x_pick_t (.tmp rfl (cVb hc1)) .const) ?_
 refine st (v:=.pointer (some ⟨g_q,0,none⟩)) (x_nilCheck (.tmp rfl rfl)) ?_
 refine st (v:=.pointer (some ⟨g_q,0 + 1,none⟩)) (fa58_1 (.tmp rfl rfl)) ?_
 refine st_m0 (sto4 (cs':=[v_q,.bool true]) (i:=0 + 1) hs (v:=.bool true) (.tmp rfl rfl) (.tmp rfl rfl) rfl (Nat.le_of_ble_eq_true rfl) one1 rfl) ?_
 rintro w2 hs4
 refine c_nil (n_then (c_seq (c_region ?_)))
 have hit:=itemsE_len l; have hln:l.length = n_l:=h_l.len; rw [hln] at hit
 refine st (v:=.pointer (some ⟨g_q,0,none⟩)) (x_move (.tmp rfl rfl)) ?_
 refine st (v:=.slice A_l n_l c_l) (x_move (.tmp rfl rfl)) ?_
 refine st (v:=.int .i64 ((n_l:Nat):Int)) (x_len (n:=n_l) Try.underlying28 (.tmp rfl rfl)) ?_
 have hb5:n_l < 18446744073709551616:=by omega
 refine st (v:=.int .u64 ((n_l:Nat):Int)) (x_conv (k:=.i64) (a:=((n_l:Nat):Int)) Try.underlying3 Try.underlying22 (.tmp rfl rfl) (wU rfl rfl hb5)) ?_
 have hs6:=hs4.p1
 have hs7:=hs6.p1
 refine st_c cb24 .func (evs2 (.tmp rfl rfl) (.tmp rfl rfl)) (num_spec hs7 sm_q ok_q n_l hb5 (by first | omega | (rw [List.length_append,List.length_singleton]; omega))) ?_
 rintro e w8 ⟨v10,q11,b12,rfl,sm13,ok14,hb15,hq16,hn17,hs9⟩
 refine ⟨_,rfl,?_⟩
 refine c_nil (n_then (c_seq (c_region (st (v:=.slice A_l n_l c_l) (x_move (.tmp rfl rfl)) ?_))))
 refine st (v:=.int .i64 ((n_l:Nat):Int)) (x_len (n:=n_l) Try.underlying28 (.tmp rfl rfl)) ?_
 refine st (v:=.int .i64 0) (x_move .const) ?_
 refine c_nil (n_then (c_block ?_))
 rw [show n_l = l.length from h_l.len.symm] at hq16 hn17
 refine c_loop (fun ρ w mm => ∃ (i:Nat) (v2:Value) (q2:List Nat) (b2:Bool),ρ 0 = .pointer (some ⟨g_q,0,none⟩)∧ρ 23 = .slice A_l n_l c_l∧ρ 24 = .int .i64 ((n_l:Nat):Int)∧ρ 25 = .int .i64 ((i:Nat):Int)∧(Small q2)∧(RowOk 1 v2 q2.length (q2.map encB))∧(i ≤ n_l)∧(b2 = (b_q || !(decide (l.length ≤ 4096) && (l.take i).all okFrom)))∧(b2 = false → q2 = q ++ (uenc l.length ++ (l.take i).flatMap itemE))∧(q2.length ≤ q.length + (uenc l.length ++ (l.take i).flatMap itemE).length)∧St H w (obj g_q 58 [v2,.bool b2]::row 5 1 v2 q2.length (q2.map encB)::L)∧mm = n_l - i) _ ⟨0,v10,q11,b12,rfl,rfl,rfl,rfl,sm13,ok14,(by omega),(wr_start hb15 (wr0t hc1)),(wr_start2 hq16),(wr_start3 hn17),((hs9.p1).p1),rfl⟩ ?_
 rintro ρ w mm ⟨i,v2,q2,b2,hρ19,hρ20,hρ21,hρ22,sm2,ok2,hi,hb2,hq2,hn2,hs23,rfl⟩
 refine c_seq (c_region (st (v:=.bool (decide ((((i:Nat):Int):Int) < ((n_l:Nat):Int)))) (x_lss (k:=.i64) (a:=((i:Nat):Int)) (b:=((n_l:Nat):Int)) (.tmp rfl hρ22) (.tmp rfl hρ21)) ?_))
 refine c_nil (n_then (c_seq ?_))
 rcases Bool.eq_false_or_eq_true (decide ((((i:Nat):Int):Int) < ((n_l:Nat):Int))) with hc24 | hc24
 have hp24:(((i:Nat):Int):Int) < ((n_l:Nat):Int):=of_decide_eq_true hc24
 refine c_cond_t (t:=true) (.tmp rfl (cVb hc24)) rfl ?_
 refine c_skip (n_then (c_seq (c_block (c_seq (c_region ?_)))))
 obtain ⟨e25,b26,o27,cs28,hx29,hA30,hr31,hat32⟩:=h_l.get (i:=i) (by omega)
 obtain ⟨A35,n36,c37,rfl,⟨b33,b34⟩,hy38⟩:=hr31
 have:=hy38.len; have:=hy38.bnd; have:=hy38.le
 have hat32x:∀ {w:World} {L:List Res},St H w L → At w ⟨b26,o27 + i * 2,none⟩ [.int .i64 e25.From,.slice A35 n36 c37]:=fun h => hat32 h
 refine st (v:=.pointer (some ⟨b26,(o27 + i * 2),none⟩)) (ixo28 (.tmp rfl hρ20) hA30 (i:=((i:Nat):Int)) (.tmp rfl hρ22) (by omega) (by omega) (by omega)) ?_
 refine st (v:=.agg #[.int .i64 e25.From,.slice A35 n36 c37]) (ld49 (cs:=[.int .i64 e25.From,.slice A35 n36 c37]) (.tmp rfl rfl) ((hat32x hs23).sub 0 rfl) rfl) ?_
 refine st_m (al49 (cs:=[.int .i64 0,.slice none 0 0]) hs23 rfl) ?_
 rintro _ w40 ⟨g39,rfl,hs42⟩
 refine st_m0 (sto49 (cs':=[.int .i64 e25.From,.slice A35 n36 c37]) (i:=0) hs42 (v:=.agg #[.int .i64 e25.From,.slice A35 n36 c37]) (.tmp rfl rfl) (.tmp rfl rfl) rfl (Nat.le_of_ble_eq_true rfl) (oneA rfl) rfl) ?_
 rintro w43 hs45
 refine c_nil (n_then (c_seq (c_region (st (v:=.pointer (some ⟨g_q,0,none⟩)) (x_move (.tmp rfl hρ19)) ?_))))
 refine st (v:=.pointer (some ⟨g_q,0,none⟩)) (x_move (.tmp rfl hρ19)) ?_
 refine st (v:=.pointer (some ⟨g_q,0,none⟩)) (x_nilCheck (.tmp rfl rfl)) ?_
 refine st (v:=.pointer (some ⟨g_q,0 + 1,none⟩)) (fa58_1 (.tmp rfl rfl)) ?_
 refine st (v:=.bool b2) (ld4 (.tmp rfl rfl) (hs45.cell 1 rfl (0 + 1) rfl)) ?_
 refine st (v:=.bool b2) (x_move (.tmp rfl rfl)) ?_
 rcases Bool.eq_false_or_eq_true b2 with hc46 | hc46
 refine g_no (yk 34 true rfl rfl hc46) rfl ?_
 refine g_no (yk 34 true rfl rfl hc46) rfl ?_
 refine g_no (yk 34 true rfl rfl hc46) rfl ?_
 refine st (v:=.bool true) (x_pick_t (.tmp rfl (cVb hc46)) .const) ?_
 refine st (v:=.bool true) (x_move (.tmp rfl rfl)) ?_
 refine g_no (yl (dj:=39) (b:=true) rfl rfl rfl) rfl ?_
 refine g_no (yl (dj:=39) (b:=true) rfl rfl rfl) rfl ?_
 refine g_no (yl (dj:=39) (b:=true) rfl rfl rfl) rfl ?_
 refine st (v:=.bool true) (x_pick_t (.tmp rfl rfl) .const) ?_
 refine st (v:=.pointer (some ⟨g_q,0,none⟩)) (x_nilCheck (.tmp rfl rfl)) ?_
 refine st (v:=.pointer (some ⟨g_q,0 + 1,none⟩)) (fa58_1 (.tmp rfl rfl)) ?_
 have hs47:=hs45.p1
 refine st_m0 (sto4 (cs':=[v2,.bool true]) (i:=0 + 1) hs47 (v:=.bool true) (.tmp rfl rfl) (.tmp rfl rfl) rfl (Nat.le_of_ble_eq_true rfl) one1 rfl) ?_
 rintro w48 hs50
 refine c_nil (n_then (t_region (L:=obj g_q 58 [v2,.bool true]::obj g39 49 [.int .i64 e25.From,.slice A35 n36 c37]::row 5 1 v2 q2.length (q2.map encB)::L) (L':=obj g_q 58 [v2,.bool true]::obj g39 49 [.int .i64 e25.From,.slice A35 n36 c37]::L) (Z:=[12,15]) (F:=[0,1,5]) (pl:=(.q 0 (.q 1 (.q 2 (.q 3 (.q 4 (.q 5 (.q 6 (.q 7 (.q 10 (.q 11 (.e 8 (.e 9 (.e 12 (.q 13 (.q 14 (.e 15 .done))))))))))))))))) mixed hs50 (fun u hu => (hu.p2).drop) (by kernel_rfl) ?_))
 intro w51 hs52
 have hfa:=flat_at (g:=itemE) hx29; have hil:=itemE_len e25; have hnl:=hn2; rw [List.length_append] at hnl; have hit:=itemsE_len l; have h10b:1 ≤ (bytesE e25.M).length:=by unfold bytesE; rw [List.length_append]; have:=uenc_pos e25.M.length; omega
 refine t_fr (k:=0) (v:=.pointer (some ⟨g_q,0,none⟩)) rfl (fun w _ => (x_move (.tmp rfl hρ19))) ?_
 refine t_fr (k:=1) (v:=.pointer (some ⟨g_q,0,none⟩)) rfl (fun w _ => (x_move (.tmp rfl hρ19))) ?_
 refine t_st (k:=2) (v:=.pointer (some ⟨g_q,0,none⟩)) rfl rfl (fun w hs => (x_nilCheck (.tmp rfl rfl))) ?_
 refine t_st (k:=3) (v:=.pointer (some ⟨g_q,0 + 0,none⟩)) rfl rfl (fun w hs => (fa58_0 (.tmp rfl rfl))) ?_
 refine t_st (k:=4) (v:=v2) rfl rfl (fun w hs => (ld33 (.tmp rfl rfl) (hs.cell 0 rfl (0 + 0) rfl))) ?_
 refine t_fr (k:=5) (v:=.pointer (some ⟨g39,0 + 0,none⟩)) rfl (fun w _ => (fa49_0 (.tmp rfl rfl))) ?_
 refine t_st (k:=6) (v:=.int .i64 e25.From) rfl rfl (fun w hs => (ld3 (.tmp rfl rfl) (hs.cell 1 rfl (0 + 0) rfl))) ?_
 refine t_st (k:=7) (v:=.int .u8 (((e25.From % 256).toNat:Nat):Int)) rfl rfl (fun w hs => (x_conv (k:=.i64) (a:=e25.From) Try.underlying3 Try.underlying5 (.tmp rfl rfl) (wrapU _ rfl _))) ?_
 refine t_st (k:=10) (v:=.pointer (some ⟨g39,0 + 1,none⟩)) rfl rfl (fun w hs => (fa49_1 (.tmp rfl rfl))) ?_
 refine t_st (k:=11) (v:=.slice A35 n36 c37) rfl rfl (fun w hs => (ld33 (.tmp rfl rfl) (hs.cell 1 rfl (0 + 1) rfl))) ?_
 refine t_eff (k:=8) rfl ?_
 refine st_m (m_lit (n:=1) (ps:=[(0,.int .u8 (((e25.From % 256).toNat:Nat):Int))]) (cs:=[.int .u8 (((e25.From % 256).toNat:Nat):Int)]) Try.underlying33 inf5 (.cons (.tmp rfl rfl) Evp.nil) (by decide) (by decide) rfl rfl hs52) ?_
 rintro _ w54 ⟨g53,rfl,hs56⟩
 refine t_on (S':=fun u => St H u (obj g53 5 [.int .u8 (((e25.From % 256).toNat:Nat):Int)]::obj g_q 58 [v2,.bool true]::obj g39 49 [.int .i64 e25.From,.slice A35 n36 c37]::L)) (fun u hu => hu.drop) (hs56.p3).drop ?_
 refine t_eff (k:=9) rfl ?_
 have hs57:=hs56.p3
 refine st_m (m_appAt (bs:=[((e25.From % 256).toNat)]) Try.underlying33 inf5 hs57 ok2 (.tmp rfl rfl) (.tmp rfl rfl) rfl (hs57.at_ 1 rfl 0 rfl) (by omega)) ?_
 rintro v58 w59 ⟨ok60,hs61⟩
 refine t_on (S':=fun u => St H u (obj g53 5 [.int .u8 (((e25.From % 256).toNat:Nat):Int)]::obj g_q 58 [v2,.bool true]::obj g39 49 [.int .i64 e25.From,.slice A35 n36 c37]::L)) (fun u hu => hu) hs61.drop ?_
 refine t_eff (k:=12) rfl ?_
 have hl62:(q2 ++ [((e25.From % 256).toNat)]) = (q2 ++ [((e25.From % 256).toNat)]):=rfl
 obtain ⟨hs63,ok64⟩:=St.relist hs61 ok60 hl62
 have sm65:Small (q2 ++ [((e25.From % 256).toNat)]):=by rw [← hl62]; exact (sm2.append (Small.cons (by omega) Small.nil))
 refine st_c cb26 .func (evs2 (.tmp rfl rfl) (.tmp rfl rfl)) (bytes_enc hs63 sm65 ok64 e25.M hy38 (by first | omega | (rw [List.length_append,List.length_singleton]; omega))) ?_
 rintro e w66 ⟨v68,rfl,sm71,ok69,hs67⟩
 refine ⟨_,rfl,?_⟩
 refine t_new (S':=fun u => St H u (row 5 1 v68 (((q2 ++ [((e25.From % 256).toNat)]) ++ bytesE e25.M).length) (((q2 ++ [((e25.From % 256).toNat)]) ++ bytesE e25.M).map encB)::obj g53 5 [.int .u8 (((e25.From % 256).toNat:Nat):Int)]::obj g_q 58 [v2,.bool true]::obj g39 49 [.int .i64 e25.From,.slice A35 n36 c37]::L)) rfl hs67 ?_
 refine t_st (k:=13) (v:=.pointer (some ⟨g_q,0,none⟩)) rfl rfl (fun w hs => (x_nilCheck (.tmp rfl rfl))) ?_
 refine t_st (k:=14) (v:=.pointer (some ⟨g_q,0 + 0,none⟩)) rfl rfl (fun w hs => (fa58_0 (.tmp rfl rfl))) ?_
 refine t_eff (k:=15) rfl ?_
 obtain ⟨A72,c73,rfl,hc74⟩:=ok69.slice
 have hs75:=hs67.p2
 refine st_m0 (sto33 (cs':=[.slice A72 (((q2 ++ [((e25.From % 256).toNat)]) ++ bytesE e25.M).length) c73,.bool true]) (i:=0 + 0) hs75 (v:=.slice A72 (((q2 ++ [((e25.From % 256).toNat)]) ++ bytesE e25.M).length) c73) (.tmp rfl rfl) (.tmp rfl rfl) rfl (Nat.le_of_ble_eq_true rfl) one1 rfl) ?_
 rintro w76 hs78
 refine t_new (S':=fun u => St H u (obj g_q 58 [.slice A72 (((q2 ++ [((e25.From % 256).toNat)]) ++ bytesE e25.M).length) c73,.bool true]::row 5 1 (.slice A72 (((q2 ++ [((e25.From % 256).toNat)]) ++ bytesE e25.M).length) c73) (((q2 ++ [((e25.From % 256).toNat)]) ++ bytesE e25.M).length) (((q2 ++ [((e25.From % 256).toNat)]) ++ bytesE e25.M).map encB)::obj g53 5 [.int .u8 (((e25.From % 256).toNat:Nat):Int)]::obj g39 49 [.int .i64 e25.From,.slice A35 n36 c37]::L)) rfl hs78 ?_
 refine t_nil ?_
 refine n_block (n_then (c_region (st (v:=.int .i64 (((i + 1):Nat):Int)) (x_add (k:=.i64) (a:=((i:Nat):Int)) (b:=1) (.tmp rfl hρ22) .const ((w64 (by omega) (by omega)).trans (by omega))) ?_)))
 refine st (v:=.int .i64 (((i + 1):Nat):Int)) (x_move (.tmp rfl rfl)) ?_
 refine c_nil ?_
 refine n_then ⟨_,_,rfl,?_,(i + 1),.slice A72 (((q2 ++ [((e25.From % 256).toNat)]) ++ bytesE e25.M).length) c73,(q2 ++ [((e25.From % 256).toNat)]) ++ bytesE e25.M,true,hρ19,hρ20,hρ21,rfl,sm71,ok69,(by omega),(wr_bad hb2 hx29 (it_bad1 hc46)),(wr_list hq2 hx29 (fun h9 => absurd h9 (by decide)) (fun _ => it_list)),(wr_len hn2 hx29 (by rw [it_list,List.length_append]; omega)),((((hs78.p2).drop.p2).drop.p1).p1),rfl⟩
 omega
 refine g_yes (yk 34 false rfl rfl hc46) ?_
 refine st (v:=.pointer (some ⟨g39,0 + 0,none⟩)) (fa49_0 (.tmp rfl rfl)) ?_
 refine g_yes (yk 34 false rfl rfl hc46) ?_
 refine st (v:=.int .i64 e25.From) (ld3 (.tmp rfl rfl) (hs45.cell 0 rfl (0 + 0) rfl)) ?_
 refine g_yes (yk 34 false rfl rfl hc46) ?_
 refine st (v:=.bool (decide ((e25.From:Int) < 0))) (x_lss (k:=.i64) (a:=e25.From) (b:=0) (.tmp rfl rfl) .const) ?_
 refine st (v:=.bool (decide ((e25.From:Int) < 0))) (x_pick_f (.tmp rfl (cVb hc46)) (.tmp rfl rfl)) ?_
 refine st (v:=.bool (decide ((e25.From:Int) < 0))) (x_move (.tmp rfl rfl)) ?_
 rcases Bool.eq_false_or_eq_true (decide ((e25.From:Int) < 0)) with hc79 | hc79
 have hp79:(e25.From:Int) < 0:=of_decide_eq_true hc79
 refine g_no (yk 39 true rfl rfl hc79) rfl ?_
 refine g_no (yk 39 true rfl rfl hc79) rfl ?_
 refine g_no (yk 39 true rfl rfl hc79) rfl ?_
 refine st (v:=.bool true) (x_pick_t (.tmp rfl (cVb hc79)) .const) ?_
 refine st (v:=.pointer (some ⟨g_q,0,none⟩)) (x_nilCheck (.tmp rfl rfl)) ?_
 refine st (v:=.pointer (some ⟨g_q,0 + 1,none⟩)) (fa58_1 (.tmp rfl rfl)) ?_
 have hs80:=hs45.p1
 refine st_m0 (sto4 (cs':=[v2,.bool true]) (i:=0 + 1) hs80 (v:=.bool true) (.tmp rfl rfl) (.tmp rfl rfl) rfl (Nat.le_of_ble_eq_true rfl) one1 rfl) ?_
 rintro w81 hs83
 refine c_nil (n_then (t_region (L:=obj g_q 58 [v2,.bool true]::obj g39 49 [.int .i64 e25.From,.slice A35 n36 c37]::row 5 1 v2 q2.length (q2.map encB)::L) (L':=obj g_q 58 [v2,.bool true]::obj g39 49 [.int .i64 e25.From,.slice A35 n36 c37]::L) (Z:=[12,15]) (F:=[0,1,5]) (pl:=(.q 0 (.q 1 (.q 2 (.q 3 (.q 4 (.q 5 (.q 6 (.q 7 (.q 10 (.q 11 (.e 8 (.e 9 (.e 12 (.q 13 (.q 14 (.e 15 .done))))))))))))))))) mixed hs83 (fun u hu => (hu.p2).drop) (by kernel_rfl) ?_))
 intro w84 hs85
 have hfa:=flat_at (g:=itemE) hx29; have hil:=itemE_len e25; have hnl:=hn2; rw [List.length_append] at hnl; have hit:=itemsE_len l; have h10b:1 ≤ (bytesE e25.M).length:=by unfold bytesE; rw [List.length_append]; have:=uenc_pos e25.M.length; omega
 refine t_fr (k:=0) (v:=.pointer (some ⟨g_q,0,none⟩)) rfl (fun w _ => (x_move (.tmp rfl hρ19))) ?_
 refine t_fr (k:=1) (v:=.pointer (some ⟨g_q,0,none⟩)) rfl (fun w _ => (x_move (.tmp rfl hρ19))) ?_
 refine t_st (k:=2) (v:=.pointer (some ⟨g_q,0,none⟩)) rfl rfl (fun w hs => (x_nilCheck (.tmp rfl rfl))) ?_
 refine t_st (k:=3) (v:=.pointer (some ⟨g_q,0 + 0,none⟩)) rfl rfl (fun w hs => (fa58_0 (.tmp rfl rfl))) ?_
 refine t_st (k:=4) (v:=v2) rfl rfl (fun w hs => (ld33 (.tmp rfl rfl) (hs.cell 0 rfl (0 + 0) rfl))) ?_
 refine t_fr (k:=5) (v:=.pointer (some ⟨g39,0 + 0,none⟩)) rfl (fun w _ => (fa49_0 (.tmp rfl rfl))) ?_
 refine t_st (k:=6) (v:=.int .i64 e25.From) rfl rfl (fun w hs => (ld3 (.tmp rfl rfl) (hs.cell 1 rfl (0 + 0) rfl))) ?_
 refine t_st (k:=7) (v:=.int .u8 (((e25.From % 256).toNat:Nat):Int)) rfl rfl (fun w hs => (x_conv (k:=.i64) (a:=e25.From) Try.underlying3 Try.underlying5 (.tmp rfl rfl) (wrapU _ rfl _))) ?_
 refine t_st (k:=10) (v:=.pointer (some ⟨g39,0 + 1,none⟩)) rfl rfl (fun w hs => (fa49_1 (.tmp rfl rfl))) ?_
 refine t_st (k:=11) (v:=.slice A35 n36 c37) rfl rfl (fun w hs => (ld33 (.tmp rfl rfl) (hs.cell 1 rfl (0 + 1) rfl))) ?_
 refine t_eff (k:=8) rfl ?_
 refine st_m (m_lit (n:=1) (ps:=[(0,.int .u8 (((e25.From % 256).toNat:Nat):Int))]) (cs:=[.int .u8 (((e25.From % 256).toNat:Nat):Int)]) Try.underlying33 inf5 (.cons (.tmp rfl rfl) Evp.nil) (by decide) (by decide) rfl rfl hs85) ?_
 rintro _ w87 ⟨g86,rfl,hs89⟩
 refine t_on (S':=fun u => St H u (obj g86 5 [.int .u8 (((e25.From % 256).toNat:Nat):Int)]::obj g_q 58 [v2,.bool true]::obj g39 49 [.int .i64 e25.From,.slice A35 n36 c37]::L)) (fun u hu => hu.drop) (hs89.p3).drop ?_
 refine t_eff (k:=9) rfl ?_
 have hs90:=hs89.p3
 refine st_m (m_appAt (bs:=[((e25.From % 256).toNat)]) Try.underlying33 inf5 hs90 ok2 (.tmp rfl rfl) (.tmp rfl rfl) rfl (hs90.at_ 1 rfl 0 rfl) (by omega)) ?_
 rintro v91 w92 ⟨ok93,hs94⟩
 refine t_on (S':=fun u => St H u (obj g86 5 [.int .u8 (((e25.From % 256).toNat:Nat):Int)]::obj g_q 58 [v2,.bool true]::obj g39 49 [.int .i64 e25.From,.slice A35 n36 c37]::L)) (fun u hu => hu) hs94.drop ?_
 refine t_eff (k:=12) rfl ?_
 have hl95:(q2 ++ [((e25.From % 256).toNat)]) = (q2 ++ [((e25.From % 256).toNat)]):=rfl
 obtain ⟨hs96,ok97⟩:=St.relist hs94 ok93 hl95
 have sm98:Small (q2 ++ [((e25.From % 256).toNat)]):=by rw [← hl95]; exact (sm2.append (Small.cons (by omega) Small.nil))
 refine st_c cb26 .func (evs2 (.tmp rfl rfl) (.tmp rfl rfl)) (bytes_enc hs96 sm98 ok97 e25.M hy38 (by first | omega | (rw [List.length_append,List.length_singleton]; omega))) ?_
 rintro e w99 ⟨v101,rfl,sm104,ok102,hs100⟩
 refine ⟨_,rfl,?_⟩
 refine t_new (S':=fun u => St H u (row 5 1 v101 (((q2 ++ [((e25.From % 256).toNat)]) ++ bytesE e25.M).length) (((q2 ++ [((e25.From % 256).toNat)]) ++ bytesE e25.M).map encB)::obj g86 5 [.int .u8 (((e25.From % 256).toNat:Nat):Int)]::obj g_q 58 [v2,.bool true]::obj g39 49 [.int .i64 e25.From,.slice A35 n36 c37]::L)) rfl hs100 ?_
 refine t_st (k:=13) (v:=.pointer (some ⟨g_q,0,none⟩)) rfl rfl (fun w hs => (x_nilCheck (.tmp rfl rfl))) ?_
 refine t_st (k:=14) (v:=.pointer (some ⟨g_q,0 + 0,none⟩)) rfl rfl (fun w hs => (fa58_0 (.tmp rfl rfl))) ?_
 refine t_eff (k:=15) rfl ?_
 obtain ⟨A105,c106,rfl,hc107⟩:=ok102.slice
 have hs108:=hs100.p2
 refine st_m0 (sto33 (cs':=[.slice A105 (((q2 ++ [((e25.From % 256).toNat)]) ++ bytesE e25.M).length) c106,.bool true]) (i:=0 + 0) hs108 (v:=.slice A105 (((q2 ++ [((e25.From % 256).toNat)]) ++ bytesE e25.M).length) c106) (.tmp rfl rfl) (.tmp rfl rfl) rfl (Nat.le_of_ble_eq_true rfl) one1 rfl) ?_
 rintro w109 hs111
 refine t_new (S':=fun u => St H u (obj g_q 58 [.slice A105 (((q2 ++ [((e25.From % 256).toNat)]) ++ bytesE e25.M).length) c106,.bool true]::row 5 1 (.slice A105 (((q2 ++ [((e25.From % 256).toNat)]) ++ bytesE e25.M).length) c106) (((q2 ++ [((e25.From % 256).toNat)]) ++ bytesE e25.M).length) (((q2 ++ [((e25.From % 256).toNat)]) ++ bytesE e25.M).map encB)::obj g86 5 [.int .u8 (((e25.From % 256).toNat:Nat):Int)]::obj g39 49 [.int .i64 e25.From,.slice A35 n36 c37]::L)) rfl hs111 ?_
 refine t_nil ?_
 refine n_block (n_then (c_region (st (v:=.int .i64 (((i + 1):Nat):Int)) (x_add (k:=.i64) (a:=((i:Nat):Int)) (b:=1) (.tmp rfl hρ22) .const ((w64 (by omega) (by omega)).trans (by omega))) ?_)))
 refine st (v:=.int .i64 (((i + 1):Nat):Int)) (x_move (.tmp rfl rfl)) ?_
 refine c_nil ?_
 refine n_then ⟨_,_,rfl,?_,(i + 1),.slice A105 (((q2 ++ [((e25.From % 256).toNat)]) ++ bytesE e25.M).length) c106,(q2 ++ [((e25.From % 256).toNat)]) ++ bytesE e25.M,true,hρ19,hρ20,hρ21,rfl,sm104,ok102,(by omega),(wr_bad hb2 hx29 (it_bad2 hc46 (by omega))),(wr_list hq2 hx29 (fun h9 => absurd h9 (by decide)) (fun _ => it_list)),(wr_len hn2 hx29 (by rw [it_list,List.length_append]; omega)),((((hs111.p2).drop.p2).drop.p1).p1),rfl⟩
 omega
 have hp79:¬ ((e25.From:Int) < 0):=of_decide_eq_false hc79
 refine g_yes (yk 39 false rfl rfl hc79) ?_
 refine st (v:=.pointer (some ⟨g39,0 + 0,none⟩)) (fa49_0 (.tmp rfl rfl)) ?_
 refine g_yes (yk 39 false rfl rfl hc79) ?_
 refine st (v:=.int .i64 e25.From) (ld3 (.tmp rfl rfl) (hs45.cell 0 rfl (0 + 0) rfl)) ?_
 refine g_yes (yk 39 false rfl rfl hc79) ?_
 refine st (v:=.bool (decide ((16:Int) ≤ e25.From))) (x_geq (k:=.i64) (a:=e25.From) (b:=16) (.tmp rfl rfl) .const) ?_
 refine st (v:=.bool (decide ((16:Int) ≤ e25.From))) (x_pick_f (.tmp rfl (cVb hc79)) (.tmp rfl rfl)) ?_
 refine st (v:=.pointer (some ⟨g_q,0,none⟩)) (x_nilCheck (.tmp rfl rfl)) ?_
 refine st (v:=.pointer (some ⟨g_q,0 + 1,none⟩)) (fa58_1 (.tmp rfl rfl)) ?_
 have hs112:=hs45.p1
 refine st_m0 (sto4 (cs':=[v2,.bool (decide ((16:Int) ≤ e25.From))]) (i:=0 + 1) hs112 (v:=.bool (decide ((16:Int) ≤ e25.From))) (.tmp rfl rfl) (.tmp rfl rfl) rfl (Nat.le_of_ble_eq_true rfl) one1 rfl) ?_
 rintro w113 hs115
 refine c_nil (n_then (t_region (L:=obj g_q 58 [v2,.bool (decide ((16:Int) ≤ e25.From))]::obj g39 49 [.int .i64 e25.From,.slice A35 n36 c37]::row 5 1 v2 q2.length (q2.map encB)::L) (L':=obj g_q 58 [v2,.bool (decide ((16:Int) ≤ e25.From))]::obj g39 49 [.int .i64 e25.From,.slice A35 n36 c37]::L) (Z:=[12,15]) (F:=[0,1,5]) (pl:=(.q 0 (.q 1 (.q 2 (.q 3 (.q 4 (.q 5 (.q 6 (.q 7 (.q 10 (.q 11 (.e 8 (.e 9 (.e 12 (.q 13 (.q 14 (.e 15 .done))))))))))))))))) mixed hs115 (fun u hu => (hu.p2).drop) (by kernel_rfl) ?_))
 intro w116 hs117
 have hfa:=flat_at (g:=itemE) hx29; have hil:=itemE_len e25; have hnl:=hn2; rw [List.length_append] at hnl; have hit:=itemsE_len l; have h10b:1 ≤ (bytesE e25.M).length:=by unfold bytesE; rw [List.length_append]; have:=uenc_pos e25.M.length; omega
 refine t_fr (k:=0) (v:=.pointer (some ⟨g_q,0,none⟩)) rfl (fun w _ => (x_move (.tmp rfl hρ19))) ?_
 refine t_fr (k:=1) (v:=.pointer (some ⟨g_q,0,none⟩)) rfl (fun w _ => (x_move (.tmp rfl hρ19))) ?_
 refine t_st (k:=2) (v:=.pointer (some ⟨g_q,0,none⟩)) rfl rfl (fun w hs => (x_nilCheck (.tmp rfl rfl))) ?_
 refine t_st (k:=3) (v:=.pointer (some ⟨g_q,0 + 0,none⟩)) rfl rfl (fun w hs => (fa58_0 (.tmp rfl rfl))) ?_
 refine t_st (k:=4) (v:=v2) rfl rfl (fun w hs => (ld33 (.tmp rfl rfl) (hs.cell 0 rfl (0 + 0) rfl))) ?_
 refine t_fr (k:=5) (v:=.pointer (some ⟨g39,0 + 0,none⟩)) rfl (fun w _ => (fa49_0 (.tmp rfl rfl))) ?_
 refine t_st (k:=6) (v:=.int .i64 e25.From) rfl rfl (fun w hs => (ld3 (.tmp rfl rfl) (hs.cell 1 rfl (0 + 0) rfl))) ?_
 refine t_st (k:=7) (v:=.int .u8 (((e25.From % 256).toNat:Nat):Int)) rfl rfl (fun w hs => (x_conv (k:=.i64) (a:=e25.From) Try.underlying3 Try.underlying5 (.tmp rfl rfl) (wrapU _ rfl _))) ?_
 refine t_st (k:=10) (v:=.pointer (some ⟨g39,0 + 1,none⟩)) rfl rfl (fun w hs => (fa49_1 (.tmp rfl rfl))) ?_
 refine t_st (k:=11) (v:=.slice A35 n36 c37) rfl rfl (fun w hs => (ld33 (.tmp rfl rfl) (hs.cell 1 rfl (0 + 1) rfl))) ?_
 refine t_eff (k:=8) rfl ?_
 refine st_m (m_lit (n:=1) (ps:=[(0,.int .u8 (((e25.From % 256).toNat:Nat):Int))]) (cs:=[.int .u8 (((e25.From % 256).toNat:Nat):Int)]) Try.underlying33 inf5 (.cons (.tmp rfl rfl) Evp.nil) (by decide) (by decide) rfl rfl hs117) ?_
 rintro _ w119 ⟨g118,rfl,hs121⟩
 refine t_on (S':=fun u => St H u (obj g118 5 [.int .u8 (((e25.From % 256).toNat:Nat):Int)]::obj g_q 58 [v2,.bool (decide ((16:Int) ≤ e25.From))]::obj g39 49 [.int .i64 e25.From,.slice A35 n36 c37]::L)) (fun u hu => hu.drop) (hs121.p3).drop ?_
 refine t_eff (k:=9) rfl ?_
 have hs122:=hs121.p3
 refine st_m (m_appAt (bs:=[((e25.From % 256).toNat)]) Try.underlying33 inf5 hs122 ok2 (.tmp rfl rfl) (.tmp rfl rfl) rfl (hs122.at_ 1 rfl 0 rfl) (by omega)) ?_
 rintro v123 w124 ⟨ok125,hs126⟩
 refine t_on (S':=fun u => St H u (obj g118 5 [.int .u8 (((e25.From % 256).toNat:Nat):Int)]::obj g_q 58 [v2,.bool (decide ((16:Int) ≤ e25.From))]::obj g39 49 [.int .i64 e25.From,.slice A35 n36 c37]::L)) (fun u hu => hu) hs126.drop ?_
 refine t_eff (k:=12) rfl ?_
 have hl127:(q2 ++ [((e25.From % 256).toNat)]) = (q2 ++ [((e25.From % 256).toNat)]):=rfl
 obtain ⟨hs128,ok129⟩:=St.relist hs126 ok125 hl127
 have sm130:Small (q2 ++ [((e25.From % 256).toNat)]):=by rw [← hl127]; exact (sm2.append (Small.cons (by omega) Small.nil))
 refine st_c cb26 .func (evs2 (.tmp rfl rfl) (.tmp rfl rfl)) (bytes_enc hs128 sm130 ok129 e25.M hy38 (by first | omega | (rw [List.length_append,List.length_singleton]; omega))) ?_
 rintro e w131 ⟨v133,rfl,sm136,ok134,hs132⟩
 refine ⟨_,rfl,?_⟩
 refine t_new (S':=fun u => St H u (row 5 1 v133 (((q2 ++ [((e25.From % 256).toNat)]) ++ bytesE e25.M).length) (((q2 ++ [((e25.From % 256).toNat)]) ++ bytesE e25.M).map encB)::obj g118 5 [.int .u8 (((e25.From % 256).toNat:Nat):Int)]::obj g_q 58 [v2,.bool (decide ((16:Int) ≤ e25.From))]::obj g39 49 [.int .i64 e25.From,.slice A35 n36 c37]::L)) rfl hs132 ?_
 refine t_st (k:=13) (v:=.pointer (some ⟨g_q,0,none⟩)) rfl rfl (fun w hs => (x_nilCheck (.tmp rfl rfl))) ?_
 refine t_st (k:=14) (v:=.pointer (some ⟨g_q,0 + 0,none⟩)) rfl rfl (fun w hs => (fa58_0 (.tmp rfl rfl))) ?_
 refine t_eff (k:=15) rfl ?_
 obtain ⟨A137,c138,rfl,hc139⟩:=ok134.slice
 have hs140:=hs132.p2
 refine st_m0 (sto33 (cs':=[.slice A137 (((q2 ++ [((e25.From % 256).toNat)]) ++ bytesE e25.M).length) c138,.bool (decide ((16:Int) ≤ e25.From))]) (i:=0 + 0) hs140 (v:=.slice A137 (((q2 ++ [((e25.From % 256).toNat)]) ++ bytesE e25.M).length) c138) (.tmp rfl rfl) (.tmp rfl rfl) rfl (Nat.le_of_ble_eq_true rfl) one1 rfl) ?_
 rintro w141 hs143
 refine t_new (S':=fun u => St H u (obj g_q 58 [.slice A137 (((q2 ++ [((e25.From % 256).toNat)]) ++ bytesE e25.M).length) c138,.bool (decide ((16:Int) ≤ e25.From))]::row 5 1 (.slice A137 (((q2 ++ [((e25.From % 256).toNat)]) ++ bytesE e25.M).length) c138) (((q2 ++ [((e25.From % 256).toNat)]) ++ bytesE e25.M).length) (((q2 ++ [((e25.From % 256).toNat)]) ++ bytesE e25.M).map encB)::obj g118 5 [.int .u8 (((e25.From % 256).toNat:Nat):Int)]::obj g39 49 [.int .i64 e25.From,.slice A35 n36 c37]::L)) rfl hs143 ?_
 refine t_nil ?_
 refine n_block (n_then (c_region (st (v:=.int .i64 (((i + 1):Nat):Int)) (x_add (k:=.i64) (a:=((i:Nat):Int)) (b:=1) (.tmp rfl hρ22) .const ((w64 (by omega) (by omega)).trans (by omega))) ?_)))
 refine st (v:=.int .i64 (((i + 1):Nat):Int)) (x_move (.tmp rfl rfl)) ?_
 refine c_nil ?_
 refine n_then ⟨_,_,rfl,?_,(i + 1),.slice A137 (((q2 ++ [((e25.From % 256).toNat)]) ++ bytesE e25.M).length) c138,(q2 ++ [((e25.From % 256).toNat)]) ++ bytesE e25.M,(decide ((16:Int) ≤ e25.From)),hρ19,hρ20,hρ21,rfl,sm136,ok134,(by omega),(wr_bad hb2 hx29 (it_bad3 hc46 (by omega))),(wr_list hq2 hx29 (fun _ => hc46) (fun _ => it_list)),(wr_len hn2 hx29 (by rw [it_list,List.length_append]; omega)),((((hs143.p2).drop.p2).drop.p1).p1),rfl⟩
 omega
 have hp24:¬ ((((i:Nat):Int):Int) < ((n_l:Nat):Int)):=of_decide_eq_false hc24
 refine c_cond_f (t:=false) (.tmp rfl (cVb hc24)) rfl ?_
 refine c_exit (x_then (x_then (x_here (leave_end (res_none rfl) ?_))))
 exact ⟨v2,q2,b2,rfl,sm2,ok2,(by rw [hb2,List.take_of_length_le (show l.length ≤ i by omega)]; rfl),(fun h => by rw [hq2 h,List.take_of_length_le (show l.length ≤ i by omega)]; rfl),(by have h9:=hn2; rw [List.take_of_length_le (show l.length ≤ i by omega)] at h9; exact h9),((hs23.p1).p1)⟩
 refine g_yes (yk 11 false rfl rfl hc1) ?_
 refine st (v:=.slice A_l n_l c_l) (x_move (.tmp rfl rfl)) ?_
 refine g_yes (yk 11 false rfl rfl hc1) ?_
 refine st (v:=.int .i64 ((n_l:Nat):Int)) (x_len (n:=n_l) Try.underlying28 (.tmp rfl rfl)) ?_
 refine g_yes (yk 11 false rfl rfl hc1) ?_
 refine st (v:=.bool (decide ((4096:Int) < ((n_l:Nat):Int)))) (x_gtr (k:=.i64) (a:=((n_l:Nat):Int)) (b:=4096) (.tmp rfl rfl) .const) ?_
 refine st (v:=.bool (decide ((4096:Int) < ((n_l:Nat):Int)))) (x_pick_f (.tmp rfl (cVb hc1)) (.tmp rfl rfl)) ?_
 refine st (v:=.pointer (some ⟨g_q,0,none⟩)) (x_nilCheck (.tmp rfl rfl)) ?_
 refine st (v:=.pointer (some ⟨g_q,0 + 1,none⟩)) (fa58_1 (.tmp rfl rfl)) ?_
 refine st_m0 (sto4 (cs':=[v_q,.bool (decide ((4096:Int) < ((n_l:Nat):Int)))]) (i:=0 + 1) hs (v:=.bool (decide ((4096:Int) < ((n_l:Nat):Int)))) (.tmp rfl rfl) (.tmp rfl rfl) rfl (Nat.le_of_ble_eq_true rfl) one1 rfl) ?_
 rintro w144 hs146
 refine c_nil (n_then (c_seq (c_region ?_)))
 have hit:=itemsE_len l; have hln:l.length = n_l:=h_l.len; rw [hln] at hit
 refine st (v:=.pointer (some ⟨g_q,0,none⟩)) (x_move (.tmp rfl rfl)) ?_
 refine st (v:=.slice A_l n_l c_l) (x_move (.tmp rfl rfl)) ?_
 refine st (v:=.int .i64 ((n_l:Nat):Int)) (x_len (n:=n_l) Try.underlying28 (.tmp rfl rfl)) ?_
 have hb147:n_l < 18446744073709551616:=by omega
 refine st (v:=.int .u64 ((n_l:Nat):Int)) (x_conv (k:=.i64) (a:=((n_l:Nat):Int)) Try.underlying3 Try.underlying22 (.tmp rfl rfl) (wU rfl rfl hb147)) ?_
 have hs148:=hs146.p1
 have hs149:=hs148.p1
 refine st_c cb24 .func (evs2 (.tmp rfl rfl) (.tmp rfl rfl)) (num_spec hs149 sm_q ok_q n_l hb147 (by first | omega | (rw [List.length_append,List.length_singleton]; omega))) ?_
 rintro e w150 ⟨v152,q153,b154,rfl,sm155,ok156,hb157,hq158,hn159,hs151⟩
 refine ⟨_,rfl,?_⟩
 refine c_nil (n_then (c_seq (c_region (st (v:=.slice A_l n_l c_l) (x_move (.tmp rfl rfl)) ?_))))
 refine st (v:=.int .i64 ((n_l:Nat):Int)) (x_len (n:=n_l) Try.underlying28 (.tmp rfl rfl)) ?_
 refine st (v:=.int .i64 0) (x_move .const) ?_
 refine c_nil (n_then (c_block ?_))
 rw [show n_l = l.length from h_l.len.symm] at hq158 hn159
 refine c_loop (fun ρ w mm => ∃ (i:Nat) (v2:Value) (q2:List Nat) (b2:Bool),ρ 0 = .pointer (some ⟨g_q,0,none⟩)∧ρ 23 = .slice A_l n_l c_l∧ρ 24 = .int .i64 ((n_l:Nat):Int)∧ρ 25 = .int .i64 ((i:Nat):Int)∧(Small q2)∧(RowOk 1 v2 q2.length (q2.map encB))∧(i ≤ n_l)∧(b2 = (b_q || !(decide (l.length ≤ 4096) && (l.take i).all okFrom)))∧(b2 = false → q2 = q ++ (uenc l.length ++ (l.take i).flatMap itemE))∧(q2.length ≤ q.length + (uenc l.length ++ (l.take i).flatMap itemE).length)∧St H w (obj g_q 58 [v2,.bool b2]::row 5 1 v2 q2.length (q2.map encB)::L)∧mm = n_l - i) _ ⟨0,v152,q153,b154,rfl,rfl,rfl,rfl,sm155,ok156,(by omega),(wr_start hb157 (wr0f hc1 (by omega))),(wr_start2 hq158),(wr_start3 hn159),((hs151.p1).p1),rfl⟩ ?_
 rintro ρ w mm ⟨i,v2,q2,b2,hρ161,hρ162,hρ163,hρ164,sm2,ok2,hi,hb2,hq2,hn2,hs165,rfl⟩
 refine c_seq (c_region (st (v:=.bool (decide ((((i:Nat):Int):Int) < ((n_l:Nat):Int)))) (x_lss (k:=.i64) (a:=((i:Nat):Int)) (b:=((n_l:Nat):Int)) (.tmp rfl hρ164) (.tmp rfl hρ163)) ?_))
 refine c_nil (n_then (c_seq ?_))
 rcases Bool.eq_false_or_eq_true (decide ((((i:Nat):Int):Int) < ((n_l:Nat):Int))) with hc166 | hc166
 have hp166:(((i:Nat):Int):Int) < ((n_l:Nat):Int):=of_decide_eq_true hc166
 refine c_cond_t (t:=true) (.tmp rfl (cVb hc166)) rfl ?_
 refine c_skip (n_then (c_seq (c_block (c_seq (c_region ?_)))))
 obtain ⟨e167,b168,o169,cs170,hx171,hA172,hr173,hat174⟩:=h_l.get (i:=i) (by omega)
 obtain ⟨A177,n178,c179,rfl,⟨b175,b176⟩,hy180⟩:=hr173
 have:=hy180.len; have:=hy180.bnd; have:=hy180.le
 have hat174x:∀ {w:World} {L:List Res},St H w L → At w ⟨b168,o169 + i * 2,none⟩ [.int .i64 e167.From,.slice A177 n178 c179]:=fun h => hat174 h
 refine st (v:=.pointer (some ⟨b168,(o169 + i * 2),none⟩)) (ixo28 (.tmp rfl hρ162) hA172 (i:=((i:Nat):Int)) (.tmp rfl hρ164) (by omega) (by omega) (by omega)) ?_
 refine st (v:=.agg #[.int .i64 e167.From,.slice A177 n178 c179]) (ld49 (cs:=[.int .i64 e167.From,.slice A177 n178 c179]) (.tmp rfl rfl) ((hat174x hs165).sub 0 rfl) rfl) ?_
 refine st_m (al49 (cs:=[.int .i64 0,.slice none 0 0]) hs165 rfl) ?_
 rintro _ w182 ⟨g181,rfl,hs184⟩
 refine st_m0 (sto49 (cs':=[.int .i64 e167.From,.slice A177 n178 c179]) (i:=0) hs184 (v:=.agg #[.int .i64 e167.From,.slice A177 n178 c179]) (.tmp rfl rfl) (.tmp rfl rfl) rfl (Nat.le_of_ble_eq_true rfl) (oneA rfl) rfl) ?_
 rintro w185 hs187
 refine c_nil (n_then (c_seq (c_region (st (v:=.pointer (some ⟨g_q,0,none⟩)) (x_move (.tmp rfl hρ161)) ?_))))
 refine st (v:=.pointer (some ⟨g_q,0,none⟩)) (x_move (.tmp rfl hρ161)) ?_
 refine st (v:=.pointer (some ⟨g_q,0,none⟩)) (x_nilCheck (.tmp rfl rfl)) ?_
 refine st (v:=.pointer (some ⟨g_q,0 + 1,none⟩)) (fa58_1 (.tmp rfl rfl)) ?_
 refine st (v:=.bool b2) (ld4 (.tmp rfl rfl) (hs187.cell 1 rfl (0 + 1) rfl)) ?_
 refine st (v:=.bool b2) (x_move (.tmp rfl rfl)) ?_
 rcases Bool.eq_false_or_eq_true b2 with hc188 | hc188
 refine g_no (yk 34 true rfl rfl hc188) rfl ?_
 refine g_no (yk 34 true rfl rfl hc188) rfl ?_
 refine g_no (yk 34 true rfl rfl hc188) rfl ?_
 refine st (v:=.bool true) (x_pick_t (.tmp rfl (cVb hc188)) .const) ?_
 refine st (v:=.bool true) (x_move (.tmp rfl rfl)) ?_
 refine g_no (yl (dj:=39) (b:=true) rfl rfl rfl) rfl ?_
 refine g_no (yl (dj:=39) (b:=true) rfl rfl rfl) rfl ?_
 refine g_no (yl (dj:=39) (b:=true) rfl rfl rfl) rfl ?_
 refine st (v:=.bool true) (x_pick_t (.tmp rfl rfl) .const) ?_
 refine st (v:=.pointer (some ⟨g_q,0,none⟩)) (x_nilCheck (.tmp rfl rfl)) ?_
 refine st (v:=.pointer (some ⟨g_q,0 + 1,none⟩)) (fa58_1 (.tmp rfl rfl)) ?_
 have hs189:=hs187.p1
 refine st_m0 (sto4 (cs':=[v2,.bool true]) (i:=0 + 1) hs189 (v:=.bool true) (.tmp rfl rfl) (.tmp rfl rfl) rfl (Nat.le_of_ble_eq_true rfl) one1 rfl) ?_
 rintro w190 hs192
 refine c_nil (n_then (t_region (L:=obj g_q 58 [v2,.bool true]::obj g181 49 [.int .i64 e167.From,.slice A177 n178 c179]::row 5 1 v2 q2.length (q2.map encB)::L) (L':=obj g_q 58 [v2,.bool true]::obj g181 49 [.int .i64 e167.From,.slice A177 n178 c179]::L) (Z:=[12,15]) (F:=[0,1,5]) (pl:=(.q 0 (.q 1 (.q 2 (.q 3 (.q 4 (.q 5 (.q 6 (.q 7 (.q 10 (.q 11 (.e 8 (.e 9 (.e 12 (.q 13 (.q 14 (.e 15 .done))))))))))))))))) mixed hs192 (fun u hu => (hu.p2).drop) (by kernel_rfl) ?_))
 intro w193 hs194
 have hfa:=flat_at (g:=itemE) hx171; have hil:=itemE_len e167; have hnl:=hn2; rw [List.length_append] at hnl; have hit:=itemsE_len l; have h10b:1 ≤ (bytesE e167.M).length:=by unfold bytesE; rw [List.length_append]; have:=uenc_pos e167.M.length; omega
 refine t_fr (k:=0) (v:=.pointer (some ⟨g_q,0,none⟩)) rfl (fun w _ => (x_move (.tmp rfl hρ161))) ?_
 refine t_fr (k:=1) (v:=.pointer (some ⟨g_q,0,none⟩)) rfl (fun w _ => (x_move (.tmp rfl hρ161))) ?_
 refine t_st (k:=2) (v:=.pointer (some ⟨g_q,0,none⟩)) rfl rfl (fun w hs => (x_nilCheck (.tmp rfl rfl))) ?_
 refine t_st (k:=3) (v:=.pointer (some ⟨g_q,0 + 0,none⟩)) rfl rfl (fun w hs => (fa58_0 (.tmp rfl rfl))) ?_
 refine t_st (k:=4) (v:=v2) rfl rfl (fun w hs => (ld33 (.tmp rfl rfl) (hs.cell 0 rfl (0 + 0) rfl))) ?_
 refine t_fr (k:=5) (v:=.pointer (some ⟨g181,0 + 0,none⟩)) rfl (fun w _ => (fa49_0 (.tmp rfl rfl))) ?_
 refine t_st (k:=6) (v:=.int .i64 e167.From) rfl rfl (fun w hs => (ld3 (.tmp rfl rfl) (hs.cell 1 rfl (0 + 0) rfl))) ?_
 refine t_st (k:=7) (v:=.int .u8 (((e167.From % 256).toNat:Nat):Int)) rfl rfl (fun w hs => (x_conv (k:=.i64) (a:=e167.From) Try.underlying3 Try.underlying5 (.tmp rfl rfl) (wrapU _ rfl _))) ?_
 refine t_st (k:=10) (v:=.pointer (some ⟨g181,0 + 1,none⟩)) rfl rfl (fun w hs => (fa49_1 (.tmp rfl rfl))) ?_
 refine t_st (k:=11) (v:=.slice A177 n178 c179) rfl rfl (fun w hs => (ld33 (.tmp rfl rfl) (hs.cell 1 rfl (0 + 1) rfl))) ?_
 refine t_eff (k:=8) rfl ?_
 refine st_m (m_lit (n:=1) (ps:=[(0,.int .u8 (((e167.From % 256).toNat:Nat):Int))]) (cs:=[.int .u8 (((e167.From % 256).toNat:Nat):Int)]) Try.underlying33 inf5 (.cons (.tmp rfl rfl) Evp.nil) (by decide) (by decide) rfl rfl hs194) ?_
 rintro _ w196 ⟨g195,rfl,hs198⟩
 refine t_on (S':=fun u => St H u (obj g195 5 [.int .u8 (((e167.From % 256).toNat:Nat):Int)]::obj g_q 58 [v2,.bool true]::obj g181 49 [.int .i64 e167.From,.slice A177 n178 c179]::L)) (fun u hu => hu.drop) (hs198.p3).drop ?_
 refine t_eff (k:=9) rfl ?_
 have hs199:=hs198.p3
 refine st_m (m_appAt (bs:=[((e167.From % 256).toNat)]) Try.underlying33 inf5 hs199 ok2 (.tmp rfl rfl) (.tmp rfl rfl) rfl (hs199.at_ 1 rfl 0 rfl) (by omega)) ?_
 rintro v200 w201 ⟨ok202,hs203⟩
 refine t_on (S':=fun u => St H u (obj g195 5 [.int .u8 (((e167.From % 256).toNat:Nat):Int)]::obj g_q 58 [v2,.bool true]::obj g181 49 [.int .i64 e167.From,.slice A177 n178 c179]::L)) (fun u hu => hu) hs203.drop ?_
 refine t_eff (k:=12) rfl ?_
 have hl204:(q2 ++ [((e167.From % 256).toNat)]) = (q2 ++ [((e167.From % 256).toNat)]):=rfl
 obtain ⟨hs205,ok206⟩:=St.relist hs203 ok202 hl204
 have sm207:Small (q2 ++ [((e167.From % 256).toNat)]):=by rw [← hl204]; exact (sm2.append (Small.cons (by omega) Small.nil))
 refine st_c cb26 .func (evs2 (.tmp rfl rfl) (.tmp rfl rfl)) (bytes_enc hs205 sm207 ok206 e167.M hy180 (by first | omega | (rw [List.length_append,List.length_singleton]; omega))) ?_
 rintro e w208 ⟨v210,rfl,sm213,ok211,hs209⟩
 refine ⟨_,rfl,?_⟩
 refine t_new (S':=fun u => St H u (row 5 1 v210 (((q2 ++ [((e167.From % 256).toNat)]) ++ bytesE e167.M).length) (((q2 ++ [((e167.From % 256).toNat)]) ++ bytesE e167.M).map encB)::obj g195 5 [.int .u8 (((e167.From % 256).toNat:Nat):Int)]::obj g_q 58 [v2,.bool true]::obj g181 49 [.int .i64 e167.From,.slice A177 n178 c179]::L)) rfl hs209 ?_
 refine t_st (k:=13) (v:=.pointer (some ⟨g_q,0,none⟩)) rfl rfl (fun w hs => (x_nilCheck (.tmp rfl rfl))) ?_
 refine t_st (k:=14) (v:=.pointer (some ⟨g_q,0 + 0,none⟩)) rfl rfl (fun w hs => (fa58_0 (.tmp rfl rfl))) ?_
 refine t_eff (k:=15) rfl ?_
 obtain ⟨A214,c215,rfl,hc216⟩:=ok211.slice
 have hs217:=hs209.p2
 refine st_m0 (sto33 (cs':=[.slice A214 (((q2 ++ [((e167.From % 256).toNat)]) ++ bytesE e167.M).length) c215,.bool true]) (i:=0 + 0) hs217 (v:=.slice A214 (((q2 ++ [((e167.From % 256).toNat)]) ++ bytesE e167.M).length) c215) (.tmp rfl rfl) (.tmp rfl rfl) rfl (Nat.le_of_ble_eq_true rfl) one1 rfl) ?_
 rintro w218 hs220
 refine t_new (S':=fun u => St H u (obj g_q 58 [.slice A214 (((q2 ++ [((e167.From % 256).toNat)]) ++ bytesE e167.M).length) c215,.bool true]::row 5 1 (.slice A214 (((q2 ++ [((e167.From % 256).toNat)]) ++ bytesE e167.M).length) c215) (((q2 ++ [((e167.From % 256).toNat)]) ++ bytesE e167.M).length) (((q2 ++ [((e167.From % 256).toNat)]) ++ bytesE e167.M).map encB)::obj g195 5 [.int .u8 (((e167.From % 256).toNat:Nat):Int)]::obj g181 49 [.int .i64 e167.From,.slice A177 n178 c179]::L)) rfl hs220 ?_
 refine t_nil ?_
 refine n_block (n_then (c_region (st (v:=.int .i64 (((i + 1):Nat):Int)) (x_add (k:=.i64) (a:=((i:Nat):Int)) (b:=1) (.tmp rfl hρ164) .const ((w64 (by omega) (by omega)).trans (by omega))) ?_)))
 refine st (v:=.int .i64 (((i + 1):Nat):Int)) (x_move (.tmp rfl rfl)) ?_
 refine c_nil ?_
 refine n_then ⟨_,_,rfl,?_,(i + 1),.slice A214 (((q2 ++ [((e167.From % 256).toNat)]) ++ bytesE e167.M).length) c215,(q2 ++ [((e167.From % 256).toNat)]) ++ bytesE e167.M,true,hρ161,hρ162,hρ163,rfl,sm213,ok211,(by omega),(wr_bad hb2 hx171 (it_bad1 hc188)),(wr_list hq2 hx171 (fun h9 => absurd h9 (by decide)) (fun _ => it_list)),(wr_len hn2 hx171 (by rw [it_list,List.length_append]; omega)),((((hs220.p2).drop.p2).drop.p1).p1),rfl⟩
 omega
 refine g_yes (yk 34 false rfl rfl hc188) ?_
 refine st (v:=.pointer (some ⟨g181,0 + 0,none⟩)) (fa49_0 (.tmp rfl rfl)) ?_
 refine g_yes (yk 34 false rfl rfl hc188) ?_
 refine st (v:=.int .i64 e167.From) (ld3 (.tmp rfl rfl) (hs187.cell 0 rfl (0 + 0) rfl)) ?_
 refine g_yes (yk 34 false rfl rfl hc188) ?_
 refine st (v:=.bool (decide ((e167.From:Int) < 0))) (x_lss (k:=.i64) (a:=e167.From) (b:=0) (.tmp rfl rfl) .const) ?_
 refine st (v:=.bool (decide ((e167.From:Int) < 0))) (x_pick_f (.tmp rfl (cVb hc188)) (.tmp rfl rfl)) ?_
 refine st (v:=.bool (decide ((e167.From:Int) < 0))) (x_move (.tmp rfl rfl)) ?_
 rcases Bool.eq_false_or_eq_true (decide ((e167.From:Int) < 0)) with hc221 | hc221
 have hp221:(e167.From:Int) < 0:=of_decide_eq_true hc221
 refine g_no (yk 39 true rfl rfl hc221) rfl ?_
 refine g_no (yk 39 true rfl rfl hc221) rfl ?_
 refine g_no (yk 39 true rfl rfl hc221) rfl ?_
 refine st (v:=.bool true) (x_pick_t (.tmp rfl (cVb hc221)) .const) ?_
 refine st (v:=.pointer (some ⟨g_q,0,none⟩)) (x_nilCheck (.tmp rfl rfl)) ?_
 refine st (v:=.pointer (some ⟨g_q,0 + 1,none⟩)) (fa58_1 (.tmp rfl rfl)) ?_
 have hs222:=hs187.p1
 refine st_m0 (sto4 (cs':=[v2,.bool true]) (i:=0 + 1) hs222 (v:=.bool true) (.tmp rfl rfl) (.tmp rfl rfl) rfl (Nat.le_of_ble_eq_true rfl) one1 rfl) ?_
 rintro w223 hs225
 refine c_nil (n_then (t_region (L:=obj g_q 58 [v2,.bool true]::obj g181 49 [.int .i64 e167.From,.slice A177 n178 c179]::row 5 1 v2 q2.length (q2.map encB)::L) (L':=obj g_q 58 [v2,.bool true]::obj g181 49 [.int .i64 e167.From,.slice A177 n178 c179]::L) (Z:=[12,15]) (F:=[0,1,5]) (pl:=(.q 0 (.q 1 (.q 2 (.q 3 (.q 4 (.q 5 (.q 6 (.q 7 (.q 10 (.q 11 (.e 8 (.e 9 (.e 12 (.q 13 (.q 14 (.e 15 .done))))))))))))))))) mixed hs225 (fun u hu => (hu.p2).drop) (by kernel_rfl) ?_))
 intro w226 hs227
 have hfa:=flat_at (g:=itemE) hx171; have hil:=itemE_len e167; have hnl:=hn2; rw [List.length_append] at hnl; have hit:=itemsE_len l; have h10b:1 ≤ (bytesE e167.M).length:=by unfold bytesE; rw [List.length_append]; have:=uenc_pos e167.M.length; omega
 refine t_fr (k:=0) (v:=.pointer (some ⟨g_q,0,none⟩)) rfl (fun w _ => (x_move (.tmp rfl hρ161))) ?_
 refine t_fr (k:=1) (v:=.pointer (some ⟨g_q,0,none⟩)) rfl (fun w _ => (x_move (.tmp rfl hρ161))) ?_
 refine t_st (k:=2) (v:=.pointer (some ⟨g_q,0,none⟩)) rfl rfl (fun w hs => (x_nilCheck (.tmp rfl rfl))) ?_
 refine t_st (k:=3) (v:=.pointer (some ⟨g_q,0 + 0,none⟩)) rfl rfl (fun w hs => (fa58_0 (.tmp rfl rfl))) ?_
 refine t_st (k:=4) (v:=v2) rfl rfl (fun w hs => (ld33 (.tmp rfl rfl) (hs.cell 0 rfl (0 + 0) rfl))) ?_
 refine t_fr (k:=5) (v:=.pointer (some ⟨g181,0 + 0,none⟩)) rfl (fun w _ => (fa49_0 (.tmp rfl rfl))) ?_
 refine t_st (k:=6) (v:=.int .i64 e167.From) rfl rfl (fun w hs => (ld3 (.tmp rfl rfl) (hs.cell 1 rfl (0 + 0) rfl))) ?_
 refine t_st (k:=7) (v:=.int .u8 (((e167.From % 256).toNat:Nat):Int)) rfl rfl (fun w hs => (x_conv (k:=.i64) (a:=e167.From) Try.underlying3 Try.underlying5 (.tmp rfl rfl) (wrapU _ rfl _))) ?_
 refine t_st (k:=10) (v:=.pointer (some ⟨g181,0 + 1,none⟩)) rfl rfl (fun w hs => (fa49_1 (.tmp rfl rfl))) ?_
 refine t_st (k:=11) (v:=.slice A177 n178 c179) rfl rfl (fun w hs => (ld33 (.tmp rfl rfl) (hs.cell 1 rfl (0 + 1) rfl))) ?_
 refine t_eff (k:=8) rfl ?_
 refine st_m (m_lit (n:=1) (ps:=[(0,.int .u8 (((e167.From % 256).toNat:Nat):Int))]) (cs:=[.int .u8 (((e167.From % 256).toNat:Nat):Int)]) Try.underlying33 inf5 (.cons (.tmp rfl rfl) Evp.nil) (by decide) (by decide) rfl rfl hs227) ?_
 rintro _ w229 ⟨g228,rfl,hs231⟩
 refine t_on (S':=fun u => St H u (obj g228 5 [.int .u8 (((e167.From % 256).toNat:Nat):Int)]::obj g_q 58 [v2,.bool true]::obj g181 49 [.int .i64 e167.From,.slice A177 n178 c179]::L)) (fun u hu => hu.drop) (hs231.p3).drop ?_
 refine t_eff (k:=9) rfl ?_
 have hs232:=hs231.p3
 refine st_m (m_appAt (bs:=[((e167.From % 256).toNat)]) Try.underlying33 inf5 hs232 ok2 (.tmp rfl rfl) (.tmp rfl rfl) rfl (hs232.at_ 1 rfl 0 rfl) (by omega)) ?_
 rintro v233 w234 ⟨ok235,hs236⟩
 refine t_on (S':=fun u => St H u (obj g228 5 [.int .u8 (((e167.From % 256).toNat:Nat):Int)]::obj g_q 58 [v2,.bool true]::obj g181 49 [.int .i64 e167.From,.slice A177 n178 c179]::L)) (fun u hu => hu) hs236.drop ?_
 refine t_eff (k:=12) rfl ?_
 have hl237:(q2 ++ [((e167.From % 256).toNat)]) = (q2 ++ [((e167.From % 256).toNat)]):=rfl
 obtain ⟨hs238,ok239⟩:=St.relist hs236 ok235 hl237
 have sm240:Small (q2 ++ [((e167.From % 256).toNat)]):=by rw [← hl237]; exact (sm2.append (Small.cons (by omega) Small.nil))
 refine st_c cb26 .func (evs2 (.tmp rfl rfl) (.tmp rfl rfl)) (bytes_enc hs238 sm240 ok239 e167.M hy180 (by first | omega | (rw [List.length_append,List.length_singleton]; omega))) ?_
 rintro e w241 ⟨v243,rfl,sm246,ok244,hs242⟩
 refine ⟨_,rfl,?_⟩
 refine t_new (S':=fun u => St H u (row 5 1 v243 (((q2 ++ [((e167.From % 256).toNat)]) ++ bytesE e167.M).length) (((q2 ++ [((e167.From % 256).toNat)]) ++ bytesE e167.M).map encB)::obj g228 5 [.int .u8 (((e167.From % 256).toNat:Nat):Int)]::obj g_q 58 [v2,.bool true]::obj g181 49 [.int .i64 e167.From,.slice A177 n178 c179]::L)) rfl hs242 ?_
 refine t_st (k:=13) (v:=.pointer (some ⟨g_q,0,none⟩)) rfl rfl (fun w hs => (x_nilCheck (.tmp rfl rfl))) ?_
 refine t_st (k:=14) (v:=.pointer (some ⟨g_q,0 + 0,none⟩)) rfl rfl (fun w hs => (fa58_0 (.tmp rfl rfl))) ?_
 refine t_eff (k:=15) rfl ?_
 obtain ⟨A247,c248,rfl,hc249⟩:=ok244.slice
 have hs250:=hs242.p2
 refine st_m0 (sto33 (cs':=[.slice A247 (((q2 ++ [((e167.From % 256).toNat)]) ++ bytesE e167.M).length) c248,.bool true]) (i:=0 + 0) hs250 (v:=.slice A247 (((q2 ++ [((e167.From % 256).toNat)]) ++ bytesE e167.M).length) c248) (.tmp rfl rfl) (.tmp rfl rfl) rfl (Nat.le_of_ble_eq_true rfl) one1 rfl) ?_
 rintro w251 hs253
 refine t_new (S':=fun u => St H u (obj g_q 58 [.slice A247 (((q2 ++ [((e167.From % 256).toNat)]) ++ bytesE e167.M).length) c248,.bool true]::row 5 1 (.slice A247 (((q2 ++ [((e167.From % 256).toNat)]) ++ bytesE e167.M).length) c248) (((q2 ++ [((e167.From % 256).toNat)]) ++ bytesE e167.M).length) (((q2 ++ [((e167.From % 256).toNat)]) ++ bytesE e167.M).map encB)::obj g228 5 [.int .u8 (((e167.From % 256).toNat:Nat):Int)]::obj g181 49 [.int .i64 e167.From,.slice A177 n178 c179]::L)) rfl hs253 ?_
 refine t_nil ?_
 refine n_block (n_then (c_region (st (v:=.int .i64 (((i + 1):Nat):Int)) (x_add (k:=.i64) (a:=((i:Nat):Int)) (b:=1) (.tmp rfl hρ164) .const ((w64 (by omega) (by omega)).trans (by omega))) ?_)))
 refine st (v:=.int .i64 (((i + 1):Nat):Int)) (x_move (.tmp rfl rfl)) ?_
 refine c_nil ?_
 refine n_then ⟨_,_,rfl,?_,(i + 1),.slice A247 (((q2 ++ [((e167.From % 256).toNat)]) ++ bytesE e167.M).length) c248,(q2 ++ [((e167.From % 256).toNat)]) ++ bytesE e167.M,true,hρ161,hρ162,hρ163,rfl,sm246,ok244,(by omega),(wr_bad hb2 hx171 (it_bad2 hc188 (by omega))),(wr_list hq2 hx171 (fun h9 => absurd h9 (by decide)) (fun _ => it_list)),(wr_len hn2 hx171 (by rw [it_list,List.length_append]; omega)),((((hs253.p2).drop.p2).drop.p1).p1),rfl⟩
 omega
 have hp221:¬ ((e167.From:Int) < 0):=of_decide_eq_false hc221
 refine g_yes (yk 39 false rfl rfl hc221) ?_
 refine st (v:=.pointer (some ⟨g181,0 + 0,none⟩)) (fa49_0 (.tmp rfl rfl)) ?_
 refine g_yes (yk 39 false rfl rfl hc221) ?_
 refine st (v:=.int .i64 e167.From) (ld3 (.tmp rfl rfl) (hs187.cell 0 rfl (0 + 0) rfl)) ?_
 refine g_yes (yk 39 false rfl rfl hc221) ?_
 refine st (v:=.bool (decide ((16:Int) ≤ e167.From))) (x_geq (k:=.i64) (a:=e167.From) (b:=16) (.tmp rfl rfl) .const) ?_
 refine st (v:=.bool (decide ((16:Int) ≤ e167.From))) (x_pick_f (.tmp rfl (cVb hc221)) (.tmp rfl rfl)) ?_
 refine st (v:=.pointer (some ⟨g_q,0,none⟩)) (x_nilCheck (.tmp rfl rfl)) ?_
 refine st (v:=.pointer (some ⟨g_q,0 + 1,none⟩)) (fa58_1 (.tmp rfl rfl)) ?_
 have hs254:=hs187.p1
 refine st_m0 (sto4 (cs':=[v2,.bool (decide ((16:Int) ≤ e167.From))]) (i:=0 + 1) hs254 (v:=.bool (decide ((16:Int) ≤ e167.From))) (.tmp rfl rfl) (.tmp rfl rfl) rfl (Nat.le_of_ble_eq_true rfl) one1 rfl) ?_
 rintro w255 hs257
 refine c_nil (n_then (t_region (L:=obj g_q 58 [v2,.bool (decide ((16:Int) ≤ e167.From))]::obj g181 49 [.int .i64 e167.From,.slice A177 n178 c179]::row 5 1 v2 q2.length (q2.map encB)::L) (L':=obj g_q 58 [v2,.bool (decide ((16:Int) ≤ e167.From))]::obj g181 49 [.int .i64 e167.From,.slice A177 n178 c179]::L) (Z:=[12,15]) (F:=[0,1,5]) (pl:=(.q 0 (.q 1 (.q 2 (.q 3 (.q 4 (.q 5 (.q 6 (.q 7 (.q 10 (.q 11 (.e 8 (.e 9 (.e 12 (.q 13 (.q 14 (.e 15 .done))))))))))))))))) mixed hs257 (fun u hu => (hu.p2).drop) (by kernel_rfl) ?_))
 intro w258 hs259
 have hfa:=flat_at (g:=itemE) hx171; have hil:=itemE_len e167; have hnl:=hn2; rw [List.length_append] at hnl; have hit:=itemsE_len l; have h10b:1 ≤ (bytesE e167.M).length:=by unfold bytesE; rw [List.length_append]; have:=uenc_pos e167.M.length; omega
 refine t_fr (k:=0) (v:=.pointer (some ⟨g_q,0,none⟩)) rfl (fun w _ => (x_move (.tmp rfl hρ161))) ?_
 refine t_fr (k:=1) (v:=.pointer (some ⟨g_q,0,none⟩)) rfl (fun w _ => (x_move (.tmp rfl hρ161))) ?_
 refine t_st (k:=2) (v:=.pointer (some ⟨g_q,0,none⟩)) rfl rfl (fun w hs => (x_nilCheck (.tmp rfl rfl))) ?_
 refine t_st (k:=3) (v:=.pointer (some ⟨g_q,0 + 0,none⟩)) rfl rfl (fun w hs => (fa58_0 (.tmp rfl rfl))) ?_
 refine t_st (k:=4) (v:=v2) rfl rfl (fun w hs => (ld33 (.tmp rfl rfl) (hs.cell 0 rfl (0 + 0) rfl))) ?_
 refine t_fr (k:=5) (v:=.pointer (some ⟨g181,0 + 0,none⟩)) rfl (fun w _ => (fa49_0 (.tmp rfl rfl))) ?_
 refine t_st (k:=6) (v:=.int .i64 e167.From) rfl rfl (fun w hs => (ld3 (.tmp rfl rfl) (hs.cell 1 rfl (0 + 0) rfl))) ?_
 refine t_st (k:=7) (v:=.int .u8 (((e167.From % 256).toNat:Nat):Int)) rfl rfl (fun w hs => (x_conv (k:=.i64) (a:=e167.From) Try.underlying3 Try.underlying5 (.tmp rfl rfl) (wrapU _ rfl _))) ?_
 refine t_st (k:=10) (v:=.pointer (some ⟨g181,0 + 1,none⟩)) rfl rfl (fun w hs => (fa49_1 (.tmp rfl rfl))) ?_
 refine t_st (k:=11) (v:=.slice A177 n178 c179) rfl rfl (fun w hs => (ld33 (.tmp rfl rfl) (hs.cell 1 rfl (0 + 1) rfl))) ?_
 refine t_eff (k:=8) rfl ?_
 refine st_m (m_lit (n:=1) (ps:=[(0,.int .u8 (((e167.From % 256).toNat:Nat):Int))]) (cs:=[.int .u8 (((e167.From % 256).toNat:Nat):Int)]) Try.underlying33 inf5 (.cons (.tmp rfl rfl) Evp.nil) (by decide) (by decide) rfl rfl hs259) ?_
 rintro _ w261 ⟨g260,rfl,hs263⟩
 refine t_on (S':=fun u => St H u (obj g260 5 [.int .u8 (((e167.From % 256).toNat:Nat):Int)]::obj g_q 58 [v2,.bool (decide ((16:Int) ≤ e167.From))]::obj g181 49 [.int .i64 e167.From,.slice A177 n178 c179]::L)) (fun u hu => hu.drop) (hs263.p3).drop ?_
 refine t_eff (k:=9) rfl ?_
 have hs264:=hs263.p3
 refine st_m (m_appAt (bs:=[((e167.From % 256).toNat)]) Try.underlying33 inf5 hs264 ok2 (.tmp rfl rfl) (.tmp rfl rfl) rfl (hs264.at_ 1 rfl 0 rfl) (by omega)) ?_
 rintro v265 w266 ⟨ok267,hs268⟩
 refine t_on (S':=fun u => St H u (obj g260 5 [.int .u8 (((e167.From % 256).toNat:Nat):Int)]::obj g_q 58 [v2,.bool (decide ((16:Int) ≤ e167.From))]::obj g181 49 [.int .i64 e167.From,.slice A177 n178 c179]::L)) (fun u hu => hu) hs268.drop ?_
 refine t_eff (k:=12) rfl ?_
 have hl269:(q2 ++ [((e167.From % 256).toNat)]) = (q2 ++ [((e167.From % 256).toNat)]):=rfl
 obtain ⟨hs270,ok271⟩:=St.relist hs268 ok267 hl269
 have sm272:Small (q2 ++ [((e167.From % 256).toNat)]):=by rw [← hl269]; exact (sm2.append (Small.cons (by omega) Small.nil))
 refine st_c cb26 .func (evs2 (.tmp rfl rfl) (.tmp rfl rfl)) (bytes_enc hs270 sm272 ok271 e167.M hy180 (by first | omega | (rw [List.length_append,List.length_singleton]; omega))) ?_
 rintro e w273 ⟨v275,rfl,sm278,ok276,hs274⟩
 refine ⟨_,rfl,?_⟩
 refine t_new (S':=fun u => St H u (row 5 1 v275 (((q2 ++ [((e167.From % 256).toNat)]) ++ bytesE e167.M).length) (((q2 ++ [((e167.From % 256).toNat)]) ++ bytesE e167.M).map encB)::obj g260 5 [.int .u8 (((e167.From % 256).toNat:Nat):Int)]::obj g_q 58 [v2,.bool (decide ((16:Int) ≤ e167.From))]::obj g181 49 [.int .i64 e167.From,.slice A177 n178 c179]::L)) rfl hs274 ?_
 refine t_st (k:=13) (v:=.pointer (some ⟨g_q,0,none⟩)) rfl rfl (fun w hs => (x_nilCheck (.tmp rfl rfl))) ?_
 refine t_st (k:=14) (v:=.pointer (some ⟨g_q,0 + 0,none⟩)) rfl rfl (fun w hs => (fa58_0 (.tmp rfl rfl))) ?_
 refine t_eff (k:=15) rfl ?_
 obtain ⟨A279,c280,rfl,hc281⟩:=ok276.slice
 have hs282:=hs274.p2
 refine st_m0 (sto33 (cs':=[.slice A279 (((q2 ++ [((e167.From % 256).toNat)]) ++ bytesE e167.M).length) c280,.bool (decide ((16:Int) ≤ e167.From))]) (i:=0 + 0) hs282 (v:=.slice A279 (((q2 ++ [((e167.From % 256).toNat)]) ++ bytesE e167.M).length) c280) (.tmp rfl rfl) (.tmp rfl rfl) rfl (Nat.le_of_ble_eq_true rfl) one1 rfl) ?_
 rintro w283 hs285
 refine t_new (S':=fun u => St H u (obj g_q 58 [.slice A279 (((q2 ++ [((e167.From % 256).toNat)]) ++ bytesE e167.M).length) c280,.bool (decide ((16:Int) ≤ e167.From))]::row 5 1 (.slice A279 (((q2 ++ [((e167.From % 256).toNat)]) ++ bytesE e167.M).length) c280) (((q2 ++ [((e167.From % 256).toNat)]) ++ bytesE e167.M).length) (((q2 ++ [((e167.From % 256).toNat)]) ++ bytesE e167.M).map encB)::obj g260 5 [.int .u8 (((e167.From % 256).toNat:Nat):Int)]::obj g181 49 [.int .i64 e167.From,.slice A177 n178 c179]::L)) rfl hs285 ?_
 refine t_nil ?_
 refine n_block (n_then (c_region (st (v:=.int .i64 (((i + 1):Nat):Int)) (x_add (k:=.i64) (a:=((i:Nat):Int)) (b:=1) (.tmp rfl hρ164) .const ((w64 (by omega) (by omega)).trans (by omega))) ?_)))
 refine st (v:=.int .i64 (((i + 1):Nat):Int)) (x_move (.tmp rfl rfl)) ?_
 refine c_nil ?_
 refine n_then ⟨_,_,rfl,?_,(i + 1),.slice A279 (((q2 ++ [((e167.From % 256).toNat)]) ++ bytesE e167.M).length) c280,(q2 ++ [((e167.From % 256).toNat)]) ++ bytesE e167.M,(decide ((16:Int) ≤ e167.From)),hρ161,hρ162,hρ163,rfl,sm278,ok276,(by omega),(wr_bad hb2 hx171 (it_bad3 hc188 (by omega))),(wr_list hq2 hx171 (fun _ => hc188) (fun _ => it_list)),(wr_len hn2 hx171 (by rw [it_list,List.length_append]; omega)),((((hs285.p2).drop.p2).drop.p1).p1),rfl⟩
 omega
 have hp166:¬ ((((i:Nat):Int):Int) < ((n_l:Nat):Int)):=of_decide_eq_false hc166
 refine c_cond_f (t:=false) (.tmp rfl (cVb hc166)) rfl ?_
 refine c_exit (x_then (x_then (x_here (leave_end (res_none rfl) ?_))))
 exact ⟨v2,q2,b2,rfl,sm2,ok2,(by rw [hb2,List.take_of_length_le (show l.length ≤ i by omega)]; rfl),(fun h => by rw [hq2 h,List.take_of_length_le (show l.length ≤ i by omega)]; rfl),(by have h9:=hn2; rw [List.take_of_length_le (show l.length ≤ i by omega)] at h9; exact h9),((hs165.p1).p1)⟩
set_option maxHeartbeats 8000000 in
theorem wstates_spec {H:Hp} {w:World} {L:List Res} {g_q:Nat} {v_q:Value} {q:List Nat} {b_q:Bool} (hs:St H w (obj g_q 58 [v_q,.bool b_q]::row 5 1 v_q q.length (q.map encB)::L)) (sm_q:Small q) (ok_q:RowOk 1 v_q q.length (q.map encB)) {A_l:Option Addr} {n_l c_l:Nat} (l:(List GState)) (h_l:Sl kState H A_l n_l c_l l) (hroom:q.length + (statesE l).length ≤ 140737488350000):Calls Try.prog 25 #[.pointer (some ⟨g_q,0,none⟩),.slice A_l n_l c_l] w (fun e w' => ∃ (v_q':Value) (q':List Nat) (b_q':Bool),e = .returned (.tuple #[])∧Small q'∧RowOk 1 v_q' q'.length (q'.map encB)∧b_q' = (b_q || !okStates l)∧(b_q' = false → q' = q ++ statesE l)∧q'.length ≤ q.length + (statesE l).length∧St H w' (obj g_q 58 [v_q',.bool b_q']::row 5 1 v_q' q'.length (q'.map encB)::L)):=by
 have:=h_l.len; have:=h_l.le; have:n_l * 48 ≤ 140737488351232:=h_l.bnd
 refine enter (args:=[.pointer (some ⟨g_q,0,none⟩),.slice A_l n_l c_l]) (N:=55) Try.func25 rfl rfl rfl ?_
 refine c_seq (c_region (st (v:=.pointer (some ⟨g_q,0,none⟩)) (x_move (.tmp rfl rfl)) ?_))
 refine st (v:=.pointer (some ⟨g_q,0,none⟩)) (x_move (.tmp rfl rfl)) ?_
 refine st (v:=.pointer (some ⟨g_q,0,none⟩)) (x_nilCheck (.tmp rfl rfl)) ?_
 refine st (v:=.pointer (some ⟨g_q,0 + 1,none⟩)) (fa58_1 (.tmp rfl rfl)) ?_
 refine st (v:=.bool b_q) (ld4 (.tmp rfl rfl) (hs.cell 0 rfl (0 + 1) rfl)) ?_
 refine st (v:=.bool b_q) (x_move (.tmp rfl rfl)) ?_
 rcases Bool.eq_false_or_eq_true b_q with hc1 | hc1
 refine g_no (yk 11 true rfl rfl hc1) rfl ?_
 refine g_no (yk 11 true rfl rfl hc1) rfl ?_
 refine g_no (yk 11 true rfl rfl hc1) rfl ?_
 refine st (v:=.bool true) (x_pick_t (.tmp rfl (cVb hc1)) .const) ?_
 refine st (v:=.pointer (some ⟨g_q,0,none⟩)) (x_nilCheck (.tmp rfl rfl)) ?_
 refine st (v:=.pointer (some ⟨g_q,0 + 1,none⟩)) (fa58_1 (.tmp rfl rfl)) ?_
 refine st_m0 (sto4 (cs':=[v_q,.bool true]) (i:=0 + 1) hs (v:=.bool true) (.tmp rfl rfl) (.tmp rfl rfl) rfl (Nat.le_of_ble_eq_true rfl) one1 rfl) ?_
 rintro w2 hs4
 refine c_nil (n_then (c_seq (c_region ?_)))
 have hit:=statesE_len l; have hln:l.length = n_l:=h_l.len; rw [hln] at hit
 refine st (v:=.pointer (some ⟨g_q,0,none⟩)) (x_move (.tmp rfl rfl)) ?_
 refine st (v:=.slice A_l n_l c_l) (x_move (.tmp rfl rfl)) ?_
 refine st (v:=.int .i64 ((n_l:Nat):Int)) (x_len (n:=n_l) Try.underlying26 (.tmp rfl rfl)) ?_
 have hb5:n_l < 18446744073709551616:=by omega
 refine st (v:=.int .u64 ((n_l:Nat):Int)) (x_conv (k:=.i64) (a:=((n_l:Nat):Int)) Try.underlying3 Try.underlying22 (.tmp rfl rfl) (wU rfl rfl hb5)) ?_
 have hs6:=hs4.p1
 have hs7:=hs6.p1
 refine st_c cb24 .func (evs2 (.tmp rfl rfl) (.tmp rfl rfl)) (num_spec hs7 sm_q ok_q n_l hb5 (by first | omega | (rw [List.length_append,List.length_singleton]; omega))) ?_
 rintro e w8 ⟨v10,q11,b12,rfl,sm13,ok14,hb15,hq16,hn17,hs9⟩
 refine ⟨_,rfl,?_⟩
 refine c_nil (n_then (c_seq (c_region (st (v:=.slice A_l n_l c_l) (x_move (.tmp rfl rfl)) ?_))))
 refine st (v:=.int .i64 ((n_l:Nat):Int)) (x_len (n:=n_l) Try.underlying26 (.tmp rfl rfl)) ?_
 refine st (v:=.int .i64 0) (x_move .const) ?_
 refine c_nil (n_then (c_block ?_))
 rw [show n_l = l.length from h_l.len.symm] at hq16 hn17
 refine c_loop (fun ρ w mm => ∃ (i:Nat) (v2:Value) (q2:List Nat) (b2:Bool),ρ 0 = .pointer (some ⟨g_q,0,none⟩)∧ρ 23 = .slice A_l n_l c_l∧ρ 24 = .int .i64 ((n_l:Nat):Int)∧ρ 25 = .int .i64 ((i:Nat):Int)∧(Small q2)∧(RowOk 1 v2 q2.length (q2.map encB))∧(i ≤ n_l)∧(b2 = (b_q || !(decide (l.length ≤ 4096) && (l.take i).all okState)))∧(b2 = false → q2 = q ++ (uenc l.length ++ (l.take i).flatMap stateE))∧(q2.length ≤ q.length + (uenc l.length ++ (l.take i).flatMap stateE).length)∧St H w (obj g_q 58 [v2,.bool b2]::row 5 1 v2 q2.length (q2.map encB)::L)∧mm = n_l - i) _ ⟨0,v10,q11,b12,rfl,rfl,rfl,rfl,sm13,ok14,(by omega),(wr_start hb15 (wr0t hc1)),(wr_start2 hq16),(wr_start3 hn17),((hs9.p1).p1),rfl⟩ ?_
 rintro ρ w mm ⟨i,v2,q2,b2,hρ19,hρ20,hρ21,hρ22,sm2,ok2,hi,hb2,hq2,hn2,hs23,rfl⟩
 refine c_seq (c_region (st (v:=.bool (decide ((((i:Nat):Int):Int) < ((n_l:Nat):Int)))) (x_lss (k:=.i64) (a:=((i:Nat):Int)) (b:=((n_l:Nat):Int)) (.tmp rfl hρ22) (.tmp rfl hρ21)) ?_))
 refine c_nil (n_then (c_seq ?_))
 rcases Bool.eq_false_or_eq_true (decide ((((i:Nat):Int):Int) < ((n_l:Nat):Int))) with hc24 | hc24
 have hp24:(((i:Nat):Int):Int) < ((n_l:Nat):Int):=of_decide_eq_true hc24
 refine c_cond_t (t:=true) (.tmp rfl (cVb hc24)) rfl ?_
 refine c_skip (n_then (c_seq (c_block (c_seq (c_region ?_)))))
 obtain ⟨e25,b26,o27,cs28,hx29,hA30,hr31,hat32⟩:=h_l.get (i:=i) (by omega)
 obtain ⟨A38,n39,c40,rfl,b33,⟨b34,b35⟩,⟨b36,b37⟩,hl41⟩:=hr31
 have:=hl41.len; have:n39 * 32 ≤ 140737488351232:=hl41.bnd; have:=hl41.le
 have hat32x:∀ {w:World} {L:List Res},St H w L → At w ⟨b26,o27 + i * 4,none⟩ [.int .u64 ((e25.V.N:Nat):Int),.int .i64 e25.V.P,.int .i64 e25.Floor,.slice A38 n39 c40]:=fun h => hat32 h
 refine st (v:=.pointer (some ⟨b26,(o27 + i * 4),none⟩)) (ixo26 (.tmp rfl hρ20) hA30 (i:=((i:Nat):Int)) (.tmp rfl hρ22) (by omega) (by omega) (by omega)) ?_
 refine st (v:=.agg #[.int .u64 ((e25.V.N:Nat):Int),.int .i64 e25.V.P,.int .i64 e25.Floor,.slice A38 n39 c40]) (ld52 (cs:=[.int .u64 ((e25.V.N:Nat):Int),.int .i64 e25.V.P,.int .i64 e25.Floor,.slice A38 n39 c40]) (.tmp rfl rfl) ((hat32x hs23).sub 0 rfl) rfl) ?_
 refine st_m (al52 (cs:=[.int .u64 0,.int .i64 0,.int .i64 0,.slice none 0 0]) hs23 rfl) ?_
 rintro _ w43 ⟨g42,rfl,hs45⟩
 refine st_m0 (sto52 (cs':=[.int .u64 ((e25.V.N:Nat):Int),.int .i64 e25.V.P,.int .i64 e25.Floor,.slice A38 n39 c40]) (i:=0) hs45 (v:=.agg #[.int .u64 ((e25.V.N:Nat):Int),.int .i64 e25.V.P,.int .i64 e25.Floor,.slice A38 n39 c40]) (.tmp rfl rfl) (.tmp rfl rfl) rfl (Nat.le_of_ble_eq_true rfl) (oneA rfl) rfl) ?_
 rintro w46 hs48
 refine c_nil (n_then (c_seq (c_region (st (v:=.pointer (some ⟨g_q,0,none⟩)) (x_move (.tmp rfl hρ19)) ?_))))
 refine st (v:=.pointer (some ⟨g_q,0,none⟩)) (x_move (.tmp rfl hρ19)) ?_
 refine st (v:=.pointer (some ⟨g_q,0,none⟩)) (x_nilCheck (.tmp rfl rfl)) ?_
 refine st (v:=.pointer (some ⟨g_q,0 + 1,none⟩)) (fa58_1 (.tmp rfl rfl)) ?_
 refine st (v:=.bool b2) (ld4 (.tmp rfl rfl) (hs48.cell 1 rfl (0 + 1) rfl)) ?_
 refine st (v:=.bool b2) (x_move (.tmp rfl rfl)) ?_
 rcases Bool.eq_false_or_eq_true b2 with hc49 | hc49
 refine g_no (yk 34 true rfl rfl hc49) rfl ?_
 refine g_no (yk 34 true rfl rfl hc49) rfl ?_
 refine g_no (yk 34 true rfl rfl hc49) rfl ?_
 refine st (v:=.bool true) (x_pick_t (.tmp rfl (cVb hc49)) .const) ?_
 refine st (v:=.pointer (some ⟨g_q,0,none⟩)) (x_nilCheck (.tmp rfl rfl)) ?_
 refine st (v:=.pointer (some ⟨g_q,0 + 1,none⟩)) (fa58_1 (.tmp rfl rfl)) ?_
 have hs50:=hs48.p1
 refine st_m0 (sto4 (cs':=[v2,.bool true]) (i:=0 + 1) hs50 (v:=.bool true) (.tmp rfl rfl) (.tmp rfl rfl) rfl (Nat.le_of_ble_eq_true rfl) one1 rfl) ?_
 rintro w51 hs53
 refine c_nil (n_then (c_seq (c_region ?_)))
 have hfa:=flat_at (g:=stateE) hx29; have hil:=stateE_len e25; have hnl:=hn2; rw [List.length_append] at hnl; have hit:=statesE_len l
 skip
 refine st (v:=.pointer (some ⟨g_q,0,none⟩)) (x_move (.tmp rfl hρ19)) ?_
 refine st (v:=.pointer (some ⟨g42,0 + 0,none⟩)) (fa52_0 (.tmp rfl rfl)) ?_
 refine st (v:=.agg #[.int .u64 ((e25.V.N:Nat):Int),.int .i64 e25.V.P]) (ld24 (cs:=[.int .u64 ((e25.V.N:Nat):Int),.int .i64 e25.V.P]) (.tmp rfl rfl) (hs53.at_ 1 rfl (0 + 0) rfl) rfl) ?_
 have hs54:=hs53.p2
 have hs55:=hs54.p1
 have hr56:kViewID.rep H e25.V [.int .u64 ((e25.V.N:Nat):Int),.int .i64 e25.V.P]:=⟨rfl,b33,⟨b34,b35⟩⟩
 refine st_c cb23 .func (evs2 (.tmp rfl rfl) (.tmp rfl rfl)) (id_spec hs55 sm2 ok2 e25.V hr56 (by first | omega | (rw [List.length_append,List.length_singleton]; omega))) ?_
 rintro e w57 ⟨v59,q60,b61,rfl,sm62,ok63,hb64,hq65,hn66,hs58⟩
 refine ⟨_,rfl,?_⟩
 refine c_nil (n_then (c_seq (c_region ?_)))
 skip
 refine st (v:=.pointer (some ⟨g_q,0,none⟩)) (x_move (.tmp rfl hρ19)) ?_
 refine st (v:=.pointer (some ⟨g42,0 + 2,none⟩)) (fa52_1 (.tmp rfl rfl)) ?_
 refine st (v:=.int .i64 e25.Floor) (ld3 (.tmp rfl rfl) (hs58.cell 2 rfl (0 + 2) rfl)) ?_
 refine st (v:=.int .u64 (((e25.Floor % 18446744073709551616).toNat:Nat):Int)) (x_conv (k:=.i64) (a:=e25.Floor) Try.underlying3 Try.underlying22 (.tmp rfl rfl) (wrapU _ rfl _)) ?_
 have hs67:=hs58.p1
 have hs68:=hs67.p1
 refine st_c cb24 .func (evs2 (.tmp rfl rfl) (.tmp rfl rfl)) (num_spec hs68 sm62 ok63 ((e25.Floor % 18446744073709551616).toNat) (by omega) (by first | omega | (rw [List.length_append,List.length_singleton]; omega))) ?_
 rintro e w69 ⟨v71,q72,b73,rfl,sm74,ok75,hb76,hq77,hn78,hs70⟩
 refine ⟨_,rfl,?_⟩
 refine c_nil (n_then (c_region ?_))
 skip
 refine st (v:=.pointer (some ⟨g_q,0,none⟩)) (x_move (.tmp rfl hρ19)) ?_
 refine st (v:=.pointer (some ⟨g42,0 + 3,none⟩)) (fa52_2 (.tmp rfl rfl)) ?_
 refine st (v:=.slice A38 n39 c40) (ld28 (.tmp rfl rfl) (hs70.cell 2 rfl (0 + 3) rfl)) ?_
 have hs79:=hs70.p1
 have hs80:=hs79.p1
 refine st_c cb27 .func (evs2 (.tmp rfl rfl) (.tmp rfl rfl)) (witems_spec hs80 sm74 ok75 e25.Items hl41 (by first | omega | (rw [List.length_append,List.length_singleton]; omega))) ?_
 rintro e w81 ⟨v83,q84,b85,rfl,sm86,ok87,hb88,hq89,hn90,hs82⟩
 refine ⟨_,rfl,?_⟩
 refine c_nil (n_block (n_then (c_region ?_)))
 skip
 refine st (v:=.int .i64 (((i + 1):Nat):Int)) (x_add (k:=.i64) (a:=((i:Nat):Int)) (b:=1) (.tmp rfl hρ22) .const ((w64 (by omega) (by omega)).trans (by omega))) ?_
 refine st (v:=.int .i64 (((i + 1):Nat):Int)) (x_move (.tmp rfl rfl)) ?_
 refine c_nil ?_
 refine n_then ⟨_,_,rfl,?_,(i + 1),v83,q84,b85,hρ19,hρ20,hρ21,rfl,sm86,ok87,(by omega),(wr_bad hb2 hx29 (st_bad (st0t hc49) hb64 hb76 hb88)),(wr_list hq2 hx29 (fun h9 => or_left (st_bad (st0t hc49) hb64 hb76 hb88) h9) (st_list hb64 hb76 hb88 hq65 hq77 hq89)),(wr_len hn2 hx29 (by rw [stateE_len]; omega)),(((hs82.p2).drop.p1).p1),rfl⟩
 omega
 refine g_yes (yk 34 false rfl rfl hc49) ?_
 refine st (v:=.agg #[.int .u64 ((e25.V.N:Nat):Int),.int .i64 e25.V.P,.int .i64 e25.Floor,.slice A38 n39 c40]) (ld52 (cs:=[.int .u64 ((e25.V.N:Nat):Int),.int .i64 e25.V.P,.int .i64 e25.Floor,.slice A38 n39 c40]) (.tmp rfl rfl) (hs48.at_ 0 rfl (0) rfl) rfl) ?_
 refine g_yes (yk 34 false rfl rfl hc49) ?_
 have hr91:kState.rep H e25 [.int .u64 ((e25.V.N:Nat):Int),.int .i64 e25.V.P,.int .i64 e25.Floor,.slice A38 n39 c40]:=⟨A38,n39,c40,rfl,b33,⟨b34,b35⟩,⟨b36,b37⟩,hl41⟩
 refine st_c cb57 .func (evs1 (.tmp rfl rfl)) (cform_spec hs48 e25 hr91 ) ?_
 rintro e w92 ⟨rfl,hs93⟩
 refine ⟨_,rfl,?_⟩
 refine g_yes (yk 34 false rfl rfl hc49) ?_
 refine st (v:=.bool (!(sForm e25))) (x_not (.tmp rfl rfl)) ?_
 refine st (v:=.bool (!(sForm e25))) (x_pick_f (.tmp rfl (cVb hc49)) (.tmp rfl rfl)) ?_
 refine st (v:=.pointer (some ⟨g_q,0,none⟩)) (x_nilCheck (.tmp rfl rfl)) ?_
 refine st (v:=.pointer (some ⟨g_q,0 + 1,none⟩)) (fa58_1 (.tmp rfl rfl)) ?_
 have hs94:=hs93.p1
 refine st_m0 (sto4 (cs':=[v2,.bool (!(sForm e25))]) (i:=0 + 1) hs94 (v:=.bool (!(sForm e25))) (.tmp rfl rfl) (.tmp rfl rfl) rfl (Nat.le_of_ble_eq_true rfl) one1 rfl) ?_
 rintro w95 hs97
 refine c_nil (n_then (c_seq (c_region ?_)))
 have hfa:=flat_at (g:=stateE) hx29; have hil:=stateE_len e25; have hnl:=hn2; rw [List.length_append] at hnl; have hit:=statesE_len l
 skip
 refine st (v:=.pointer (some ⟨g_q,0,none⟩)) (x_move (.tmp rfl hρ19)) ?_
 refine st (v:=.pointer (some ⟨g42,0 + 0,none⟩)) (fa52_0 (.tmp rfl rfl)) ?_
 refine st (v:=.agg #[.int .u64 ((e25.V.N:Nat):Int),.int .i64 e25.V.P]) (ld24 (cs:=[.int .u64 ((e25.V.N:Nat):Int),.int .i64 e25.V.P]) (.tmp rfl rfl) (hs97.at_ 1 rfl (0 + 0) rfl) rfl) ?_
 have hs98:=hs97.p2
 have hs99:=hs98.p1
 have hr100:kViewID.rep H e25.V [.int .u64 ((e25.V.N:Nat):Int),.int .i64 e25.V.P]:=⟨rfl,b33,⟨b34,b35⟩⟩
 refine st_c cb23 .func (evs2 (.tmp rfl rfl) (.tmp rfl rfl)) (id_spec hs99 sm2 ok2 e25.V hr100 (by first | omega | (rw [List.length_append,List.length_singleton]; omega))) ?_
 rintro e w101 ⟨v103,q104,b105,rfl,sm106,ok107,hb108,hq109,hn110,hs102⟩
 refine ⟨_,rfl,?_⟩
 refine c_nil (n_then (c_seq (c_region ?_)))
 skip
 refine st (v:=.pointer (some ⟨g_q,0,none⟩)) (x_move (.tmp rfl hρ19)) ?_
 refine st (v:=.pointer (some ⟨g42,0 + 2,none⟩)) (fa52_1 (.tmp rfl rfl)) ?_
 refine st (v:=.int .i64 e25.Floor) (ld3 (.tmp rfl rfl) (hs102.cell 2 rfl (0 + 2) rfl)) ?_
 refine st (v:=.int .u64 (((e25.Floor % 18446744073709551616).toNat:Nat):Int)) (x_conv (k:=.i64) (a:=e25.Floor) Try.underlying3 Try.underlying22 (.tmp rfl rfl) (wrapU _ rfl _)) ?_
 have hs111:=hs102.p1
 have hs112:=hs111.p1
 refine st_c cb24 .func (evs2 (.tmp rfl rfl) (.tmp rfl rfl)) (num_spec hs112 sm106 ok107 ((e25.Floor % 18446744073709551616).toNat) (by omega) (by first | omega | (rw [List.length_append,List.length_singleton]; omega))) ?_
 rintro e w113 ⟨v115,q116,b117,rfl,sm118,ok119,hb120,hq121,hn122,hs114⟩
 refine ⟨_,rfl,?_⟩
 refine c_nil (n_then (c_region ?_))
 skip
 refine st (v:=.pointer (some ⟨g_q,0,none⟩)) (x_move (.tmp rfl hρ19)) ?_
 refine st (v:=.pointer (some ⟨g42,0 + 3,none⟩)) (fa52_2 (.tmp rfl rfl)) ?_
 refine st (v:=.slice A38 n39 c40) (ld28 (.tmp rfl rfl) (hs114.cell 2 rfl (0 + 3) rfl)) ?_
 have hs123:=hs114.p1
 have hs124:=hs123.p1
 refine st_c cb27 .func (evs2 (.tmp rfl rfl) (.tmp rfl rfl)) (witems_spec hs124 sm118 ok119 e25.Items hl41 (by first | omega | (rw [List.length_append,List.length_singleton]; omega))) ?_
 rintro e w125 ⟨v127,q128,b129,rfl,sm130,ok131,hb132,hq133,hn134,hs126⟩
 refine ⟨_,rfl,?_⟩
 refine c_nil (n_block (n_then (c_region ?_)))
 skip
 refine st (v:=.int .i64 (((i + 1):Nat):Int)) (x_add (k:=.i64) (a:=((i:Nat):Int)) (b:=1) (.tmp rfl hρ22) .const ((w64 (by omega) (by omega)).trans (by omega))) ?_
 refine st (v:=.int .i64 (((i + 1):Nat):Int)) (x_move (.tmp rfl rfl)) ?_
 refine c_nil ?_
 refine n_then ⟨_,_,rfl,?_,(i + 1),v127,q128,b129,hρ19,hρ20,hρ21,rfl,sm130,ok131,(by omega),(wr_bad hb2 hx29 (st_bad (st0f hc49) hb108 hb120 hb132)),(wr_list hq2 hx29 (fun h9 => or_left (st_bad (st0f hc49) hb108 hb120 hb132) h9) (st_list hb108 hb120 hb132 hq109 hq121 hq133)),(wr_len hn2 hx29 (by rw [stateE_len]; omega)),(((hs126.p2).drop.p1).p1),rfl⟩
 omega
 have hp24:¬ ((((i:Nat):Int):Int) < ((n_l:Nat):Int)):=of_decide_eq_false hc24
 refine c_cond_f (t:=false) (.tmp rfl (cVb hc24)) rfl ?_
 refine c_exit (x_then (x_then (x_here (leave_end (res_none rfl) ?_))))
 exact ⟨v2,q2,b2,rfl,sm2,ok2,(by rw [hb2,List.take_of_length_le (show l.length ≤ i by omega)]; rfl),(fun h => by rw [hq2 h,List.take_of_length_le (show l.length ≤ i by omega)]; rfl),(by have h9:=hn2; rw [List.take_of_length_le (show l.length ≤ i by omega)] at h9; exact h9),((hs23.p1).p1)⟩
 refine g_yes (yk 11 false rfl rfl hc1) ?_
 refine st (v:=.slice A_l n_l c_l) (x_move (.tmp rfl rfl)) ?_
 refine g_yes (yk 11 false rfl rfl hc1) ?_
 refine st (v:=.int .i64 ((n_l:Nat):Int)) (x_len (n:=n_l) Try.underlying26 (.tmp rfl rfl)) ?_
 refine g_yes (yk 11 false rfl rfl hc1) ?_
 refine st (v:=.bool (decide ((4096:Int) < ((n_l:Nat):Int)))) (x_gtr (k:=.i64) (a:=((n_l:Nat):Int)) (b:=4096) (.tmp rfl rfl) .const) ?_
 refine st (v:=.bool (decide ((4096:Int) < ((n_l:Nat):Int)))) (x_pick_f (.tmp rfl (cVb hc1)) (.tmp rfl rfl)) ?_
 refine st (v:=.pointer (some ⟨g_q,0,none⟩)) (x_nilCheck (.tmp rfl rfl)) ?_
 refine st (v:=.pointer (some ⟨g_q,0 + 1,none⟩)) (fa58_1 (.tmp rfl rfl)) ?_
 refine st_m0 (sto4 (cs':=[v_q,.bool (decide ((4096:Int) < ((n_l:Nat):Int)))]) (i:=0 + 1) hs (v:=.bool (decide ((4096:Int) < ((n_l:Nat):Int)))) (.tmp rfl rfl) (.tmp rfl rfl) rfl (Nat.le_of_ble_eq_true rfl) one1 rfl) ?_
 rintro w135 hs137
 refine c_nil (n_then (c_seq (c_region ?_)))
 have hit:=statesE_len l; have hln:l.length = n_l:=h_l.len; rw [hln] at hit
 refine st (v:=.pointer (some ⟨g_q,0,none⟩)) (x_move (.tmp rfl rfl)) ?_
 refine st (v:=.slice A_l n_l c_l) (x_move (.tmp rfl rfl)) ?_
 refine st (v:=.int .i64 ((n_l:Nat):Int)) (x_len (n:=n_l) Try.underlying26 (.tmp rfl rfl)) ?_
 have hb138:n_l < 18446744073709551616:=by omega
 refine st (v:=.int .u64 ((n_l:Nat):Int)) (x_conv (k:=.i64) (a:=((n_l:Nat):Int)) Try.underlying3 Try.underlying22 (.tmp rfl rfl) (wU rfl rfl hb138)) ?_
 have hs139:=hs137.p1
 have hs140:=hs139.p1
 refine st_c cb24 .func (evs2 (.tmp rfl rfl) (.tmp rfl rfl)) (num_spec hs140 sm_q ok_q n_l hb138 (by first | omega | (rw [List.length_append,List.length_singleton]; omega))) ?_
 rintro e w141 ⟨v143,q144,b145,rfl,sm146,ok147,hb148,hq149,hn150,hs142⟩
 refine ⟨_,rfl,?_⟩
 refine c_nil (n_then (c_seq (c_region (st (v:=.slice A_l n_l c_l) (x_move (.tmp rfl rfl)) ?_))))
 refine st (v:=.int .i64 ((n_l:Nat):Int)) (x_len (n:=n_l) Try.underlying26 (.tmp rfl rfl)) ?_
 refine st (v:=.int .i64 0) (x_move .const) ?_
 refine c_nil (n_then (c_block ?_))
 rw [show n_l = l.length from h_l.len.symm] at hq149 hn150
 refine c_loop (fun ρ w mm => ∃ (i:Nat) (v2:Value) (q2:List Nat) (b2:Bool),ρ 0 = .pointer (some ⟨g_q,0,none⟩)∧ρ 23 = .slice A_l n_l c_l∧ρ 24 = .int .i64 ((n_l:Nat):Int)∧ρ 25 = .int .i64 ((i:Nat):Int)∧(Small q2)∧(RowOk 1 v2 q2.length (q2.map encB))∧(i ≤ n_l)∧(b2 = (b_q || !(decide (l.length ≤ 4096) && (l.take i).all okState)))∧(b2 = false → q2 = q ++ (uenc l.length ++ (l.take i).flatMap stateE))∧(q2.length ≤ q.length + (uenc l.length ++ (l.take i).flatMap stateE).length)∧St H w (obj g_q 58 [v2,.bool b2]::row 5 1 v2 q2.length (q2.map encB)::L)∧mm = n_l - i) _ ⟨0,v143,q144,b145,rfl,rfl,rfl,rfl,sm146,ok147,(by omega),(wr_start hb148 (wr0f hc1 (by omega))),(wr_start2 hq149),(wr_start3 hn150),((hs142.p1).p1),rfl⟩ ?_
 rintro ρ w mm ⟨i,v2,q2,b2,hρ152,hρ153,hρ154,hρ155,sm2,ok2,hi,hb2,hq2,hn2,hs156,rfl⟩
 refine c_seq (c_region (st (v:=.bool (decide ((((i:Nat):Int):Int) < ((n_l:Nat):Int)))) (x_lss (k:=.i64) (a:=((i:Nat):Int)) (b:=((n_l:Nat):Int)) (.tmp rfl hρ155) (.tmp rfl hρ154)) ?_))
 refine c_nil (n_then (c_seq ?_))
 rcases Bool.eq_false_or_eq_true (decide ((((i:Nat):Int):Int) < ((n_l:Nat):Int))) with hc157 | hc157
 have hp157:(((i:Nat):Int):Int) < ((n_l:Nat):Int):=of_decide_eq_true hc157
 refine c_cond_t (t:=true) (.tmp rfl (cVb hc157)) rfl ?_
 refine c_skip (n_then (c_seq (c_block (c_seq (c_region ?_)))))
 obtain ⟨e158,b159,o160,cs161,hx162,hA163,hr164,hat165⟩:=h_l.get (i:=i) (by omega)
 obtain ⟨A171,n172,c173,rfl,b166,⟨b167,b168⟩,⟨b169,b170⟩,hl174⟩:=hr164
 have:=hl174.len; have:n172 * 32 ≤ 140737488351232:=hl174.bnd; have:=hl174.le
 have hat165x:∀ {w:World} {L:List Res},St H w L → At w ⟨b159,o160 + i * 4,none⟩ [.int .u64 ((e158.V.N:Nat):Int),.int .i64 e158.V.P,.int .i64 e158.Floor,.slice A171 n172 c173]:=fun h => hat165 h
 refine st (v:=.pointer (some ⟨b159,(o160 + i * 4),none⟩)) (ixo26 (.tmp rfl hρ153) hA163 (i:=((i:Nat):Int)) (.tmp rfl hρ155) (by omega) (by omega) (by omega)) ?_
 refine st (v:=.agg #[.int .u64 ((e158.V.N:Nat):Int),.int .i64 e158.V.P,.int .i64 e158.Floor,.slice A171 n172 c173]) (ld52 (cs:=[.int .u64 ((e158.V.N:Nat):Int),.int .i64 e158.V.P,.int .i64 e158.Floor,.slice A171 n172 c173]) (.tmp rfl rfl) ((hat165x hs156).sub 0 rfl) rfl) ?_
 refine st_m (al52 (cs:=[.int .u64 0,.int .i64 0,.int .i64 0,.slice none 0 0]) hs156 rfl) ?_
 rintro _ w176 ⟨g175,rfl,hs178⟩
 refine st_m0 (sto52 (cs':=[.int .u64 ((e158.V.N:Nat):Int),.int .i64 e158.V.P,.int .i64 e158.Floor,.slice A171 n172 c173]) (i:=0) hs178 (v:=.agg #[.int .u64 ((e158.V.N:Nat):Int),.int .i64 e158.V.P,.int .i64 e158.Floor,.slice A171 n172 c173]) (.tmp rfl rfl) (.tmp rfl rfl) rfl (Nat.le_of_ble_eq_true rfl) (oneA rfl) rfl) ?_
 rintro w179 hs181
 refine c_nil (n_then (c_seq (c_region (st (v:=.pointer (some ⟨g_q,0,none⟩)) (x_move (.tmp rfl hρ152)) ?_))))
 refine st (v:=.pointer (some ⟨g_q,0,none⟩)) (x_move (.tmp rfl hρ152)) ?_
 refine st (v:=.pointer (some ⟨g_q,0,none⟩)) (x_nilCheck (.tmp rfl rfl)) ?_
 refine st (v:=.pointer (some ⟨g_q,0 + 1,none⟩)) (fa58_1 (.tmp rfl rfl)) ?_
 refine st (v:=.bool b2) (ld4 (.tmp rfl rfl) (hs181.cell 1 rfl (0 + 1) rfl)) ?_
 refine st (v:=.bool b2) (x_move (.tmp rfl rfl)) ?_
 rcases Bool.eq_false_or_eq_true b2 with hc182 | hc182
 refine g_no (yk 34 true rfl rfl hc182) rfl ?_
 refine g_no (yk 34 true rfl rfl hc182) rfl ?_
 refine g_no (yk 34 true rfl rfl hc182) rfl ?_
 refine st (v:=.bool true) (x_pick_t (.tmp rfl (cVb hc182)) .const) ?_
 refine st (v:=.pointer (some ⟨g_q,0,none⟩)) (x_nilCheck (.tmp rfl rfl)) ?_
 refine st (v:=.pointer (some ⟨g_q,0 + 1,none⟩)) (fa58_1 (.tmp rfl rfl)) ?_
 have hs183:=hs181.p1
 refine st_m0 (sto4 (cs':=[v2,.bool true]) (i:=0 + 1) hs183 (v:=.bool true) (.tmp rfl rfl) (.tmp rfl rfl) rfl (Nat.le_of_ble_eq_true rfl) one1 rfl) ?_
 rintro w184 hs186
 refine c_nil (n_then (c_seq (c_region ?_)))
 have hfa:=flat_at (g:=stateE) hx162; have hil:=stateE_len e158; have hnl:=hn2; rw [List.length_append] at hnl; have hit:=statesE_len l
 skip
 refine st (v:=.pointer (some ⟨g_q,0,none⟩)) (x_move (.tmp rfl hρ152)) ?_
 refine st (v:=.pointer (some ⟨g175,0 + 0,none⟩)) (fa52_0 (.tmp rfl rfl)) ?_
 refine st (v:=.agg #[.int .u64 ((e158.V.N:Nat):Int),.int .i64 e158.V.P]) (ld24 (cs:=[.int .u64 ((e158.V.N:Nat):Int),.int .i64 e158.V.P]) (.tmp rfl rfl) (hs186.at_ 1 rfl (0 + 0) rfl) rfl) ?_
 have hs187:=hs186.p2
 have hs188:=hs187.p1
 have hr189:kViewID.rep H e158.V [.int .u64 ((e158.V.N:Nat):Int),.int .i64 e158.V.P]:=⟨rfl,b166,⟨b167,b168⟩⟩
 refine st_c cb23 .func (evs2 (.tmp rfl rfl) (.tmp rfl rfl)) (id_spec hs188 sm2 ok2 e158.V hr189 (by first | omega | (rw [List.length_append,List.length_singleton]; omega))) ?_
 rintro e w190 ⟨v192,q193,b194,rfl,sm195,ok196,hb197,hq198,hn199,hs191⟩
 refine ⟨_,rfl,?_⟩
 refine c_nil (n_then (c_seq (c_region ?_)))
 skip
 refine st (v:=.pointer (some ⟨g_q,0,none⟩)) (x_move (.tmp rfl hρ152)) ?_
 refine st (v:=.pointer (some ⟨g175,0 + 2,none⟩)) (fa52_1 (.tmp rfl rfl)) ?_
 refine st (v:=.int .i64 e158.Floor) (ld3 (.tmp rfl rfl) (hs191.cell 2 rfl (0 + 2) rfl)) ?_
 refine st (v:=.int .u64 (((e158.Floor % 18446744073709551616).toNat:Nat):Int)) (x_conv (k:=.i64) (a:=e158.Floor) Try.underlying3 Try.underlying22 (.tmp rfl rfl) (wrapU _ rfl _)) ?_
 have hs200:=hs191.p1
 have hs201:=hs200.p1
 refine st_c cb24 .func (evs2 (.tmp rfl rfl) (.tmp rfl rfl)) (num_spec hs201 sm195 ok196 ((e158.Floor % 18446744073709551616).toNat) (by omega) (by first | omega | (rw [List.length_append,List.length_singleton]; omega))) ?_
 rintro e w202 ⟨v204,q205,b206,rfl,sm207,ok208,hb209,hq210,hn211,hs203⟩
 refine ⟨_,rfl,?_⟩
 refine c_nil (n_then (c_region ?_))
 skip
 refine st (v:=.pointer (some ⟨g_q,0,none⟩)) (x_move (.tmp rfl hρ152)) ?_
 refine st (v:=.pointer (some ⟨g175,0 + 3,none⟩)) (fa52_2 (.tmp rfl rfl)) ?_
 refine st (v:=.slice A171 n172 c173) (ld28 (.tmp rfl rfl) (hs203.cell 2 rfl (0 + 3) rfl)) ?_
 have hs212:=hs203.p1
 have hs213:=hs212.p1
 refine st_c cb27 .func (evs2 (.tmp rfl rfl) (.tmp rfl rfl)) (witems_spec hs213 sm207 ok208 e158.Items hl174 (by first | omega | (rw [List.length_append,List.length_singleton]; omega))) ?_
 rintro e w214 ⟨v216,q217,b218,rfl,sm219,ok220,hb221,hq222,hn223,hs215⟩
 refine ⟨_,rfl,?_⟩
 refine c_nil (n_block (n_then (c_region ?_)))
 skip
 refine st (v:=.int .i64 (((i + 1):Nat):Int)) (x_add (k:=.i64) (a:=((i:Nat):Int)) (b:=1) (.tmp rfl hρ155) .const ((w64 (by omega) (by omega)).trans (by omega))) ?_
 refine st (v:=.int .i64 (((i + 1):Nat):Int)) (x_move (.tmp rfl rfl)) ?_
 refine c_nil ?_
 refine n_then ⟨_,_,rfl,?_,(i + 1),v216,q217,b218,hρ152,hρ153,hρ154,rfl,sm219,ok220,(by omega),(wr_bad hb2 hx162 (st_bad (st0t hc182) hb197 hb209 hb221)),(wr_list hq2 hx162 (fun h9 => or_left (st_bad (st0t hc182) hb197 hb209 hb221) h9) (st_list hb197 hb209 hb221 hq198 hq210 hq222)),(wr_len hn2 hx162 (by rw [stateE_len]; omega)),(((hs215.p2).drop.p1).p1),rfl⟩
 omega
 refine g_yes (yk 34 false rfl rfl hc182) ?_
 refine st (v:=.agg #[.int .u64 ((e158.V.N:Nat):Int),.int .i64 e158.V.P,.int .i64 e158.Floor,.slice A171 n172 c173]) (ld52 (cs:=[.int .u64 ((e158.V.N:Nat):Int),.int .i64 e158.V.P,.int .i64 e158.Floor,.slice A171 n172 c173]) (.tmp rfl rfl) (hs181.at_ 0 rfl (0) rfl) rfl) ?_
 refine g_yes (yk 34 false rfl rfl hc182) ?_
 have hr224:kState.rep H e158 [.int .u64 ((e158.V.N:Nat):Int),.int .i64 e158.V.P,.int .i64 e158.Floor,.slice A171 n172 c173]:=⟨A171,n172,c173,rfl,b166,⟨b167,b168⟩,⟨b169,b170⟩,hl174⟩
 refine st_c cb57 .func (evs1 (.tmp rfl rfl)) (cform_spec hs181 e158 hr224 ) ?_
 rintro e w225 ⟨rfl,hs226⟩
 refine ⟨_,rfl,?_⟩
 refine g_yes (yk 34 false rfl rfl hc182) ?_
 refine st (v:=.bool (!(sForm e158))) (x_not (.tmp rfl rfl)) ?_
 refine st (v:=.bool (!(sForm e158))) (x_pick_f (.tmp rfl (cVb hc182)) (.tmp rfl rfl)) ?_
 refine st (v:=.pointer (some ⟨g_q,0,none⟩)) (x_nilCheck (.tmp rfl rfl)) ?_
 refine st (v:=.pointer (some ⟨g_q,0 + 1,none⟩)) (fa58_1 (.tmp rfl rfl)) ?_
 have hs227:=hs226.p1
 refine st_m0 (sto4 (cs':=[v2,.bool (!(sForm e158))]) (i:=0 + 1) hs227 (v:=.bool (!(sForm e158))) (.tmp rfl rfl) (.tmp rfl rfl) rfl (Nat.le_of_ble_eq_true rfl) one1 rfl) ?_
 rintro w228 hs230
 refine c_nil (n_then (c_seq (c_region ?_)))
 have hfa:=flat_at (g:=stateE) hx162; have hil:=stateE_len e158; have hnl:=hn2; rw [List.length_append] at hnl; have hit:=statesE_len l
 skip
 refine st (v:=.pointer (some ⟨g_q,0,none⟩)) (x_move (.tmp rfl hρ152)) ?_
 refine st (v:=.pointer (some ⟨g175,0 + 0,none⟩)) (fa52_0 (.tmp rfl rfl)) ?_
 refine st (v:=.agg #[.int .u64 ((e158.V.N:Nat):Int),.int .i64 e158.V.P]) (ld24 (cs:=[.int .u64 ((e158.V.N:Nat):Int),.int .i64 e158.V.P]) (.tmp rfl rfl) (hs230.at_ 1 rfl (0 + 0) rfl) rfl) ?_
 have hs231:=hs230.p2
 have hs232:=hs231.p1
 have hr233:kViewID.rep H e158.V [.int .u64 ((e158.V.N:Nat):Int),.int .i64 e158.V.P]:=⟨rfl,b166,⟨b167,b168⟩⟩
 refine st_c cb23 .func (evs2 (.tmp rfl rfl) (.tmp rfl rfl)) (id_spec hs232 sm2 ok2 e158.V hr233 (by first | omega | (rw [List.length_append,List.length_singleton]; omega))) ?_
 rintro e w234 ⟨v236,q237,b238,rfl,sm239,ok240,hb241,hq242,hn243,hs235⟩
 refine ⟨_,rfl,?_⟩
 refine c_nil (n_then (c_seq (c_region ?_)))
 skip
 refine st (v:=.pointer (some ⟨g_q,0,none⟩)) (x_move (.tmp rfl hρ152)) ?_
 refine st (v:=.pointer (some ⟨g175,0 + 2,none⟩)) (fa52_1 (.tmp rfl rfl)) ?_
 refine st (v:=.int .i64 e158.Floor) (ld3 (.tmp rfl rfl) (hs235.cell 2 rfl (0 + 2) rfl)) ?_
 refine st (v:=.int .u64 (((e158.Floor % 18446744073709551616).toNat:Nat):Int)) (x_conv (k:=.i64) (a:=e158.Floor) Try.underlying3 Try.underlying22 (.tmp rfl rfl) (wrapU _ rfl _)) ?_
 have hs244:=hs235.p1
 have hs245:=hs244.p1
 refine st_c cb24 .func (evs2 (.tmp rfl rfl) (.tmp rfl rfl)) (num_spec hs245 sm239 ok240 ((e158.Floor % 18446744073709551616).toNat) (by omega) (by first | omega | (rw [List.length_append,List.length_singleton]; omega))) ?_
 rintro e w246 ⟨v248,q249,b250,rfl,sm251,ok252,hb253,hq254,hn255,hs247⟩
 refine ⟨_,rfl,?_⟩
 refine c_nil (n_then (c_region ?_))
 skip
 refine st (v:=.pointer (some ⟨g_q,0,none⟩)) (x_move (.tmp rfl hρ152)) ?_
 refine st (v:=.pointer (some ⟨g175,0 + 3,none⟩)) (fa52_2 (.tmp rfl rfl)) ?_
 refine st (v:=.slice A171 n172 c173) (ld28 (.tmp rfl rfl) (hs247.cell 2 rfl (0 + 3) rfl)) ?_
 have hs256:=hs247.p1
 have hs257:=hs256.p1
 refine st_c cb27 .func (evs2 (.tmp rfl rfl) (.tmp rfl rfl)) (witems_spec hs257 sm251 ok252 e158.Items hl174 (by first | omega | (rw [List.length_append,List.length_singleton]; omega))) ?_
 rintro e w258 ⟨v260,q261,b262,rfl,sm263,ok264,hb265,hq266,hn267,hs259⟩
 refine ⟨_,rfl,?_⟩
 refine c_nil (n_block (n_then (c_region ?_)))
 skip
 refine st (v:=.int .i64 (((i + 1):Nat):Int)) (x_add (k:=.i64) (a:=((i:Nat):Int)) (b:=1) (.tmp rfl hρ155) .const ((w64 (by omega) (by omega)).trans (by omega))) ?_
 refine st (v:=.int .i64 (((i + 1):Nat):Int)) (x_move (.tmp rfl rfl)) ?_
 refine c_nil ?_
 refine n_then ⟨_,_,rfl,?_,(i + 1),v260,q261,b262,hρ152,hρ153,hρ154,rfl,sm263,ok264,(by omega),(wr_bad hb2 hx162 (st_bad (st0f hc182) hb241 hb253 hb265)),(wr_list hq2 hx162 (fun h9 => or_left (st_bad (st0f hc182) hb241 hb253 hb265) h9) (st_list hb241 hb253 hb265 hq242 hq254 hq266)),(wr_len hn2 hx162 (by rw [stateE_len]; omega)),(((hs259.p2).drop.p1).p1),rfl⟩
 omega
 have hp157:¬ ((((i:Nat):Int):Int) < ((n_l:Nat):Int)):=of_decide_eq_false hc157
 refine c_cond_f (t:=false) (.tmp rfl (cVb hc157)) rfl ?_
 refine c_exit (x_then (x_then (x_here (leave_end (res_none rfl) ?_))))
 exact ⟨v2,q2,b2,rfl,sm2,ok2,(by rw [hb2,List.take_of_length_le (show l.length ≤ i by omega)]; rfl),(fun h => by rw [hq2 h,List.take_of_length_le (show l.length ≤ i by omega)]; rfl),(by have h9:=hn2; rw [List.take_of_length_le (show l.length ≤ i by omega)] at h9; exact h9),((hs156.p1).p1)⟩
end Go.Proofs.Ytlfihfmmhhcigaa
