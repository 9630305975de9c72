/- Steps of the proofs over the functions of this seat, printed by a program (gen.py) and checked by Lean. -/
import Derived.Test.YtlfihfmmhhcigaaW02
import Derived.Test.YtlfihfmmhhcigaaW00
import Derived.Test.YtlfihfmmhhcigaaW01
import Derived.Test.YtlfihfmmhhcigaaW10
set_option linter.unusedVariables false
set_option linter.unusedSimpArgs false
namespace Go.Proofs.Ytlfihfmmhhcigaa
open Go Go.FM Go.Proofs
attribute [local irreducible] wpList wpQuiet wpS Code.wp Calls
set_option maxHeartbeats 8000000 in
theorem decode_spec {H:Hp} {w:World} {L:List Res} (hs:St H w (L)) {A_b:Option Addr} {n_b c_b:Nat} (b:List Nat) (h_b:By H A_b n_b c_b b):Calls Try.prog 15 #[.slice A_b n_b c_b] w (fun e w' => ∃ (H':Hp) (cs0:List Value),H.le H'∧e = .returned (.tuple #[.agg cs0.toArray,.int .i64 ((decA b).2)])∧kFrame.rep H' ((decA b).1) cs0∧St H' w' (L)):=by
 have:=h_b.len; have:=h_b.le; have:=h_b.bnd
 refine enter (args:=[.slice A_b n_b c_b]) (N:=171) Try.func15 rfl rfl rfl ?_
 refine c_seq (c_region (st_m (al30 (cs:=[.int .u8 0,.int .i64 0,.int .u64 0,.int .i64 0,.int .u16 0,.int .u64 0,.int .i64 0,.int .u64 0,.int .i64 0,.slice none 0 0,.int .u64 0,.slice none 0 0,.slice none 0 0,.int .u64 0,.int .u64 0]) hs rfl) ?_))
 rintro _ w2 ⟨g1,rfl,hs4⟩
 refine st (v:=.int .i64 0) (x_assign .const) ?_
 refine c_nil (n_then (c_seq (c_seq (c_region (st (v:=.slice A_b n_b c_b) (x_move (.tmp rfl rfl)) ?_)))))
 refine st (v:=.int .i64 ((n_b:Nat):Int)) (x_len (n:=n_b) Try.underlying33 (.tmp rfl rfl)) ?_
 refine st (v:=.bool (decide ((1048576:Int) < ((n_b:Nat):Int)))) (x_gtr (k:=.i64) (a:=((n_b:Nat):Int)) (b:=1048576) (.tmp rfl rfl) .const) ?_
 refine c_nil (n_then ?_)
 rcases Bool.eq_false_or_eq_true (decide ((1048576:Int) < ((n_b:Nat):Int))) with hc5 | hc5
 have hp5:(1048576:Int) < ((n_b:Nat):Int):=of_decide_eq_true hc5
 refine c_cond_t (t:=true) (.tmp rfl (congrArg Value.bool hc5)) rfl ?_
 refine c_seq (c_region (st (v:=.agg #[.int .u8 0,.int .i64 0,.int .u64 0,.int .i64 0,.int .u16 0,.int .u64 0,.int .i64 0,.int .u64 0,.int .i64 0,.slice none 0 0,.int .u64 0,.slice none 0 0,.slice none 0 0,.int .u64 0,.int .u64 0]) (bl30 (ps:=[]) Evp.nil rfl) ?_))
 refine st_m0 (sto30 (cs':=[.int .u8 0,.int .i64 0,.int .u64 0,.int .i64 0,.int .u16 0,.int .u64 0,.int .i64 0,.int .u64 0,.int .i64 0,.slice none 0 0,.int .u64 0,.slice none 0 0,.slice none 0 0,.int .u64 0,.int .u64 0]) (i:=0) hs4 (v:=.agg #[.int .u8 0,.int .i64 0,.int .u64 0,.int .i64 0,.int .u16 0,.int .u64 0,.int .i64 0,.int .u64 0,.int .i64 0,.slice none 0 0,.int .u64 0,.slice none 0 0,.slice none 0 0,.int .u64 0,.int .u64 0]) (.tmp rfl rfl) (.tmp rfl rfl) rfl (Nat.le_of_ble_eq_true rfl) (oneA rfl) rfl) ?_
 rintro w6 hs8
 refine st (v:=.int .i64 2) (x_assign .const) ?_
 refine c_nil (n_then (c_ret (r_then (leave_ret (res_two (v:=.agg #[.int .u8 0,.int .i64 0,.int .u64 0,.int .i64 0,.int .u16 0,.int .u64 0,.int .i64 0,.int .u64 0,.int .i64 0,.slice none 0 0,.int .u64 0,.slice none 0 0,.slice none 0 0,.int .u64 0,.int .u64 0]) (u:=.int .i64 2) rfl (.mkCell rfl rfl (lv30 (cs:=[.int .u8 0,.int .i64 0,.int .u64 0,.int .i64 0,.int .u16 0,.int .u64 0,.int .i64 0,.int .u64 0,.int .i64 0,.slice none 0 0,.int .u64 0,.slice none 0 0,.slice none 0 0,.int .u64 0,.int .u64 0]) (hs8.at_ 0 rfl 0 rfl) rfl)) (.mk rfl rfl)) ?_))))
 have hans9:decA b = (zF,2):=decA_long (by omega)
 rw [hans9]
 exact ⟨H,[.int .u8 0,.int .i64 0,.int .u64 0,.int .i64 0,.int .u16 0,.int .u64 0,.int .i64 0,.int .u64 0,.int .i64 0,.slice none 0 0,.int .u64 0,.slice none 0 0,.slice none 0 0,.int .u64 0,.int .u64 0],(Hp.le.refl _),rfl,⟨none,0,0,none,0,0,none,0,0,rfl,(show 0 < 256 from by omega),(show IB 0 from ⟨by omega,by omega⟩),(show 0 < 18446744073709551616 from by omega),(show IB 0 from ⟨by omega,by omega⟩),(show 0 < 65536 from by omega),(show 0 < 18446744073709551616 from by omega),(show IB 0 from ⟨by omega,by omega⟩),(show 0 < 18446744073709551616 from by omega),(show IB 0 from ⟨by omega,by omega⟩),(Sl.nil _ _ none),(show 0 < 18446744073709551616 from by omega),(Sl.nil _ _ none),(Sl.nil _ _ none),(show 0 < 18446744073709551616 from by omega),(show 0 < 18446744073709551616 from by omega)⟩,hs8.drop⟩
 have hp5:¬ ((1048576:Int) < ((n_b:Nat):Int)):=of_decide_eq_false hc5
 refine c_cond_f (t:=false) (.tmp rfl (congrArg Value.bool hc5)) rfl ?_
 refine c_skip (n_then (c_seq (c_region (st (v:=.slice A_b n_b c_b) (x_move (.tmp rfl rfl)) ?_))))
 refine st_c cb31 .func (evs1 (.tmp rfl rfl)) (open_spec hs4 h_b.toBs (by omega)) ?_
 rintro e w11 ⟨v10,rfl,ok12,hs13⟩
 refine ⟨_,rfl,?_⟩
 refine st (v:=.tuple #[v10,.int .i64 ((openL b).2)]) (x_move (.tmp rfl rfl)) ?_
 refine st (v:=v10) (x_extract (.tmp rfl rfl) (i:=0) rfl) ?_
 refine st (v:=.int .i64 ((openL b).2)) (x_extract (.tmp rfl rfl) (i:=1) rfl) ?_
 refine st (v:=v10) (x_assign (.tmp rfl rfl)) ?_
 refine st (v:=.int .i64 ((openL b).2)) (x_assign (.tmp rfl rfl)) ?_
 refine c_nil (n_then (c_seq (c_seq (c_region (st (v:=.int .i64 ((openL b).2)) (x_move (.tmp rfl rfl)) ?_)))))
 refine st (v:=.bool (decide ((((openL b).2):Int) ≠ 0))) (x_neq (k:=.i64) (a:=((openL b).2)) (b:=0) (.tmp rfl rfl) .const) ?_
 refine c_nil (n_then ?_)
 rcases Bool.eq_false_or_eq_true (decide ((((openL b).2):Int) ≠ 0)) with hc15 | hc15
 have hp15:(((openL b).2):Int) ≠ 0:=of_decide_eq_true hc15
 refine c_cond_t (t:=true) (.tmp rfl (congrArg Value.bool hc15)) rfl ?_
 refine c_seq (c_region (st (v:=.agg #[.int .u8 0,.int .i64 0,.int .u64 0,.int .i64 0,.int .u16 0,.int .u64 0,.int .i64 0,.int .u64 0,.int .i64 0,.slice none 0 0,.int .u64 0,.slice none 0 0,.slice none 0 0,.int .u64 0,.int .u64 0]) (bl30 (ps:=[]) Evp.nil rfl) ?_))
 refine st (v:=.int .i64 ((openL b).2)) (x_move (.tmp rfl rfl)) ?_
 have hs16:=hs13.p1
 refine st_m0 (sto30 (cs':=[.int .u8 0,.int .i64 0,.int .u64 0,.int .i64 0,.int .u16 0,.int .u64 0,.int .i64 0,.int .u64 0,.int .i64 0,.slice none 0 0,.int .u64 0,.slice none 0 0,.slice none 0 0,.int .u64 0,.int .u64 0]) (i:=0) hs16 (v:=.agg #[.int .u8 0,.int .i64 0,.int .u64 0,.int .i64 0,.int .u16 0,.int .u64 0,.int .i64 0,.int .u64 0,.int .i64 0,.slice none 0 0,.int .u64 0,.slice none 0 0,.slice none 0 0,.int .u64 0,.int .u64 0]) (.tmp rfl rfl) (.tmp rfl rfl) rfl (Nat.le_of_ble_eq_true rfl) (oneA rfl) rfl) ?_
 rintro w17 hs19
 refine st (v:=.int .i64 ((openL b).2)) (x_assign (.tmp rfl rfl)) ?_
 refine c_nil (n_then (c_ret (r_then (leave_ret (res_two (v:=.agg #[.int .u8 0,.int .i64 0,.int .u64 0,.int .i64 0,.int .u16 0,.int .u64 0,.int .i64 0,.int .u64 0,.int .i64 0,.slice none 0 0,.int .u64 0,.slice none 0 0,.slice none 0 0,.int .u64 0,.int .u64 0]) (u:=.int .i64 ((openL b).2)) rfl (.mkCell rfl rfl (lv30 (cs:=[.int .u8 0,.int .i64 0,.int .u64 0,.int .i64 0,.int .u16 0,.int .u64 0,.int .i64 0,.int .u64 0,.int .i64 0,.slice none 0 0,.int .u64 0,.slice none 0 0,.slice none 0 0,.int .u64 0,.int .u64 0]) (hs19.at_ 0 rfl 0 rfl) rfl)) (.mk rfl rfl)) ?_))))
 have hans20:decA b = (zF,(openL b).2):=decA_open (by omega) hp15
 rw [hans20]
 exact ⟨H,[.int .u8 0,.int .i64 0,.int .u64 0,.int .i64 0,.int .u16 0,.int .u64 0,.int .i64 0,.int .u64 0,.int .i64 0,.slice none 0 0,.int .u64 0,.slice none 0 0,.slice none 0 0,.int .u64 0,.int .u64 0],(Hp.le.refl _),rfl,⟨none,0,0,none,0,0,none,0,0,rfl,(show 0 < 256 from by omega),(show IB 0 from ⟨by omega,by omega⟩),(show 0 < 18446744073709551616 from by omega),(show IB 0 from ⟨by omega,by omega⟩),(show 0 < 65536 from by omega),(show 0 < 18446744073709551616 from by omega),(show IB 0 from ⟨by omega,by omega⟩),(show 0 < 18446744073709551616 from by omega),(show IB 0 from ⟨by omega,by omega⟩),(Sl.nil _ _ none),(show 0 < 18446744073709551616 from by omega),(Sl.nil _ _ none),(Sl.nil _ _ none),(show 0 < 18446744073709551616 from by omega),(show 0 < 18446744073709551616 from by omega)⟩,hs19.drop.drop⟩
 have hp15:¬ ((((openL b).2):Int) ≠ 0):=of_decide_eq_false hc15
 refine c_cond_f (t:=false) (.tmp rfl (congrArg Value.bool hc15)) rfl ?_
 refine c_skip (n_then (c_seq (c_region ?_)))
 have hol:=openL_le b; have hbl9:b.length = n_b:=h_b.len
 obtain ⟨H21,A22,c23,hle24,hs25,rfl,hp26⟩:=hs13.freezeBs ok12 (openL_small h_b.toBs.lt) (by omega)
 have hy27:By H21 A22 ((openL b).1.length) c23 ((openL b).1):=⟨hp26,by omega⟩
 skip
 refine st (v:=.slice A22 ((openL b).1.length) c23) (x_move (.tmp rfl rfl)) ?_
 refine st_c cb32 .func (evs1 (.tmp rfl rfl)) (newReader_spec hs25) ?_
 rintro e w29 ⟨g28,rfl,hs30⟩
 refine ⟨_,rfl,?_⟩
 refine st (v:=.pointer (some ⟨g28,0,none⟩)) (x_assign (.tmp rfl rfl)) ?_
 refine c_nil (n_then (c_seq (c_region (st (v:=.pointer (some ⟨g28,0,none⟩)) (x_move (.tmp rfl rfl)) ?_))))
 refine st_c cb33 .func (evs2 (.tmp rfl rfl) .const) (int_q hy27.toBs false 255 (by omega) (by omega) hs30) ?_
 rintro e w35 ⟨q31,A32,n33,c34,hq36,hb37,hn38,rfl,hp39,hs40⟩
 refine ⟨_,rfl,?_⟩
 have hb41:q31.1 < 256:=by omega
 refine st (v:=.int .u8 ((q31.1:Nat):Int)) (x_conv (k:=.i64) (a:=((q31.1:Nat):Int)) Try.underlying3 Try.underlying5 (.tmp rfl rfl) (wU rfl rfl hb41)) ?_
 refine st (v:=.pointer (some ⟨g28,0,none⟩)) (x_move (.tmp rfl rfl)) ?_
 refine st_c cb33 .func (evs2 (.tmp rfl rfl) .const) (int_q hp39 q31.2.2 15 (by omega) (by omega) hs40) ?_
 rintro e w46 ⟨q42,A43,n44,c45,hq47,hb48,hn49,rfl,hp50,hs51⟩
 refine ⟨_,rfl,?_⟩
 refine st (v:=.agg #[.int .u8 ((q31.1:Nat):Int),.int .i64 ((q42.1:Nat):Int),.int .u64 0,.int .i64 0,.int .u16 0,.int .u64 0,.int .i64 0,.int .u64 0,.int .i64 0,.slice none 0 0,.int .u64 0,.slice none 0 0,.slice none 0 0,.int .u64 0,.int .u64 0]) (bl30 (ps:=[(0,.int .u8 ((q31.1:Nat):Int)),(1,.int .i64 ((q42.1:Nat):Int))]) (.cons (.tmp rfl rfl) (.cons (.tmp rfl rfl) Evp.nil)) rfl) ?_
 refine st_m (al30 (cs:=[.int .u8 0,.int .i64 0,.int .u64 0,.int .i64 0,.int .u16 0,.int .u64 0,.int .i64 0,.int .u64 0,.int .i64 0,.slice none 0 0,.int .u64 0,.slice none 0 0,.slice none 0 0,.int .u64 0,.int .u64 0]) hs51 rfl) ?_
 rintro _ w53 ⟨g52,rfl,hs55⟩
 refine st_m0 (sto30 (cs':=[.int .u8 ((q31.1:Nat):Int),.int .i64 ((q42.1:Nat):Int),.int .u64 0,.int .i64 0,.int .u16 0,.int .u64 0,.int .i64 0,.int .u64 0,.int .i64 0,.slice none 0 0,.int .u64 0,.slice none 0 0,.slice none 0 0,.int .u64 0,.int .u64 0]) (i:=0) hs55 (v:=.agg #[.int .u8 ((q31.1:Nat):Int),.int .i64 ((q42.1:Nat):Int),.int .u64 0,.int .i64 0,.int .u16 0,.int .u64 0,.int .i64 0,.int .u64 0,.int .i64 0,.slice none 0 0,.int .u64 0,.slice none 0 0,.slice none 0 0,.int .u64 0,.int .u64 0]) (.tmp rfl rfl) (.tmp rfl rfl) rfl (Nat.le_of_ble_eq_true rfl) (oneA rfl) rfl) ?_
 rintro w56 hs58
 refine c_nil (n_then (c_seq (c_region (st (v:=.bool true) (x_assign .const) ?_))))
 refine c_nil (n_then (c_seq (c_seq (c_region (st (v:=.pointer (some ⟨g52,0 + 0,none⟩)) (fa30_0 (.tmp rfl rfl)) ?_)))))
 refine st (v:=.int .u8 ((q31.1:Nat):Int)) (ld5 (.tmp rfl rfl) (hs58.cell 0 rfl (0 + 0) rfl)) ?_
 refine st (v:=.bool (decide ((((q31.1:Nat):Int):Int) ≠ 1))) (x_neq (k:=.u8) (a:=((q31.1:Nat):Int)) (b:=1) (.tmp rfl rfl) .const) ?_
 refine c_nil (n_then ?_)
 rcases Bool.eq_false_or_eq_true (decide ((((q31.1:Nat):Int):Int) ≠ 1)) with hc59 | hc59
 have hp59:(((q31.1:Nat):Int):Int) ≠ 1:=of_decide_eq_true hc59
 refine c_cond_t (t:=true) (.tmp rfl (congrArg Value.bool hc59)) rfl ?_
 refine c_region (st (v:=.pointer (some ⟨g28,0,none⟩)) (x_move (.tmp rfl rfl)) ?_)
 have hs60:=hs58.p1
 refine st_c cb34 .func (evs1 (.tmp rfl rfl)) (vdec_spec hs60 hp50 (by omega) ) ?_
 rintro e w62 ⟨cs64,q61,A66,n67,c68,rfl,hr65,hq69,hp70,hn71,hs63⟩
 obtain ⟨rfl,b72,⟨b73,b74⟩⟩:=hr65
 refine ⟨_,rfl,?_⟩
 refine st (v:=.tuple #[.agg #[.int .u64 ((q61.1.1.N:Nat):Int),.int .i64 q61.1.1.P],.bool q61.1.2]) (x_move (.tmp rfl rfl)) ?_
 refine st (v:=.agg #[.int .u64 ((q61.1.1.N:Nat):Int),.int .i64 q61.1.1.P]) (x_extract (.tmp rfl rfl) (i:=0) rfl) ?_
 refine st (v:=.bool q61.1.2) (x_extract (.tmp rfl rfl) (i:=1) rfl) ?_
 refine st (v:=.pointer (some ⟨g52,0 + 2,none⟩)) (fa30_2 (.tmp rfl rfl)) ?_
 have hs75:=hs63.p1
 refine st_m0 (sto24 (cs':=[.int .u8 ((q31.1:Nat):Int),.int .i64 ((q42.1:Nat):Int),.int .u64 ((q61.1.1.N:Nat):Int),.int .i64 q61.1.1.P,.int .u16 0,.int .u64 0,.int .i64 0,.int .u64 0,.int .i64 0,.slice none 0 0,.int .u64 0,.slice none 0 0,.slice none 0 0,.int .u64 0,.int .u64 0]) (i:=0 + 2) hs75 (v:=.agg #[.int .u64 ((q61.1.1.N:Nat):Int),.int .i64 q61.1.1.P]) (.tmp rfl rfl) (.tmp rfl rfl) rfl (Nat.le_of_ble_eq_true rfl) (oneA rfl) rfl) ?_
 rintro w76 hs78
 refine st (v:=.bool q61.1.2) (x_assign (.tmp rfl rfl)) ?_
 refine c_nil (n_then (c_seq (c_region (st (v:=.bool true) (x_assign .const) ?_))))
 refine c_nil (n_then ?_)
 refine c_cut (fun ρ w => ∃ (H79:Hp) (ok3:Bool) (fine3:Bool) (g3:GFrame) (cs3:List Value) (A3:Option Addr) (n3:Nat) (c3:Nat) (cur3:List Nat) (bad3:Bool),ρ 2 = .pointer (some ⟨g1,0,none⟩)∧ρ 6 = .pointer (some ⟨g28,0,none⟩)∧ρ 7 = .pointer (some ⟨g52,0,none⟩)∧ρ 8 = .bool ok3∧ρ 9 = .bool fine3∧(H21.le H79)∧(Bs H79 A3 n3 c3 cur3)∧(kFrame.rep H79 g3 cs3)∧(decA b = finC g3 ok3 fine3 (cur3,bad3))∧St H79 w (obj g28 98 [.slice A3 n3 c3,.bool bad3]::obj g52 30 cs3::obj g1 30 [.int .u8 0,.int .i64 0,.int .u64 0,.int .i64 0,.int .u16 0,.int .u64 0,.int .i64 0,.int .u64 0,.int .i64 0,.slice none 0 0,.int .u64 0,.slice none 0 0,.slice none 0 0,.int .u64 0,.int .u64 0]::L)) ?_ ?_
 refine c_seq (c_region (st (v:=.pointer (some ⟨g52,0 + 0,none⟩)) (fa30_0 (.tmp rfl rfl)) ?_))
 refine st (v:=.int .u8 ((q31.1:Nat):Int)) (ld5 (.tmp rfl rfl) (hs78.cell 0 rfl (0 + 0) rfl)) ?_
 refine c_nil (n_then (c_block (c_seq (c_region (st (v:=.bool (decide ((((q31.1:Nat):Int):Int) = 1))) (x_eql (k:=.u8) (a:=((q31.1:Nat):Int)) (b:=1) (.tmp rfl rfl) .const) ?_)))))
 refine st (v:=.bool (decide ((((q31.1:Nat):Int):Int) = 1))) (x_assign (.tmp rfl rfl)) ?_
 refine c_nil (n_then ?_)
 have hc81:(decide ((((q31.1:Nat):Int):Int) = 1)) = false:=(decide_eq_false (by omega))
 refine c_cond_f (t:=false) (.tmp rfl (congrArg Value.bool hc81)) rfl ?_
 refine c_seq (c_region (st (v:=.bool (decide ((((q31.1:Nat):Int):Int) = 2))) (x_eql (k:=.u8) (a:=((q31.1:Nat):Int)) (b:=2) (.tmp rfl rfl) .const) ?_))
 refine st (v:=.bool (decide ((((q31.1:Nat):Int):Int) = 2))) (x_assign (.tmp rfl rfl)) ?_
 refine c_nil (n_then ?_)
 rcases Bool.eq_false_or_eq_true (decide ((((q31.1:Nat):Int):Int) = 2)) with hc82 | hc82
 have hp82:(((q31.1:Nat):Int):Int) = 2:=of_decide_eq_true hc82
 refine c_cond_t (t:=true) (.tmp rfl (congrArg Value.bool hc82)) rfl ?_
 refine c_region (st (v:=.pointer (some ⟨g28,0,none⟩)) (x_move (.tmp rfl rfl)) ?_)
 have hs83:=hs78.p1
 refine st_c cb33 .func (evs2 (.tmp rfl rfl) .const) (int_q hp70 q61.2.2 65535 (by omega) (by omega) hs83) ?_
 rintro e w88 ⟨q84,A85,n86,c87,hq89,hb90,hn91,rfl,hp92,hs93⟩
 refine ⟨_,rfl,?_⟩
 have hb94:q84.1 < 65536:=by omega
 refine st (v:=.int .u16 ((q84.1:Nat):Int)) (x_conv (k:=.i64) (a:=((q84.1:Nat):Int)) Try.underlying3 Try.underlying25 (.tmp rfl rfl) (wU rfl rfl hb94)) ?_
 refine st (v:=.pointer (some ⟨g52,0 + 4,none⟩)) (fa30_3 (.tmp rfl rfl)) ?_
 have hs95:=hs93.p1
 refine st_m0 (sto25 (cs':=[.int .u8 ((q31.1:Nat):Int),.int .i64 ((q42.1:Nat):Int),.int .u64 ((q61.1.1.N:Nat):Int),.int .i64 q61.1.1.P,.int .u16 ((q84.1:Nat):Int),.int .u64 0,.int .i64 0,.int .u64 0,.int .i64 0,.slice none 0 0,.int .u64 0,.slice none 0 0,.slice none 0 0,.int .u64 0,.int .u64 0]) (i:=0 + 4) hs95 (v:=.int .u16 ((q84.1:Nat):Int)) (.tmp rfl rfl) (.tmp rfl rfl) rfl (Nat.le_of_ble_eq_true rfl) one1 rfl) ?_
 rintro w96 hs98
 refine c_nil (n_block ?_)
 have hd0:decA b = decP (openL b).1:=decA_read (by omega) (Classical.not_not.1 hp15)
 have hd1:=dec_head hd0 hq36 hq47
 have hd2:=dec_i hd1 (by omega) hq69
 have hd:=dec_2 hd2 (by omega) hq89
 exact n_then ⟨_,rfl,H21,q61.1.2,true,(GFrame.mk q31.1 ((q42.1:Nat):Int) q61.1.1 q84.1 (GViewID.mk 0 0) (GViewID.mk 0 0) [] 0 [] [] 0 0),[.int .u8 ((q31.1:Nat):Int),.int .i64 ((q42.1:Nat):Int),.int .u64 ((q61.1.1.N:Nat):Int),.int .i64 q61.1.1.P,.int .u16 ((q84.1:Nat):Int),.int .u64 0,.int .i64 0,.int .u64 0,.int .i64 0,.slice none 0 0,.int .u64 0,.slice none 0 0,.slice none 0 0,.int .u64 0,.int .u64 0],A85,n86,c87,q84.2.1,q84.2.2,rfl,rfl,rfl,rfl,rfl,(Hp.le.refl _),hp92,⟨none,0,0,none,0,0,none,0,0,rfl,hb41,(show IB ((q42.1:Nat):Int) from ⟨by omega,by omega⟩),b72,⟨b73,b74⟩,hb94,(show 0 < 18446744073709551616 from by omega),(show IB 0 from ⟨by omega,by omega⟩),(show 0 < 18446744073709551616 from by omega),(show IB 0 from ⟨by omega,by omega⟩),(Sl.nil _ _ none),(show 0 < 18446744073709551616 from by omega),(Sl.nil _ _ none),(Sl.nil _ _ none),(show 0 < 18446744073709551616 from by omega),(show 0 < 18446744073709551616 from by omega)⟩,hd,(((hs98.p2).p1).p2)⟩
 have hp82:¬ ((((q31.1:Nat):Int):Int) = 2):=of_decide_eq_false hc82
 refine c_cond_f (t:=false) (.tmp rfl (congrArg Value.bool hc82)) rfl ?_
 refine c_seq (c_region (st (v:=.bool (decide ((((q31.1:Nat):Int):Int) = 4))) (x_eql (k:=.u8) (a:=((q31.1:Nat):Int)) (b:=4) (.tmp rfl rfl) .const) ?_))
 refine st (v:=.bool (decide ((((q31.1:Nat):Int):Int) = 4))) (x_assign (.tmp rfl rfl)) ?_
 refine c_nil (n_then ?_)
 rcases Bool.eq_false_or_eq_true (decide ((((q31.1:Nat):Int):Int) = 4)) with hc99 | hc99
 have hp99:(((q31.1:Nat):Int):Int) = 4:=of_decide_eq_true hc99
 refine c_cond_t (t:=true) (.tmp rfl (congrArg Value.bool hc99)) rfl ?_
 refine c_region (st (v:=.pointer (some ⟨g28,0,none⟩)) (x_move (.tmp rfl rfl)) ?_)
 have hs100:=hs78.p1
 refine st_c cb34 .func (evs1 (.tmp rfl rfl)) (vdec_spec hs100 hp70 (by omega) ) ?_
 rintro e w102 ⟨cs104,q101,A106,n107,c108,rfl,hr105,hq109,hp110,hn111,hs103⟩
 obtain ⟨rfl,b112,⟨b113,b114⟩⟩:=hr105
 refine ⟨_,rfl,?_⟩
 refine st (v:=.tuple #[.agg #[.int .u64 ((q101.1.1.N:Nat):Int),.int .i64 q101.1.1.P],.bool q101.1.2]) (x_move (.tmp rfl rfl)) ?_
 refine st (v:=.agg #[.int .u64 ((q101.1.1.N:Nat):Int),.int .i64 q101.1.1.P]) (x_extract (.tmp rfl rfl) (i:=0) rfl) ?_
 refine st (v:=.bool q101.1.2) (x_extract (.tmp rfl rfl) (i:=1) rfl) ?_
 refine st (v:=.pointer (some ⟨g52,0 + 7,none⟩)) (fa30_5 (.tmp rfl rfl)) ?_
 have hs115:=hs103.p1
 refine st_m0 (sto24 (cs':=[.int .u8 ((q31.1:Nat):Int),.int .i64 ((q42.1:Nat):Int),.int .u64 ((q61.1.1.N:Nat):Int),.int .i64 q61.1.1.P,.int .u16 0,.int .u64 0,.int .i64 0,.int .u64 ((q101.1.1.N:Nat):Int),.int .i64 q101.1.1.P,.slice none 0 0,.int .u64 0,.slice none 0 0,.slice none 0 0,.int .u64 0,.int .u64 0]) (i:=0 + 7) hs115 (v:=.agg #[.int .u64 ((q101.1.1.N:Nat):Int),.int .i64 q101.1.1.P]) (.tmp rfl rfl) (.tmp rfl rfl) rfl (Nat.le_of_ble_eq_true rfl) (oneA rfl) rfl) ?_
 rintro w116 hs118
 refine st (v:=.bool q101.1.2) (x_assign (.tmp rfl rfl)) ?_
 refine c_nil (n_block ?_)
 have hd0:decA b = decP (openL b).1:=decA_read (by omega) (Classical.not_not.1 hp15)
 have hd1:=dec_head hd0 hq36 hq47
 have hd2:=dec_i hd1 (by omega) hq69
 have hd:=dec_4 hd2 (by omega) hq109
 exact n_then ⟨_,rfl,H21,q61.1.2,q101.1.2,(GFrame.mk q31.1 ((q42.1:Nat):Int) q61.1.1 0 (GViewID.mk 0 0) q101.1.1 [] 0 [] [] 0 0),[.int .u8 ((q31.1:Nat):Int),.int .i64 ((q42.1:Nat):Int),.int .u64 ((q61.1.1.N:Nat):Int),.int .i64 q61.1.1.P,.int .u16 0,.int .u64 0,.int .i64 0,.int .u64 ((q101.1.1.N:Nat):Int),.int .i64 q101.1.1.P,.slice none 0 0,.int .u64 0,.slice none 0 0,.slice none 0 0,.int .u64 0,.int .u64 0],A106,n107,c108,q101.2.1,q101.2.2,rfl,rfl,rfl,rfl,rfl,(Hp.le.refl _),hp110,⟨none,0,0,none,0,0,none,0,0,rfl,hb41,(show IB ((q42.1:Nat):Int) from ⟨by omega,by omega⟩),b72,⟨b73,b74⟩,(show 0 < 65536 from by omega),(show 0 < 18446744073709551616 from by omega),(show IB 0 from ⟨by omega,by omega⟩),b112,⟨b113,b114⟩,(Sl.nil _ _ none),(show 0 < 18446744073709551616 from by omega),(Sl.nil _ _ none),(Sl.nil _ _ none),(show 0 < 18446744073709551616 from by omega),(show 0 < 18446744073709551616 from by omega)⟩,hd,(((hs118.p2).p1).p2)⟩
 have hp99:¬ ((((q31.1:Nat):Int):Int) = 4):=of_decide_eq_false hc99
 refine c_cond_f (t:=false) (.tmp rfl (congrArg Value.bool hc99)) rfl ?_
 refine c_seq (c_region (st (v:=.bool (decide ((((q31.1:Nat):Int):Int) = 3))) (x_eql (k:=.u8) (a:=((q31.1:Nat):Int)) (b:=3) (.tmp rfl rfl) .const) ?_))
 refine st (v:=.bool (decide ((((q31.1:Nat):Int):Int) = 3))) (x_assign (.tmp rfl rfl)) ?_
 refine c_nil (n_then ?_)
 rcases Bool.eq_false_or_eq_true (decide ((((q31.1:Nat):Int):Int) = 3)) with hc119 | hc119
 have hp119:(((q31.1:Nat):Int):Int) = 3:=of_decide_eq_true hc119
 refine c_cond_t (t:=true) (.tmp rfl (congrArg Value.bool hc119)) rfl ?_
 refine c_region (st (v:=.pointer (some ⟨g28,0,none⟩)) (x_move (.tmp rfl rfl)) ?_)
 have hs120:=hs78.p1
 refine st_c cb35 .func (evs1 (.tmp rfl rfl)) (statesdec_spec hs120 hp70 (by omega) ) ?_
 rintro e w122 ⟨H124,A126,n127,c128,q121,A130,n131,c132,hle125,rfl,sp129,hq133,hp134,hn135,hs123⟩
 have:=sp129.len; have:=sp129.le; have:n127 * 48 ≤ 140737488351232:=sp129.bnd
 refine ⟨_,rfl,?_⟩
 refine st (v:=.tuple #[.slice A126 n127 c128,.bool q121.1.2]) (x_move (.tmp rfl rfl)) ?_
 refine st (v:=.slice A126 n127 c128) (x_extract (.tmp rfl rfl) (i:=0) rfl) ?_
 refine st (v:=.bool q121.1.2) (x_extract (.tmp rfl rfl) (i:=1) rfl) ?_
 refine st (v:=.pointer (some ⟨g52,0 + 9,none⟩)) (fa30_6 (.tmp rfl rfl)) ?_
 have hs136:=hs123.p1
 refine st_m0 (sto26 (cs':=[.int .u8 ((q31.1:Nat):Int),.int .i64 ((q42.1:Nat):Int),.int .u64 ((q61.1.1.N:Nat):Int),.int .i64 q61.1.1.P,.int .u16 0,.int .u64 0,.int .i64 0,.int .u64 0,.int .i64 0,.slice A126 n127 c128,.int .u64 0,.slice none 0 0,.slice none 0 0,.int .u64 0,.int .u64 0]) (i:=0 + 9) hs136 (v:=.slice A126 n127 c128) (.tmp rfl rfl) (.tmp rfl rfl) rfl (Nat.le_of_ble_eq_true rfl) one1 rfl) ?_
 rintro w137 hs139
 refine st (v:=.bool q121.1.2) (x_assign (.tmp rfl rfl)) ?_
 refine c_nil (n_block ?_)
 have hd0:decA b = decP (openL b).1:=decA_read (by omega) (Classical.not_not.1 hp15)
 have hd1:=dec_head hd0 hq36 hq47
 have hd2:=dec_i hd1 (by omega) hq69
 have hd:=dec_3 hd2 (by omega) hq133
 exact n_then ⟨_,rfl,H124,q61.1.2,q121.1.2,(GFrame.mk q31.1 ((q42.1:Nat):Int) q61.1.1 0 (GViewID.mk 0 0) (GViewID.mk 0 0) q121.1.1 0 [] [] 0 0),[.int .u8 ((q31.1:Nat):Int),.int .i64 ((q42.1:Nat):Int),.int .u64 ((q61.1.1.N:Nat):Int),.int .i64 q61.1.1.P,.int .u16 0,.int .u64 0,.int .i64 0,.int .u64 0,.int .i64 0,.slice A126 n127 c128,.int .u64 0,.slice none 0 0,.slice none 0 0,.int .u64 0,.int .u64 0],A130,n131,c132,q121.2.1,q121.2.2,rfl,rfl,rfl,rfl,rfl,hle125,hp134,⟨A126,n127,c128,none,0,0,none,0,0,rfl,hb41,(show IB ((q42.1:Nat):Int) from ⟨by omega,by omega⟩),b72,⟨b73,b74⟩,(show 0 < 65536 from by omega),(show 0 < 18446744073709551616 from by omega),(show IB 0 from ⟨by omega,by omega⟩),(show 0 < 18446744073709551616 from by omega),(show IB 0 from ⟨by omega,by omega⟩),sp129,(show 0 < 18446744073709551616 from by omega),(Sl.nil _ _ none),(Sl.nil _ _ none),(show 0 < 18446744073709551616 from by omega),(show 0 < 18446744073709551616 from by omega)⟩,hd,(((hs139.p2).p1).p2)⟩
 have hp119:¬ ((((q31.1:Nat):Int):Int) = 3):=of_decide_eq_false hc119
 refine c_cond_f (t:=false) (.tmp rfl (congrArg Value.bool hc119)) rfl ?_
 refine c_seq (c_region (st (v:=.bool (decide ((((q31.1:Nat):Int):Int) = 5))) (x_eql (k:=.u8) (a:=((q31.1:Nat):Int)) (b:=5) (.tmp rfl rfl) .const) ?_))
 refine st (v:=.bool (decide ((((q31.1:Nat):Int):Int) = 5))) (x_assign (.tmp rfl rfl)) ?_
 refine c_nil (n_then ?_)
 rcases Bool.eq_false_or_eq_true (decide ((((q31.1:Nat):Int):Int) = 5)) with hc140 | hc140
 have hp140:(((q31.1:Nat):Int):Int) = 5:=of_decide_eq_true hc140
 refine c_cond_t (t:=true) (.tmp rfl (congrArg Value.bool hc140)) rfl ?_
 refine c_seq (c_region (st (v:=.pointer (some ⟨g28,0,none⟩)) (x_move (.tmp rfl rfl)) ?_))
 have hs141:=hs78.p1
 refine st_c cb33 .func (evs2 (.tmp rfl rfl) .const) (int_q hp70 q61.2.2 65535 (by omega) (by omega) hs141) ?_
 rintro e w146 ⟨q142,A143,n144,c145,hq147,hb148,hn149,rfl,hp150,hs151⟩
 refine ⟨_,rfl,?_⟩
 have hb152:q142.1 < 65536:=by omega
 refine st (v:=.int .u16 ((q142.1:Nat):Int)) (x_conv (k:=.i64) (a:=((q142.1:Nat):Int)) Try.underlying3 Try.underlying25 (.tmp rfl rfl) (wU rfl rfl hb152)) ?_
 refine st (v:=.pointer (some ⟨g52,0 + 4,none⟩)) (fa30_3 (.tmp rfl rfl)) ?_
 have hs153:=hs151.p1
 refine st_m0 (sto25 (cs':=[.int .u8 ((q31.1:Nat):Int),.int .i64 ((q42.1:Nat):Int),.int .u64 ((q61.1.1.N:Nat):Int),.int .i64 q61.1.1.P,.int .u16 ((q142.1:Nat):Int),.int .u64 0,.int .i64 0,.int .u64 0,.int .i64 0,.slice none 0 0,.int .u64 0,.slice none 0 0,.slice none 0 0,.int .u64 0,.int .u64 0]) (i:=0 + 4) hs153 (v:=.int .u16 ((q142.1:Nat):Int)) (.tmp rfl rfl) (.tmp rfl rfl) rfl (Nat.le_of_ble_eq_true rfl) one1 rfl) ?_
 rintro w154 hs156
 refine c_nil (n_then (c_region (st (v:=.pointer (some ⟨g28,0,none⟩)) (x_move (.tmp rfl rfl)) ?_)))
 have hs157:=hs156.p1
 refine st_c cb35 .func (evs1 (.tmp rfl rfl)) (statesdec_spec hs157 hp150 (by omega) ) ?_
 rintro e w159 ⟨H161,A163,n164,c165,q158,A167,n168,c169,hle162,rfl,sp166,hq170,hp171,hn172,hs160⟩
 have:=sp166.len; have:=sp166.le; have:n164 * 48 ≤ 140737488351232:=sp166.bnd
 refine ⟨_,rfl,?_⟩
 refine st (v:=.tuple #[.slice A163 n164 c165,.bool q158.1.2]) (x_move (.tmp rfl rfl)) ?_
 refine st (v:=.slice A163 n164 c165) (x_extract (.tmp rfl rfl) (i:=0) rfl) ?_
 refine st (v:=.bool q158.1.2) (x_extract (.tmp rfl rfl) (i:=1) rfl) ?_
 refine st (v:=.pointer (some ⟨g52,0 + 9,none⟩)) (fa30_6 (.tmp rfl rfl)) ?_
 have hs173:=hs160.p1
 refine st_m0 (sto26 (cs':=[.int .u8 ((q31.1:Nat):Int),.int .i64 ((q42.1:Nat):Int),.int .u64 ((q61.1.1.N:Nat):Int),.int .i64 q61.1.1.P,.int .u16 ((q142.1:Nat):Int),.int .u64 0,.int .i64 0,.int .u64 0,.int .i64 0,.slice A163 n164 c165,.int .u64 0,.slice none 0 0,.slice none 0 0,.int .u64 0,.int .u64 0]) (i:=0 + 9) hs173 (v:=.slice A163 n164 c165) (.tmp rfl rfl) (.tmp rfl rfl) rfl (Nat.le_of_ble_eq_true rfl) one1 rfl) ?_
 rintro w174 hs176
 refine st (v:=.bool q158.1.2) (x_assign (.tmp rfl rfl)) ?_
 refine c_nil (n_block ?_)
 have hd0:decA b = decP (openL b).1:=decA_read (by omega) (Classical.not_not.1 hp15)
 have hd1:=dec_head hd0 hq36 hq47
 have hd2:=dec_i hd1 (by omega) hq69
 have hd:=dec_5 hd2 (by omega) hq147 hq170
 exact n_then ⟨_,rfl,H161,q61.1.2,q158.1.2,(GFrame.mk q31.1 ((q42.1:Nat):Int) q61.1.1 q142.1 (GViewID.mk 0 0) (GViewID.mk 0 0) q158.1.1 0 [] [] 0 0),[.int .u8 ((q31.1:Nat):Int),.int .i64 ((q42.1:Nat):Int),.int .u64 ((q61.1.1.N:Nat):Int),.int .i64 q61.1.1.P,.int .u16 ((q142.1:Nat):Int),.int .u64 0,.int .i64 0,.int .u64 0,.int .i64 0,.slice A163 n164 c165,.int .u64 0,.slice none 0 0,.slice none 0 0,.int .u64 0,.int .u64 0],A167,n168,c169,q158.2.1,q158.2.2,rfl,rfl,rfl,rfl,rfl,hle162,hp171,⟨A163,n164,c165,none,0,0,none,0,0,rfl,hb41,(show IB ((q42.1:Nat):Int) from ⟨by omega,by omega⟩),b72,⟨b73,b74⟩,hb152,(show 0 < 18446744073709551616 from by omega),(show IB 0 from ⟨by omega,by omega⟩),(show 0 < 18446744073709551616 from by omega),(show IB 0 from ⟨by omega,by omega⟩),sp166,(show 0 < 18446744073709551616 from by omega),(Sl.nil _ _ none),(Sl.nil _ _ none),(show 0 < 18446744073709551616 from by omega),(show 0 < 18446744073709551616 from by omega)⟩,hd,(((hs176.p2).p1).p2)⟩
 have hp140:¬ ((((q31.1:Nat):Int):Int) = 5):=of_decide_eq_false hc140
 refine c_cond_f (t:=false) (.tmp rfl (congrArg Value.bool hc140)) rfl ?_
 refine c_seq (c_region (st (v:=.bool (decide ((((q31.1:Nat):Int):Int) = 6))) (x_eql (k:=.u8) (a:=((q31.1:Nat):Int)) (b:=6) (.tmp rfl rfl) .const) ?_))
 refine st (v:=.bool (decide ((((q31.1:Nat):Int):Int) = 6))) (x_assign (.tmp rfl rfl)) ?_
 refine c_nil (n_then ?_)
 rcases Bool.eq_false_or_eq_true (decide ((((q31.1:Nat):Int):Int) = 6)) with hc177 | hc177
 have hp177:(((q31.1:Nat):Int):Int) = 6:=of_decide_eq_true hc177
 refine c_cond_t (t:=true) (.tmp rfl (congrArg Value.bool hc177)) rfl ?_
 refine c_seq (c_region (st (v:=.pointer (some ⟨g28,0,none⟩)) (x_move (.tmp rfl rfl)) ?_))
 have hs178:=hs78.p1
 refine st_c cb36 .func (evs1 (.tmp rfl rfl)) (uint_q hp70 q61.2.2 hs178) ?_
 rintro e w183 ⟨q179,A180,n181,c182,hq184,hb185,hn186,rfl,hp187,hs188⟩
 refine ⟨_,rfl,?_⟩
 refine st (v:=.pointer (some ⟨g28,0,none⟩)) (x_move (.tmp rfl rfl)) ?_
 refine st_c cb36 .func (evs1 (.tmp rfl rfl)) (uint_q hp187 q179.2.2 hs188) ?_
 rintro e w193 ⟨q189,A190,n191,c192,hq194,hb195,hn196,rfl,hp197,hs198⟩
 refine ⟨_,rfl,?_⟩
 refine st (v:=.pointer (some ⟨g52,0 + 10,none⟩)) (fa30_7 (.tmp rfl rfl)) ?_
 have hs199:=hs198.p1
 refine st_m0 (sto22 (cs':=[.int .u8 ((q31.1:Nat):Int),.int .i64 ((q42.1:Nat):Int),.int .u64 ((q61.1.1.N:Nat):Int),.int .i64 q61.1.1.P,.int .u16 0,.int .u64 0,.int .i64 0,.int .u64 0,.int .i64 0,.slice none 0 0,.int .u64 ((q179.1:Nat):Int),.slice none 0 0,.slice none 0 0,.int .u64 0,.int .u64 0]) (i:=0 + 10) hs199 (v:=.int .u64 ((q179.1:Nat):Int)) (.tmp rfl rfl) (.tmp rfl rfl) rfl (Nat.le_of_ble_eq_true rfl) one1 rfl) ?_
 rintro w200 hs202
 refine st (v:=.pointer (some ⟨g52,0 + 13,none⟩)) (fa30_10 (.tmp rfl rfl)) ?_
 refine st_m0 (sto22 (cs':=[.int .u8 ((q31.1:Nat):Int),.int .i64 ((q42.1:Nat):Int),.int .u64 ((q61.1.1.N:Nat):Int),.int .i64 q61.1.1.P,.int .u16 0,.int .u64 0,.int .i64 0,.int .u64 0,.int .i64 0,.slice none 0 0,.int .u64 ((q179.1:Nat):Int),.slice none 0 0,.slice none 0 0,.int .u64 ((q189.1:Nat):Int),.int .u64 0]) (i:=0 + 13) hs202 (v:=.int .u64 ((q189.1:Nat):Int)) (.tmp rfl rfl) (.tmp rfl rfl) rfl (Nat.le_of_ble_eq_true rfl) one1 rfl) ?_
 rintro w203 hs205
 refine c_nil (n_then (c_seq (c_region ?_)))
 skip
 refine st (v:=.pointer (some ⟨g28,0,none⟩)) (x_move (.tmp rfl rfl)) ?_
 have hs206:=hs205.p1
 refine st_c cb33 .func (evs2 (.tmp rfl rfl) .const) (int_q hp197 q189.2.2 4096 (by omega) (by omega) hs206) ?_
 rintro e w211 ⟨q207,A208,n209,c210,hq212,hb213,hn214,rfl,hp215,hs216⟩
 refine ⟨_,rfl,?_⟩
 refine st (v:=.int .i64 ((q207.1:Nat):Int)) (x_assign (.tmp rfl rfl)) ?_
 refine c_nil (n_then (c_block ?_))
 have hs218:St H21 _ (row 33 1 (.slice none 0 0) (([]:List (List Nat)).length) []::obj g28 98 [.slice A208 n209 c210,.bool q207.2.2]::obj g52 30 [.int .u8 ((q31.1:Nat):Int),.int .i64 ((q42.1:Nat):Int),.int .u64 ((q61.1.1.N:Nat):Int),.int .i64 q61.1.1.P,.int .u16 0,.int .u64 0,.int .i64 0,.int .u64 0,.int .i64 0,.slice none 0 0,.int .u64 ((q179.1:Nat):Int),.slice none 0 0,.slice none 0 0,.int .u64 ((q189.1:Nat):Int),.int .u64 0]::obj g1 30 [.int .u8 0,.int .i64 0,.int .u64 0,.int .i64 0,.int .u16 0,.int .u64 0,.int .i64 0,.int .u64 0,.int .i64 0,.slice none 0 0,.int .u64 0,.slice none 0 0,.slice none 0 0,.int .u64 0,.int .u64 0]::L):=hs216.krowNil 33 kBs
 have:([]:List (List Nat)).length = 0:=rfl
 refine c_loop (fun ρ w mm => ∃ (H219:Hp) (k:Int) (A2:Option Addr) (n2:Nat) (c2:Nat) (cur:List Nat) (bad:Bool) (v2:Value) (c9:List Value) (l:List (List Nat)),ρ 2 = .pointer (some ⟨g1,0,none⟩)∧ρ 6 = .pointer (some ⟨g28,0,none⟩)∧ρ 7 = .pointer (some ⟨g52,0,none⟩)∧ρ 8 = .bool q61.1.2∧ρ 9 = .bool true∧ρ 10 = .int .i64 k∧(H21.le H219)∧(Bs H219 A2 n2 c2 cur)∧(n2 ≤ 140737488355320)∧(0 ≤ k)∧(k ≤ 4096)∧((l.length:Int) + k ≤ 4096)∧(RowOk kBs.sz v2 l.length c9)∧(kBs.toKn.rows H219 l c9)∧(MsInv q189.2.1 q189.2.2 l k cur bad)∧St H219 w (obj g28 98 [.slice A2 n2 c2,.bool bad]::obj g52 30 [.int .u8 ((q31.1:Nat):Int),.int .i64 ((q42.1:Nat):Int),.int .u64 ((q61.1.1.N:Nat):Int),.int .i64 q61.1.1.P,.int .u16 0,.int .u64 0,.int .i64 0,.int .u64 0,.int .i64 0,.slice none 0 0,.int .u64 ((q179.1:Nat):Int),v2,.slice none 0 0,.int .u64 ((q189.1:Nat):Int),.int .u64 0]::row 33 1 v2 l.length c9::obj g1 30 [.int .u8 0,.int .i64 0,.int .u64 0,.int .i64 0,.int .u16 0,.int .u64 0,.int .i64 0,.int .u64 0,.int .i64 0,.slice none 0 0,.int .u64 0,.slice none 0 0,.slice none 0 0,.int .u64 0,.int .u64 0]::L)∧mm = k.toNat) _ ⟨H21,((q207.1:Nat):Int),A208,n209,c210,q207.2.1,q207.2.2,(.slice none 0 0),[],[],rfl,rfl,rfl,rfl,rfl,rfl,(Hp.le.refl _),hp215,(by omega),(by omega),(by omega),(by omega),(RowOk.knil kBs),(Kn.rows_nil _ _),(ms_start hq212),((((hs218.p3).p1).p3).p3),rfl⟩ ?_
 rintro ρ w mm ⟨H219,k,A2,n2,c2,cur,bad,v2,c9,l,hρ221,hρ222,hρ223,hρ224,hρ225,hρ226,hg220,hp2,hn2,hk,hk2,hl,okv,hkv,inv,hs227,rfl⟩
 refine c_seq (c_seq (c_region (st (v:=.int .i64 k) (x_move (.tmp rfl hρ226)) ?_)))
 refine st (v:=.bool (decide ((0:Int) < k))) (x_gtr (k:=.i64) (a:=k) (b:=0) (.tmp rfl rfl) .const) ?_
 refine st (v:=.bool (decide ((0:Int) < k))) (x_move (.tmp rfl rfl)) ?_
 rcases Bool.eq_false_or_eq_true (decide ((0:Int) < k)) with hc228 | hc228
 have hp228:(0:Int) < k:=of_decide_eq_true hc228
 refine g_yes (yk 104 true rfl rfl hc228) ?_
 refine st (v:=.pointer (some ⟨g28,0,none⟩)) (x_move (.tmp rfl hρ222)) ?_
 refine g_yes (yk 104 true rfl rfl hc228) ?_
 refine st_c cb37 .func (evs1 (.tmp rfl rfl)) (bad_own hs227) ?_
 rintro e w229 ⟨rfl,hs230⟩
 refine ⟨_,rfl,?_⟩
 refine g_yes (yk 104 true rfl rfl hc228) ?_
 refine st (v:=.bool (!bad)) (x_not (.tmp rfl rfl)) ?_
 refine st (v:=.bool (!bad)) (x_pick_t (.tmp rfl (congrArg Value.bool hc228)) (.tmp rfl rfl)) ?_
 refine c_nil (n_then ?_)
 rcases Bool.eq_false_or_eq_true bad with hc231 | hc231
 refine c_cond_f (t:=false) (.tmp rfl (congrArg Value.bool (by rw [hc231]; rfl))) rfl ?_
 refine c_exit (x_then (x_then (x_here (n_block ?_))))
 have hs232:=hs230.p2
 have:l.length * 24 ≤ 140737488351232:=by omega
 obtain ⟨H233,A234,c235,hle236,hs237,rfl,sp238⟩:=hs232.freezeSl (d:=kBs) okv hkv this
 have:=sp238.len; have:=sp238.le
 have hd0:decA b = decP (openL b).1:=decA_read (by omega) (Classical.not_not.1 hp15)
 have hd1:=dec_head hd0 hq36 hq47
 have hd2:=dec_i hd1 (by omega) hq69
 have hms:=ms_done inv (.inr hc231)
 have hd:=dec_6 hd2 (by omega) hq184 hq194 hms
 exact n_then ⟨_,rfl,H233,q61.1.2,true,(GFrame.mk q31.1 ((q42.1:Nat):Int) q61.1.1 0 (GViewID.mk 0 0) (GViewID.mk 0 0) [] q179.1 l [] q189.1 0),[.int .u8 ((q31.1:Nat):Int),.int .i64 ((q42.1:Nat):Int),.int .u64 ((q61.1.1.N:Nat):Int),.int .i64 q61.1.1.P,.int .u16 0,.int .u64 0,.int .i64 0,.int .u64 0,.int .i64 0,.slice none 0 0,.int .u64 ((q179.1:Nat):Int),.slice A234 l.length c235,.slice none 0 0,.int .u64 ((q189.1:Nat):Int),.int .u64 0],A2,n2,c2,cur,bad,hρ221,hρ222,hρ223,hρ224,hρ225,(hg220.trans hle236),(hp2.mono hle236),⟨none,0,0,A234,l.length,c235,none,0,0,rfl,hb41,(show IB ((q42.1:Nat):Int) from ⟨by omega,by omega⟩),b72,⟨b73,b74⟩,(show 0 < 65536 from by omega),(show 0 < 18446744073709551616 from by omega),(show IB 0 from ⟨by omega,by omega⟩),(show 0 < 18446744073709551616 from by omega),(show IB 0 from ⟨by omega,by omega⟩),(Sl.nil _ _ none),hb185,sp238,(Sl.nil _ _ none),hb195,(show 0 < 18446744073709551616 from by omega)⟩,hd,(((hs237.p2).p2).p2)⟩
 refine c_cond_t (t:=true) (.tmp rfl (congrArg Value.bool (by rw [hc231]; rfl))) rfl ?_
 refine c_skip (n_then (c_seq (c_block (t_region (L:=obj g28 98 [.slice A2 n2 c2,.bool bad]::obj g52 30 [.int .u8 ((q31.1:Nat):Int),.int .i64 ((q42.1:Nat):Int),.int .u64 ((q61.1.1.N:Nat):Int),.int .i64 q61.1.1.P,.int .u16 0,.int .u64 0,.int .i64 0,.int .u64 0,.int .i64 0,.slice none 0 0,.int .u64 ((q179.1:Nat):Int),v2,.slice none 0 0,.int .u64 ((q189.1:Nat):Int),.int .u64 0]::row 33 1 v2 l.length c9::obj g1 30 [.int .u8 0,.int .i64 0,.int .u64 0,.int .i64 0,.int .u16 0,.int .u64 0,.int .i64 0,.int .u64 0,.int .i64 0,.slice none 0 0,.int .u64 0,.slice none 0 0,.slice none 0 0,.int .u64 0,.int .u64 0]::L) (L':=obj g52 30 [.int .u8 ((q31.1:Nat):Int),.int .i64 ((q42.1:Nat):Int),.int .u64 ((q61.1.1.N:Nat):Int),.int .i64 q61.1.1.P,.int .u16 0,.int .u64 0,.int .i64 0,.int .u64 0,.int .i64 0,.slice none 0 0,.int .u64 ((q179.1:Nat):Int),v2,.slice none 0 0,.int .u64 ((q189.1:Nat):Int),.int .u64 0]::row 33 1 v2 l.length c9::obj g1 30 [.int .u8 0,.int .i64 0,.int .u64 0,.int .i64 0,.int .u16 0,.int .u64 0,.int .i64 0,.int .u64 0,.int .i64 0,.slice none 0 0,.int .u64 0,.slice none 0 0,.slice none 0 0,.int .u64 0,.int .u64 0]::L) (Z:=[5,7]) (F:=[]) (pl:=(.q 0 (.q 1 (.q 2 (.e 3 (.e 4 (.e 5 (.q 6 (.e 7 .done))))))))) mixed hs230 (fun u hu => hu.drop) (by kernel_rfl) ?_))))
 intro w239 hs240
 refine t_st (k:=0) (v:=.pointer (some ⟨g52,0 + 11,none⟩)) rfl rfl (fun w hs => (fa30_8 (.tmp rfl hρ223))) ?_
 refine t_st (k:=1) (v:=v2) rfl rfl (fun w hs => (ld27 (.tmp rfl rfl) (hs.cell 0 rfl (0 + 11) rfl))) ?_
 refine t_st (k:=2) (v:=.pointer (some ⟨g28,0,none⟩)) rfl rfl (fun w hs => (x_move (.tmp rfl hρ222))) ?_
 refine t_eff (k:=3) rfl ?_
 refine st_c cb38 .func (evs2 (.tmp rfl rfl) .const) (bytes_q hp2 (by omega) bad 1048576 (by omega) (by omega) hs240) ?_
 rintro e w245 ⟨v251,q241,A242,n243,c244,hq246,⟨sm253,hl255,ok254⟩,hn248,rfl,hp249,hs250⟩
 refine ⟨_,rfl,?_⟩
 refine t_on (S':=fun u => St H219 u (obj g52 30 [.int .u8 ((q31.1:Nat):Int),.int .i64 ((q42.1:Nat):Int),.int .u64 ((q61.1.1.N:Nat):Int),.int .i64 q61.1.1.P,.int .u16 0,.int .u64 0,.int .i64 0,.int .u64 0,.int .i64 0,.slice none 0 0,.int .u64 ((q179.1:Nat):Int),v2,.slice none 0 0,.int .u64 ((q189.1:Nat):Int),.int .u64 0]::row 33 1 v2 l.length c9::obj g1 30 [.int .u8 0,.int .i64 0,.int .u64 0,.int .i64 0,.int .u16 0,.int .u64 0,.int .i64 0,.int .u64 0,.int .i64 0,.slice none 0 0,.int .u64 0,.slice none 0 0,.slice none 0 0,.int .u64 0,.int .u64 0]::L)) (fun u hu => hu) hs250.drop.drop ?_
 refine t_eff (k:=4) rfl ?_
 obtain ⟨H256,A257,c258,hle259,hs260,rfl,hp261⟩:=hs250.freezeBs ok254 sm253 (by omega)
 have hy262:By H256 A257 q241.1.length c258 q241.1:=⟨hp261,by omega⟩
 refine st_m (m_lit (n:=1) (ps:=[(0,.slice A257 q241.1.length c258)]) (cs:=[.slice A257 q241.1.length c258]) Try.underlying27 inf33 (.cons (.tmp rfl rfl) Evp.nil) (by decide) (by decide) rfl rfl hs260) ?_
 rintro _ w264 ⟨g263,rfl,hs266⟩
 refine t_on (S':=fun u => St H256 u (obj g263 33 [.slice A257 q241.1.length c258]::obj g52 30 [.int .u8 ((q31.1:Nat):Int),.int .i64 ((q42.1:Nat):Int),.int .u64 ((q61.1.1.N:Nat):Int),.int .i64 q61.1.1.P,.int .u16 0,.int .u64 0,.int .i64 0,.int .u64 0,.int .i64 0,.slice none 0 0,.int .u64 ((q179.1:Nat):Int),v2,.slice none 0 0,.int .u64 ((q189.1:Nat):Int),.int .u64 0]::row 33 1 v2 l.length c9::obj g1 30 [.int .u8 0,.int .i64 0,.int .u64 0,.int .i64 0,.int .u16 0,.int .u64 0,.int .i64 0,.int .u64 0,.int .i64 0,.slice none 0 0,.int .u64 0,.slice none 0 0,.slice none 0 0,.int .u64 0,.int .u64 0]::L)) (fun u hu => hu.drop.weaken hle259) (hs266.p1).drop ?_
 refine t_eff (k:=5) rfl ?_
 have hs267:=hs266.p3
 have hr275:kBs.rep H256 q241.1 [.slice A257 q241.1.length c258]:=⟨A257,q241.1.length,c258,rfl,hy262⟩
 refine st_m (m_appK (d:=kBs) (ys:=[q241.1]) (news:=[.slice A257 q241.1.length c258]) Try.underlying27 inf33 rfl hs267 okv (Kn.rows_mono hkv hle259) (.tmp rfl rfl) (.tmp rfl rfl) (Kn.rows_one hr275) rfl (hs267.at_ 1 rfl 0 rfl) (by have:([q241.1]:List (List Nat)).length = 1:=rfl; omega) (by decide)) ?_
 rintro v268 w269 ⟨cs270,ok271,hk272,hs273⟩
 have hn274:(l ++ [q241.1]).length = l.length + 1:=by simp
 refine t_new (S':=fun u => St H256 u (row 33 1 v268 ((l ++ [q241.1]).length) cs270::obj g263 33 [.slice A257 q241.1.length c258]::obj g28 98 [.slice A242 n243 c244,.bool q241.2.2]::obj g52 30 [.int .u8 ((q31.1:Nat):Int),.int .i64 ((q42.1:Nat):Int),.int .u64 ((q61.1.1.N:Nat):Int),.int .i64 q61.1.1.P,.int .u16 0,.int .u64 0,.int .i64 0,.int .u64 0,.int .i64 0,.slice none 0 0,.int .u64 ((q179.1:Nat):Int),v2,.slice none 0 0,.int .u64 ((q189.1:Nat):Int),.int .u64 0]::obj g1 30 [.int .u8 0,.int .i64 0,.int .u64 0,.int .i64 0,.int .u16 0,.int .u64 0,.int .i64 0,.int .u64 0,.int .i64 0,.slice none 0 0,.int .u64 0,.slice none 0 0,.slice none 0 0,.int .u64 0,.int .u64 0]::L)) rfl hs273 ?_
 refine t_st (k:=6) (v:=.pointer (some ⟨g52,0 + 11,none⟩)) rfl rfl (fun w hs => (fa30_8 (.tmp rfl hρ223))) ?_
 refine t_eff (k:=7) rfl ?_
 obtain ⟨A276,c277,rfl,hc278⟩:=ok271.slice
 have hs279:=hs273.p3
 refine st_m0 (sto27 (cs':=[.int .u8 ((q31.1:Nat):Int),.int .i64 ((q42.1:Nat):Int),.int .u64 ((q61.1.1.N:Nat):Int),.int .i64 q61.1.1.P,.int .u16 0,.int .u64 0,.int .i64 0,.int .u64 0,.int .i64 0,.slice none 0 0,.int .u64 ((q179.1:Nat):Int),.slice A276 ((l ++ [q241.1]).length) c277,.slice none 0 0,.int .u64 ((q189.1:Nat):Int),.int .u64 0]) (i:=0 + 11) hs279 (v:=.slice A276 ((l ++ [q241.1]).length) c277) (.tmp rfl rfl) (.tmp rfl rfl) rfl (Nat.le_of_ble_eq_true rfl) one1 rfl) ?_
 rintro w280 hs282
 refine t_new (S':=fun u => St H256 u (obj g52 30 [.int .u8 ((q31.1:Nat):Int),.int .i64 ((q42.1:Nat):Int),.int .u64 ((q61.1.1.N:Nat):Int),.int .i64 q61.1.1.P,.int .u16 0,.int .u64 0,.int .i64 0,.int .u64 0,.int .i64 0,.slice none 0 0,.int .u64 ((q179.1:Nat):Int),.slice A276 ((l ++ [q241.1]).length) c277,.slice none 0 0,.int .u64 ((q189.1:Nat):Int),.int .u64 0]::row 33 1 (.slice A276 ((l ++ [q241.1]).length) c277) ((l ++ [q241.1]).length) cs270::obj g263 33 [.slice A257 q241.1.length c258]::obj g28 98 [.slice A242 n243 c244,.bool q241.2.2]::obj g1 30 [.int .u8 0,.int .i64 0,.int .u64 0,.int .i64 0,.int .u16 0,.int .u64 0,.int .i64 0,.int .u64 0,.int .i64 0,.slice none 0 0,.int .u64 0,.slice none 0 0,.slice none 0 0,.int .u64 0,.int .u64 0]::L)) rfl hs282 ?_
 refine t_nil ?_
 refine n_block (n_then (c_region (st (v:=.int .i64 k) (x_move (.tmp rfl hρ226)) ?_)))
 refine st (v:=.int .i64 (k - 1)) (x_sub (k:=.i64) (a:=k) (b:=1) (.tmp rfl rfl) .const (w64 (by omega) (by omega))) ?_
 refine st (v:=.int .i64 (k - 1)) (x_assign (.tmp rfl rfl)) ?_
 refine c_nil ?_
 refine n_then ⟨_,_,rfl,?_,H256,(k - 1),A242,n243,c244,q241.2.1,q241.2.2,(.slice A276 ((l ++ [q241.1]).length) c277),cs270,(l ++ [q241.1]),hρ221,hρ222,hρ223,hρ224,hρ225,rfl,(hg220.trans hle259),(hp249.mono hle259),(by omega),(by omega),(by omega),(by omega),ok271,hk272,(ms_step inv (by omega) hc231 hq246),(((((hs282.p2).drop.p3).p2).p2).p3),rfl⟩
 omega
 have hp228:¬ ((0:Int) < k):=of_decide_eq_false hc228
 refine g_no (yk 104 false rfl rfl hc228) rfl ?_
 refine g_no (yk 104 false rfl rfl hc228) rfl ?_
 refine g_no (yk 104 false rfl rfl hc228) rfl ?_
 refine st (v:=.bool false) (x_pick_f (.tmp rfl (congrArg Value.bool hc228)) .const) ?_
 refine c_nil (n_then (c_cond_f (t:=false) (.tmp rfl rfl) rfl ?_))
 refine c_exit (x_then (x_then (x_here (n_block ?_))))
 have hs283:=hs227.p2
 have:l.length * 24 ≤ 140737488351232:=by omega
 obtain ⟨H284,A285,c286,hle287,hs288,rfl,sp289⟩:=hs283.freezeSl (d:=kBs) okv hkv this
 have:=sp289.len; have:=sp289.le
 have hd0:decA b = decP (openL b).1:=decA_read (by omega) (Classical.not_not.1 hp15)
 have hd1:=dec_head hd0 hq36 hq47
 have hd2:=dec_i hd1 (by omega) hq69
 have hms:=ms_done inv (.inl (by omega))
 have hd:=dec_6 hd2 (by omega) hq184 hq194 hms
 exact n_then ⟨_,rfl,H284,q61.1.2,true,(GFrame.mk q31.1 ((q42.1:Nat):Int) q61.1.1 0 (GViewID.mk 0 0) (GViewID.mk 0 0) [] q179.1 l [] q189.1 0),[.int .u8 ((q31.1:Nat):Int),.int .i64 ((q42.1:Nat):Int),.int .u64 ((q61.1.1.N:Nat):Int),.int .i64 q61.1.1.P,.int .u16 0,.int .u64 0,.int .i64 0,.int .u64 0,.int .i64 0,.slice none 0 0,.int .u64 ((q179.1:Nat):Int),.slice A285 l.length c286,.slice none 0 0,.int .u64 ((q189.1:Nat):Int),.int .u64 0],A2,n2,c2,cur,bad,hρ221,hρ222,hρ223,hρ224,hρ225,(hg220.trans hle287),(hp2.mono hle287),⟨none,0,0,A285,l.length,c286,none,0,0,rfl,hb41,(show IB ((q42.1:Nat):Int) from ⟨by omega,by omega⟩),b72,⟨b73,b74⟩,(show 0 < 65536 from by omega),(show 0 < 18446744073709551616 from by omega),(show IB 0 from ⟨by omega,by omega⟩),(show 0 < 18446744073709551616 from by omega),(show IB 0 from ⟨by omega,by omega⟩),(Sl.nil _ _ none),hb185,sp289,(Sl.nil _ _ none),hb195,(show 0 < 18446744073709551616 from by omega)⟩,hd,(((hs288.p2).p2).p2)⟩
 have hp177:¬ ((((q31.1:Nat):Int):Int) = 6):=of_decide_eq_false hc177
 refine c_cond_f (t:=false) (.tmp rfl (congrArg Value.bool hc177)) rfl ?_
 refine c_seq (c_region (st (v:=.bool (decide ((((q31.1:Nat):Int):Int) = 7))) (x_eql (k:=.u8) (a:=((q31.1:Nat):Int)) (b:=7) (.tmp rfl rfl) .const) ?_))
 refine st (v:=.bool (decide ((((q31.1:Nat):Int):Int) = 7))) (x_assign (.tmp rfl rfl)) ?_
 refine c_nil (n_then ?_)
 rcases Bool.eq_false_or_eq_true (decide ((((q31.1:Nat):Int):Int) = 7)) with hc290 | hc290
 have hp290:(((q31.1:Nat):Int):Int) = 7:=of_decide_eq_true hc290
 refine c_cond_t (t:=true) (.tmp rfl (congrArg Value.bool hc290)) rfl ?_
 refine c_seq (c_region (st (v:=.pointer (some ⟨g28,0,none⟩)) (x_move (.tmp rfl rfl)) ?_))
 have hs291:=hs78.p1
 refine st_c cb36 .func (evs1 (.tmp rfl rfl)) (uint_q hp70 q61.2.2 hs291) ?_
 rintro e w296 ⟨q292,A293,n294,c295,hq297,hb298,hn299,rfl,hp300,hs301⟩
 refine ⟨_,rfl,?_⟩
 refine st (v:=.pointer (some ⟨g28,0,none⟩)) (x_move (.tmp rfl rfl)) ?_
 refine st_c cb36 .func (evs1 (.tmp rfl rfl)) (uint_q hp300 q292.2.2 hs301) ?_
 rintro e w306 ⟨q302,A303,n304,c305,hq307,hb308,hn309,rfl,hp310,hs311⟩
 refine ⟨_,rfl,?_⟩
 refine st (v:=.pointer (some ⟨g28,0,none⟩)) (x_move (.tmp rfl rfl)) ?_
 refine st_c cb36 .func (evs1 (.tmp rfl rfl)) (uint_q hp310 q302.2.2 hs311) ?_
 rintro e w316 ⟨q312,A313,n314,c315,hq317,hb318,hn319,rfl,hp320,hs321⟩
 refine ⟨_,rfl,?_⟩
 refine st (v:=.pointer (some ⟨g52,0 + 10,none⟩)) (fa30_7 (.tmp rfl rfl)) ?_
 have hs322:=hs321.p1
 refine st_m0 (sto22 (cs':=[.int .u8 ((q31.1:Nat):Int),.int .i64 ((q42.1:Nat):Int),.int .u64 ((q61.1.1.N:Nat):Int),.int .i64 q61.1.1.P,.int .u16 0,.int .u64 0,.int .i64 0,.int .u64 0,.int .i64 0,.slice none 0 0,.int .u64 ((q292.1:Nat):Int),.slice none 0 0,.slice none 0 0,.int .u64 0,.int .u64 0]) (i:=0 + 10) hs322 (v:=.int .u64 ((q292.1:Nat):Int)) (.tmp rfl rfl) (.tmp rfl rfl) rfl (Nat.le_of_ble_eq_true rfl) one1 rfl) ?_
 rintro w323 hs325
 refine st (v:=.pointer (some ⟨g52,0 + 13,none⟩)) (fa30_10 (.tmp rfl rfl)) ?_
 refine st_m0 (sto22 (cs':=[.int .u8 ((q31.1:Nat):Int),.int .i64 ((q42.1:Nat):Int),.int .u64 ((q61.1.1.N:Nat):Int),.int .i64 q61.1.1.P,.int .u16 0,.int .u64 0,.int .i64 0,.int .u64 0,.int .i64 0,.slice none 0 0,.int .u64 ((q292.1:Nat):Int),.slice none 0 0,.slice none 0 0,.int .u64 ((q302.1:Nat):Int),.int .u64 0]) (i:=0 + 13) hs325 (v:=.int .u64 ((q302.1:Nat):Int)) (.tmp rfl rfl) (.tmp rfl rfl) rfl (Nat.le_of_ble_eq_true rfl) one1 rfl) ?_
 rintro w326 hs328
 refine st (v:=.pointer (some ⟨g52,0 + 14,none⟩)) (fa30_11 (.tmp rfl rfl)) ?_
 refine st_m0 (sto22 (cs':=[.int .u8 ((q31.1:Nat):Int),.int .i64 ((q42.1:Nat):Int),.int .u64 ((q61.1.1.N:Nat):Int),.int .i64 q61.1.1.P,.int .u16 0,.int .u64 0,.int .i64 0,.int .u64 0,.int .i64 0,.slice none 0 0,.int .u64 ((q292.1:Nat):Int),.slice none 0 0,.slice none 0 0,.int .u64 ((q302.1:Nat):Int),.int .u64 ((q312.1:Nat):Int)]) (i:=0 + 14) hs328 (v:=.int .u64 ((q312.1:Nat):Int)) (.tmp rfl rfl) (.tmp rfl rfl) rfl (Nat.le_of_ble_eq_true rfl) one1 rfl) ?_
 rintro w329 hs331
 refine c_nil (n_then (c_region (st (v:=.pointer (some ⟨g28,0,none⟩)) (x_move (.tmp rfl rfl)) ?_)))
 have hs332:=hs331.p1
 refine st_c cb39 .func (evs1 (.tmp rfl rfl)) (itemsdec_spec hs332 hp320 (by omega) ) ?_
 rintro e w334 ⟨H336,A338,n339,c340,q333,A342,n343,c344,hle337,rfl,sp341,hq345,hp346,hn347,hs335⟩
 have:=sp341.len; have:=sp341.le; have:n339 * 32 ≤ 140737488351232:=sp341.bnd
 refine ⟨_,rfl,?_⟩
 refine st (v:=.pointer (some ⟨g52,0 + 12,none⟩)) (fa30_9 (.tmp rfl rfl)) ?_
 have hs348:=hs335.p1
 refine st_m0 (sto28 (cs':=[.int .u8 ((q31.1:Nat):Int),.int .i64 ((q42.1:Nat):Int),.int .u64 ((q61.1.1.N:Nat):Int),.int .i64 q61.1.1.P,.int .u16 0,.int .u64 0,.int .i64 0,.int .u64 0,.int .i64 0,.slice none 0 0,.int .u64 ((q292.1:Nat):Int),.slice none 0 0,.slice A338 n339 c340,.int .u64 ((q302.1:Nat):Int),.int .u64 ((q312.1:Nat):Int)]) (i:=0 + 12) hs348 (v:=.slice A338 n339 c340) (.tmp rfl rfl) (.tmp rfl rfl) rfl (Nat.le_of_ble_eq_true rfl) one1 rfl) ?_
 rintro w349 hs351
 refine c_nil (n_block ?_)
 have hd0:decA b = decP (openL b).1:=decA_read (by omega) (Classical.not_not.1 hp15)
 have hd1:=dec_head hd0 hq36 hq47
 have hd2:=dec_i hd1 (by omega) hq69
 have hd:=dec_7 hd2 (by omega) hq297 hq307 hq317 hq345
 exact n_then ⟨_,rfl,H336,q61.1.2,true,(GFrame.mk q31.1 ((q42.1:Nat):Int) q61.1.1 0 (GViewID.mk 0 0) (GViewID.mk 0 0) [] q292.1 [] q333.1 q302.1 q312.1),[.int .u8 ((q31.1:Nat):Int),.int .i64 ((q42.1:Nat):Int),.int .u64 ((q61.1.1.N:Nat):Int),.int .i64 q61.1.1.P,.int .u16 0,.int .u64 0,.int .i64 0,.int .u64 0,.int .i64 0,.slice none 0 0,.int .u64 ((q292.1:Nat):Int),.slice none 0 0,.slice A338 n339 c340,.int .u64 ((q302.1:Nat):Int),.int .u64 ((q312.1:Nat):Int)],A342,n343,c344,q333.2.1,q333.2.2,rfl,rfl,rfl,rfl,rfl,hle337,hp346,⟨none,0,0,none,0,0,A338,n339,c340,rfl,hb41,(show IB ((q42.1:Nat):Int) from ⟨by omega,by omega⟩),b72,⟨b73,b74⟩,(show 0 < 65536 from by omega),(show 0 < 18446744073709551616 from by omega),(show IB 0 from ⟨by omega,by omega⟩),(show 0 < 18446744073709551616 from by omega),(show IB 0 from ⟨by omega,by omega⟩),(Sl.nil _ _ none),hb298,(Sl.nil _ _ none),sp341,hb308,hb318⟩,hd,(((hs351.p2).p1).p2)⟩
 have hp290:¬ ((((q31.1:Nat):Int):Int) = 7):=of_decide_eq_false hc290
 refine c_cond_f (t:=false) (.tmp rfl (congrArg Value.bool hc290)) rfl ?_
 refine c_seq (c_region (st (v:=.agg #[.int .u8 0,.int .i64 0,.int .u64 0,.int .i64 0,.int .u16 0,.int .u64 0,.int .i64 0,.int .u64 0,.int .i64 0,.slice none 0 0,.int .u64 0,.slice none 0 0,.slice none 0 0,.int .u64 0,.int .u64 0]) (bl30 (ps:=[]) Evp.nil rfl) ?_))
 have hs352:=hs78.p2
 refine st_m0 (sto30 (cs':=[.int .u8 0,.int .i64 0,.int .u64 0,.int .i64 0,.int .u16 0,.int .u64 0,.int .i64 0,.int .u64 0,.int .i64 0,.slice none 0 0,.int .u64 0,.slice none 0 0,.slice none 0 0,.int .u64 0,.int .u64 0]) (i:=0) hs352 (v:=.agg #[.int .u8 0,.int .i64 0,.int .u64 0,.int .i64 0,.int .u16 0,.int .u64 0,.int .i64 0,.int .u64 0,.int .i64 0,.slice none 0 0,.int .u64 0,.slice none 0 0,.slice none 0 0,.int .u64 0,.int .u64 0]) (.tmp rfl rfl) (.tmp rfl rfl) rfl (Nat.le_of_ble_eq_true rfl) (oneA rfl) rfl) ?_
 rintro w353 hs355
 refine st (v:=.int .i64 3) (x_assign .const) ?_
 refine c_nil (n_then (c_ret (r_block (r_then (leave_ret (res_two (v:=.agg #[.int .u8 0,.int .i64 0,.int .u64 0,.int .i64 0,.int .u16 0,.int .u64 0,.int .i64 0,.int .u64 0,.int .i64 0,.slice none 0 0,.int .u64 0,.slice none 0 0,.slice none 0 0,.int .u64 0,.int .u64 0]) (u:=.int .i64 3) rfl (.mkCell rfl rfl (lv30 (cs:=[.int .u8 0,.int .i64 0,.int .u64 0,.int .i64 0,.int .u16 0,.int .u64 0,.int .i64 0,.int .u64 0,.int .i64 0,.slice none 0 0,.int .u64 0,.slice none 0 0,.slice none 0 0,.int .u64 0,.int .u64 0]) (hs355.at_ 0 rfl 0 rfl) rfl)) (.mk rfl rfl)) ?_)))))
 have hd0:decA b = decP (openL b).1:=decA_read (by omega) (Classical.not_not.1 hp15)
 have hd1:=dec_head hd0 hq36 hq47
 have hd2:=dec_i hd1 (by omega) hq69
 have hans356:decA b = (zF,3):=dec_0 hd2 (by omega) (by omega) (by omega) (by omega) (by omega) (by omega)
 rw [hans356]
 exact ⟨H21,[.int .u8 0,.int .i64 0,.int .u64 0,.int .i64 0,.int .u16 0,.int .u64 0,.int .i64 0,.int .u64 0,.int .i64 0,.slice none 0 0,.int .u64 0,.slice none 0 0,.slice none 0 0,.int .u64 0,.int .u64 0],hle24,rfl,⟨none,0,0,none,0,0,none,0,0,rfl,(show 0 < 256 from by omega),(show IB 0 from ⟨by omega,by omega⟩),(show 0 < 18446744073709551616 from by omega),(show IB 0 from ⟨by omega,by omega⟩),(show 0 < 65536 from by omega),(show 0 < 18446744073709551616 from by omega),(show IB 0 from ⟨by omega,by omega⟩),(show 0 < 18446744073709551616 from by omega),(show IB 0 from ⟨by omega,by omega⟩),(Sl.nil _ _ none),(show 0 < 18446744073709551616 from by omega),(Sl.nil _ _ none),(Sl.nil _ _ none),(show 0 < 18446744073709551616 from by omega),(show 0 < 18446744073709551616 from by omega)⟩,hs355.drop.drop.drop⟩
 rintro ρ w ⟨H79,ok3,fine3,g3,cs3,A3,n3,c3,cur3,bad3,hρ357,hρ358,hρ359,hρ360,hρ361,hg80,hp3,hr3,hd3,hs362⟩
 obtain ⟨A376,n377,c378,A381,n382,c383,A385,n386,c387,rfl,b363,⟨b364,b365⟩,b366,⟨b367,b368⟩,b369,b370,⟨b371,b372⟩,b373,⟨b374,b375⟩,hl379,b380,hl384,hl388,b389,b390⟩:=hr3
 have:=hl379.len; have:n377 * 48 ≤ 140737488351232:=hl379.bnd; have:=hl379.le
 have:=hl384.len; have:n382 * 24 ≤ 140737488351232:=hl384.bnd; have:=hl384.le
 have:=hl388.len; have:n386 * 32 ≤ 140737488351232:=hl388.bnd; have:=hl388.le
 refine c_seq (c_seq (c_region (st (v:=.bool ok3) (x_move (.tmp rfl hρ360)) ?_)))
 refine st (v:=.bool (!ok3)) (x_not (.tmp rfl rfl)) ?_
 refine st (v:=.bool (!ok3)) (x_move (.tmp rfl rfl)) ?_
 refine jw 3 (fun ρ w => ρ 137 = .bool ((!ok3) || (!fine3))∧ρ 2 = .pointer (some ⟨g1,0,none⟩)∧ρ 6 = .pointer (some ⟨g28,0,none⟩)∧ρ 7 = .pointer (some ⟨g52,0,none⟩)∧St H79 w (obj g28 98 [.slice A3 n3 c3,.bool bad3]::obj g52 30 [.int .u8 ((g3.Kind:Nat):Int),.int .i64 g3.From,.int .u64 ((g3.ID.N:Nat):Int),.int .i64 g3.ID.P,.int .u16 ((g3.Set:Nat):Int),.int .u64 ((g3.Cur.N:Nat):Int),.int .i64 g3.Cur.P,.int .u64 ((g3.Prom.N:Nat):Int),.int .i64 g3.Prom.P,.slice A376 n377 c378,.int .u64 ((g3.Base:Nat):Int),.slice A381 n382 c383,.slice A385 n386 c387,.int .u64 ((g3.Ack:Nat):Int),.int .u64 ((g3.Safe:Nat):Int)]::obj g1 30 [.int .u8 0,.int .i64 0,.int .u64 0,.int .i64 0,.int .u16 0,.int .u64 0,.int .i64 0,.int .u64 0,.int .i64 0,.slice none 0 0,.int .u64 0,.slice none 0 0,.slice none 0 0,.int .u64 0,.int .u64 0]::L)) ?_ ?_
 rcases Bool.eq_false_or_eq_true ok3 with hc391 | hc391
 refine g_yes (yl (dj:=134) (b:=false) rfl rfl (congrArg Value.bool (by rw [hc391]; rfl))) ?_
 refine st (v:=.bool fine3) (x_move (.tmp rfl hρ361)) ?_
 refine g_yes (yl (dj:=134) (b:=false) rfl rfl (congrArg Value.bool (by rw [hc391]; rfl))) ?_
 refine st (v:=.bool (!fine3)) (x_not (.tmp rfl rfl)) ?_
 refine st (v:=.bool (!fine3)) (x_pick_f (.tmp rfl (congrArg Value.bool (by rw [hc391]; rfl))) (.tmp rfl rfl)) ?_
 exact jw_end ⟨(congrArg Value.bool (jor_f (by rw [hc391]; rfl))),hρ357,hρ358,hρ359,hs362⟩
 refine g_no (yl (dj:=134) (b:=true) rfl rfl (congrArg Value.bool (by rw [hc391]; rfl))) rfl ?_
 refine g_no (yl (dj:=134) (b:=true) rfl rfl (congrArg Value.bool (by rw [hc391]; rfl))) rfl ?_
 refine st (v:=.bool true) (x_pick_t (.tmp rfl (congrArg Value.bool (by rw [hc391]; rfl))) .const) ?_
 exact jw_end ⟨(congrArg Value.bool (jor_t (by rw [hc391]; rfl))),hρ357,hρ358,hρ359,hs362⟩
 rintro ρ w ⟨hρ392,hρ393,hρ394,hρ395,hs396⟩
 refine st (v:=.bool ((!ok3) || (!fine3))) (x_move (.tmp rfl hρ392)) ?_
 rcases Bool.eq_false_or_eq_true ((!ok3) || (!fine3)) with hc397 | hc397
 have hp397:(¬ (ok3 = true)) ∨ (¬ (fine3 = true)):=((J_or (J_not Iff.rfl) (J_not Iff.rfl))).1 hc397
 refine g_no (yk 138 true rfl rfl hc397) rfl ?_
 refine g_no (yk 138 true rfl rfl hc397) rfl ?_
 refine st (v:=.bool true) (x_pick_t (.tmp rfl (congrArg Value.bool hc397)) .const) ?_
 refine st (v:=.bool true) (x_move (.tmp rfl rfl)) ?_
 refine g_no (yl (dj:=142) (b:=true) rfl rfl rfl) rfl ?_
 refine g_no (yl (dj:=142) (b:=true) rfl rfl rfl) rfl ?_
 refine g_no (yl (dj:=142) (b:=true) rfl rfl rfl) rfl ?_
 refine st (v:=.bool true) (x_pick_t (.tmp rfl rfl) .const) ?_
 refine st (v:=.bool true) (x_move (.tmp rfl rfl)) ?_
 refine g_no (yl (dj:=147) (b:=true) rfl rfl rfl) rfl ?_
 refine g_no (yl (dj:=147) (b:=true) rfl rfl rfl) rfl ?_
 refine g_no (yl (dj:=147) (b:=true) rfl rfl rfl) rfl ?_
 refine g_no (yl (dj:=147) (b:=true) rfl rfl rfl) rfl ?_
 refine g_no0 (yn (dj:=151) rfl rfl) ?_
 refine g_no0 (yn (dj:=151) rfl rfl) ?_
 refine g_no0 (yn (dj:=151) rfl rfl) ?_
 refine g_no0 (yn (dj:=151) rfl rfl) ?_
 refine g_no (yl (dj:=147) (b:=true) rfl rfl rfl) rfl ?_
 refine st (v:=.bool true) (x_pick_t (.tmp rfl rfl) .const) ?_
 refine st (v:=.bool true) (x_move (.tmp rfl rfl)) ?_
 refine g_no (yl (dj:=158) (b:=true) rfl rfl rfl) rfl ?_
 refine g_no (yl (dj:=158) (b:=true) rfl rfl rfl) rfl ?_
 refine g_no (yl (dj:=158) (b:=true) rfl rfl rfl) rfl ?_
 refine g_no (yl (dj:=158) (b:=true) rfl rfl rfl) rfl ?_
 refine g_no0 (yn (dj:=162) rfl rfl) ?_
 refine g_no0 (yn (dj:=162) rfl rfl) ?_
 refine g_no0 (yn (dj:=162) rfl rfl) ?_
 refine g_no0 (yn (dj:=162) rfl rfl) ?_
 refine g_no (yl (dj:=158) (b:=true) rfl rfl rfl) rfl ?_
 refine st (v:=.bool true) (x_pick_t (.tmp rfl rfl) .const) ?_
 refine c_nil (n_then (c_cond_t (t:=true) (.tmp rfl rfl) rfl ?_))
 refine c_seq (c_region (st (v:=.agg #[.int .u8 0,.int .i64 0,.int .u64 0,.int .i64 0,.int .u16 0,.int .u64 0,.int .i64 0,.int .u64 0,.int .i64 0,.slice none 0 0,.int .u64 0,.slice none 0 0,.slice none 0 0,.int .u64 0,.int .u64 0]) (bl30 (ps:=[]) Evp.nil rfl) ?_))
 have hs398:=hs396.p2
 refine st_m0 (sto30 (cs':=[.int .u8 0,.int .i64 0,.int .u64 0,.int .i64 0,.int .u16 0,.int .u64 0,.int .i64 0,.int .u64 0,.int .i64 0,.slice none 0 0,.int .u64 0,.slice none 0 0,.slice none 0 0,.int .u64 0,.int .u64 0]) (i:=0) hs398 (v:=.agg #[.int .u8 0,.int .i64 0,.int .u64 0,.int .i64 0,.int .u16 0,.int .u64 0,.int .i64 0,.int .u64 0,.int .i64 0,.slice none 0 0,.int .u64 0,.slice none 0 0,.slice none 0 0,.int .u64 0,.int .u64 0]) (.tmp rfl hρ393) (.tmp rfl rfl) rfl (Nat.le_of_ble_eq_true rfl) (oneA rfl) rfl) ?_
 rintro w399 hs401
 refine st (v:=.int .i64 3) (x_assign .const) ?_
 refine c_nil (n_then (c_ret (r_then (leave_ret (res_two (v:=.agg #[.int .u8 0,.int .i64 0,.int .u64 0,.int .i64 0,.int .u16 0,.int .u64 0,.int .i64 0,.int .u64 0,.int .i64 0,.slice none 0 0,.int .u64 0,.slice none 0 0,.slice none 0 0,.int .u64 0,.int .u64 0]) (u:=.int .i64 3) rfl (.mkCell rfl hρ393 (lv30 (cs:=[.int .u8 0,.int .i64 0,.int .u64 0,.int .i64 0,.int .u16 0,.int .u64 0,.int .i64 0,.int .u64 0,.int .i64 0,.slice none 0 0,.int .u64 0,.slice none 0 0,.slice none 0 0,.int .u64 0,.int .u64 0]) (hs401.at_ 0 rfl 0 rfl) rfl)) (.mk rfl rfl)) ?_))))
 have hans402:decA b = (zF,3):=hd3.trans (tail_ok hp397)
 rw [hans402]
 exact ⟨H79,[.int .u8 0,.int .i64 0,.int .u64 0,.int .i64 0,.int .u16 0,.int .u64 0,.int .i64 0,.int .u64 0,.int .i64 0,.slice none 0 0,.int .u64 0,.slice none 0 0,.slice none 0 0,.int .u64 0,.int .u64 0],(hle24.trans hg80),rfl,⟨none,0,0,none,0,0,none,0,0,rfl,(show 0 < 256 from by omega),(show IB 0 from ⟨by omega,by omega⟩),(show 0 < 18446744073709551616 from by omega),(show IB 0 from ⟨by omega,by omega⟩),(show 0 < 65536 from by omega),(show 0 < 18446744073709551616 from by omega),(show IB 0 from ⟨by omega,by omega⟩),(show 0 < 18446744073709551616 from by omega),(show IB 0 from ⟨by omega,by omega⟩),(Sl.nil _ _ none),(show 0 < 18446744073709551616 from by omega),(Sl.nil _ _ none),(Sl.nil _ _ none),(show 0 < 18446744073709551616 from by omega),(show 0 < 18446744073709551616 from by omega)⟩,hs401.drop.drop.drop⟩
 have hp397:¬ ((¬ (ok3 = true)) ∨ (¬ (fine3 = true))):=J_no (J_or (J_not Iff.rfl) (J_not Iff.rfl)) hc397
 refine g_yes (yk 138 false rfl rfl hc397) ?_
 refine st (v:=.pointer (some ⟨g28,0,none⟩)) (x_move (.tmp rfl hρ394)) ?_
 refine g_yes (yk 138 false rfl rfl hc397) ?_
 refine st_c cb37 .func (evs1 (.tmp rfl rfl)) (bad_own hs396) ?_
 rintro e w403 ⟨rfl,hs404⟩
 refine ⟨_,rfl,?_⟩
 refine st (v:=.bool bad3) (x_pick_f (.tmp rfl (congrArg Value.bool hc397)) (.tmp rfl rfl)) ?_
 refine st (v:=.bool bad3) (x_move (.tmp rfl rfl)) ?_
 rcases Bool.eq_false_or_eq_true bad3 with hc405 | hc405
 refine g_no (yk 142 true rfl rfl hc405) rfl ?_
 refine g_no (yk 142 true rfl rfl hc405) rfl ?_
 refine g_no (yk 142 true rfl rfl hc405) rfl ?_
 refine st (v:=.bool true) (x_pick_t (.tmp rfl (congrArg Value.bool hc405)) .const) ?_
 refine st (v:=.bool true) (x_move (.tmp rfl rfl)) ?_
 refine g_no (yl (dj:=147) (b:=true) rfl rfl rfl) rfl ?_
 refine g_no (yl (dj:=147) (b:=true) rfl rfl rfl) rfl ?_
 refine g_no (yl (dj:=147) (b:=true) rfl rfl rfl) rfl ?_
 refine g_no (yl (dj:=147) (b:=true) rfl rfl rfl) rfl ?_
 refine g_no0 (yn (dj:=151) rfl rfl) ?_
 refine g_no0 (yn (dj:=151) rfl rfl) ?_
 refine g_no0 (yn (dj:=151) rfl rfl) ?_
 refine g_no0 (yn (dj:=151) rfl rfl) ?_
 refine g_no (yl (dj:=147) (b:=true) rfl rfl rfl) rfl ?_
 refine st (v:=.bool true) (x_pick_t (.tmp rfl rfl) .const) ?_
 refine st (v:=.bool true) (x_move (.tmp rfl rfl)) ?_
 refine g_no (yl (dj:=158) (b:=true) rfl rfl rfl) rfl ?_
 refine g_no (yl (dj:=158) (b:=true) rfl rfl rfl) rfl ?_
 refine g_no (yl (dj:=158) (b:=true) rfl rfl rfl) rfl ?_
 refine g_no (yl (dj:=158) (b:=true) rfl rfl rfl) rfl ?_
 refine g_no0 (yn (dj:=162) rfl rfl) ?_
 refine g_no0 (yn (dj:=162) rfl rfl) ?_
 refine g_no0 (yn (dj:=162) rfl rfl) ?_
 refine g_no0 (yn (dj:=162) rfl rfl) ?_
 refine g_no (yl (dj:=158) (b:=true) rfl rfl rfl) rfl ?_
 refine st (v:=.bool true) (x_pick_t (.tmp rfl rfl) .const) ?_
 refine c_nil (n_then (c_cond_t (t:=true) (.tmp rfl rfl) rfl ?_))
 refine c_seq (c_region (st (v:=.agg #[.int .u8 0,.int .i64 0,.int .u64 0,.int .i64 0,.int .u16 0,.int .u64 0,.int .i64 0,.int .u64 0,.int .i64 0,.slice none 0 0,.int .u64 0,.slice none 0 0,.slice none 0 0,.int .u64 0,.int .u64 0]) (bl30 (ps:=[]) Evp.nil rfl) ?_))
 have hs406:=hs404.p2
 refine st_m0 (sto30 (cs':=[.int .u8 0,.int .i64 0,.int .u64 0,.int .i64 0,.int .u16 0,.int .u64 0,.int .i64 0,.int .u64 0,.int .i64 0,.slice none 0 0,.int .u64 0,.slice none 0 0,.slice none 0 0,.int .u64 0,.int .u64 0]) (i:=0) hs406 (v:=.agg #[.int .u8 0,.int .i64 0,.int .u64 0,.int .i64 0,.int .u16 0,.int .u64 0,.int .i64 0,.int .u64 0,.int .i64 0,.slice none 0 0,.int .u64 0,.slice none 0 0,.slice none 0 0,.int .u64 0,.int .u64 0]) (.tmp rfl hρ393) (.tmp rfl rfl) rfl (Nat.le_of_ble_eq_true rfl) (oneA rfl) rfl) ?_
 rintro w407 hs409
 refine st (v:=.int .i64 3) (x_assign .const) ?_
 refine c_nil (n_then (c_ret (r_then (leave_ret (res_two (v:=.agg #[.int .u8 0,.int .i64 0,.int .u64 0,.int .i64 0,.int .u16 0,.int .u64 0,.int .i64 0,.int .u64 0,.int .i64 0,.slice none 0 0,.int .u64 0,.slice none 0 0,.slice none 0 0,.int .u64 0,.int .u64 0]) (u:=.int .i64 3) rfl (.mkCell rfl hρ393 (lv30 (cs:=[.int .u8 0,.int .i64 0,.int .u64 0,.int .i64 0,.int .u16 0,.int .u64 0,.int .i64 0,.int .u64 0,.int .i64 0,.slice none 0 0,.int .u64 0,.slice none 0 0,.slice none 0 0,.int .u64 0,.int .u64 0]) (hs409.at_ 0 rfl 0 rfl) rfl)) (.mk rfl rfl)) ?_))))
 have hans410:decA b = (zF,3):=hd3.trans (fin_bad hc405)
 rw [hans410]
 exact ⟨H79,[.int .u8 0,.int .i64 0,.int .u64 0,.int .i64 0,.int .u16 0,.int .u64 0,.int .i64 0,.int .u64 0,.int .i64 0,.slice none 0 0,.int .u64 0,.slice none 0 0,.slice none 0 0,.int .u64 0,.int .u64 0],(hle24.trans hg80),rfl,⟨none,0,0,none,0,0,none,0,0,rfl,(show 0 < 256 from by omega),(show IB 0 from ⟨by omega,by omega⟩),(show 0 < 18446744073709551616 from by omega),(show IB 0 from ⟨by omega,by omega⟩),(show 0 < 65536 from by omega),(show 0 < 18446744073709551616 from by omega),(show IB 0 from ⟨by omega,by omega⟩),(show 0 < 18446744073709551616 from by omega),(show IB 0 from ⟨by omega,by omega⟩),(Sl.nil _ _ none),(show 0 < 18446744073709551616 from by omega),(Sl.nil _ _ none),(Sl.nil _ _ none),(show 0 < 18446744073709551616 from by omega),(show 0 < 18446744073709551616 from by omega)⟩,hs409.drop.drop.drop⟩
 refine g_yes (yk 142 false rfl rfl hc405) ?_
 refine st (v:=.pointer (some ⟨g28,0,none⟩)) (x_move (.tmp rfl hρ394)) ?_
 refine g_yes (yk 142 false rfl rfl hc405) ?_
 refine st_c cb40 .func (evs1 (.tmp rfl rfl)) (left_own (b:=bad3) hs404) ?_
 rintro e w411 ⟨rfl,hs412⟩
 refine ⟨_,rfl,?_⟩
 refine g_yes (yk 142 false rfl rfl hc405) ?_
 refine st (v:=.bool (decide ((0:Int) < (if bad3 = true then 0 else ((n3:Nat):Int))))) (x_gtr (k:=.i64) (a:=(if bad3 = true then 0 else ((n3:Nat):Int))) (b:=0) (.tmp rfl rfl) .const) ?_
 refine st (v:=.bool (decide ((0:Int) < (if bad3 = true then 0 else ((n3:Nat):Int))))) (x_pick_f (.tmp rfl (congrArg Value.bool hc405)) (.tmp rfl rfl)) ?_
 refine st (v:=.bool (decide ((0:Int) < (if bad3 = true then 0 else ((n3:Nat):Int))))) (x_move (.tmp rfl rfl)) ?_
 refine jw 10 (fun ρ w => ρ 157 = .bool ((decide ((0:Int) < (if bad3 = true then 0 else ((n3:Nat):Int)))) || ((decide ((((g3.Kind:Nat):Int):Int) = 3)) && (decide ((((n377:Nat):Int):Int) ≠ 1))))∧ρ 2 = .pointer (some ⟨g1,0,none⟩)∧ρ 7 = .pointer (some ⟨g52,0,none⟩)∧St H79 w (obj g28 98 [.slice A3 n3 c3,.bool bad3]::obj g52 30 [.int .u8 ((g3.Kind:Nat):Int),.int .i64 g3.From,.int .u64 ((g3.ID.N:Nat):Int),.int .i64 g3.ID.P,.int .u16 ((g3.Set:Nat):Int),.int .u64 ((g3.Cur.N:Nat):Int),.int .i64 g3.Cur.P,.int .u64 ((g3.Prom.N:Nat):Int),.int .i64 g3.Prom.P,.slice A376 n377 c378,.int .u64 ((g3.Base:Nat):Int),.slice A381 n382 c383,.slice A385 n386 c387,.int .u64 ((g3.Ack:Nat):Int),.int .u64 ((g3.Safe:Nat):Int)]::obj g1 30 [.int .u8 0,.int .i64 0,.int .u64 0,.int .i64 0,.int .u16 0,.int .u64 0,.int .i64 0,.int .u64 0,.int .i64 0,.slice none 0 0,.int .u64 0,.slice none 0 0,.slice none 0 0,.int .u64 0,.int .u64 0]::L)) ?_ ?_
 rcases Bool.eq_false_or_eq_true (decide ((0:Int) < (if bad3 = true then 0 else ((n3:Nat):Int)))) with hc413 | hc413
 have hp413:(0:Int) < (if bad3 = true then 0 else ((n3:Nat):Int)):=of_decide_eq_true hc413
 refine g_no (yk 147 true rfl rfl hc413) rfl ?_
 refine g_no (yk 147 true rfl rfl hc413) rfl ?_
 refine g_no (yk 147 true rfl rfl hc413) rfl ?_
 refine g_no (yk 147 true rfl rfl hc413) rfl ?_
 refine g_no0 (yn (dj:=151) rfl rfl) ?_
 refine g_no0 (yn (dj:=151) rfl rfl) ?_
 refine g_no0 (yn (dj:=151) rfl rfl) ?_
 refine g_no0 (yn (dj:=151) rfl rfl) ?_
 refine g_no (yk 147 true rfl rfl hc413) rfl ?_
 refine st (v:=.bool true) (x_pick_t (.tmp rfl (congrArg Value.bool hc413)) .const) ?_
 exact jw_end ⟨(congrArg Value.bool (jor_t hc413)),hρ393,hρ395,hs412⟩
 have hp413:¬ ((0:Int) < (if bad3 = true then 0 else ((n3:Nat):Int))):=of_decide_eq_false hc413
 refine g_yes (yk 147 false rfl rfl hc413) ?_
 refine st (v:=.pointer (some ⟨g52,0 + 0,none⟩)) (fa30_0 (.tmp rfl hρ395)) ?_
 refine g_yes (yk 147 false rfl rfl hc413) ?_
 refine st (v:=.int .u8 ((g3.Kind:Nat):Int)) (ld5 (.tmp rfl rfl) (hs412.cell 1 rfl (0 + 0) rfl)) ?_
 refine g_yes (yk 147 false rfl rfl hc413) ?_
 refine st (v:=.bool (decide ((((g3.Kind:Nat):Int):Int) = 3))) (x_eql (k:=.u8) (a:=((g3.Kind:Nat):Int)) (b:=3) (.tmp rfl rfl) .const) ?_
 refine g_yes (yk 147 false rfl rfl hc413) ?_
 refine st (v:=.bool (decide ((((g3.Kind:Nat):Int):Int) = 3))) (x_move (.tmp rfl rfl)) ?_
 refine jw 5 (fun ρ w => ρ 156 = .bool ((decide ((((g3.Kind:Nat):Int):Int) = 3)) && (decide ((((n377:Nat):Int):Int) ≠ 1)))∧ρ 2 = .pointer (some ⟨g1,0,none⟩)∧ρ 7 = .pointer (some ⟨g52,0,none⟩)∧ρ 147 = .bool false∧St H79 w (obj g28 98 [.slice A3 n3 c3,.bool bad3]::obj g52 30 [.int .u8 ((g3.Kind:Nat):Int),.int .i64 g3.From,.int .u64 ((g3.ID.N:Nat):Int),.int .i64 g3.ID.P,.int .u16 ((g3.Set:Nat):Int),.int .u64 ((g3.Cur.N:Nat):Int),.int .i64 g3.Cur.P,.int .u64 ((g3.Prom.N:Nat):Int),.int .i64 g3.Prom.P,.slice A376 n377 c378,.int .u64 ((g3.Base:Nat):Int),.slice A381 n382 c383,.slice A385 n386 c387,.int .u64 ((g3.Ack:Nat):Int),.int .u64 ((g3.Safe:Nat):Int)]::obj g1 30 [.int .u8 0,.int .i64 0,.int .u64 0,.int .i64 0,.int .u16 0,.int .u64 0,.int .i64 0,.int .u64 0,.int .i64 0,.slice none 0 0,.int .u64 0,.slice none 0 0,.slice none 0 0,.int .u64 0,.int .u64 0]::L)) ?_ ?_
 rcases Bool.eq_false_or_eq_true (decide ((((g3.Kind:Nat):Int):Int) = 3)) with hc414 | hc414
 have hp414:(((g3.Kind:Nat):Int):Int) = 3:=of_decide_eq_true hc414
 refine g_yes (yk 151 true rfl rfl hc414) ?_
 refine st (v:=.pointer (some ⟨g52,0 + 9,none⟩)) (fa30_6 (.tmp rfl hρ395)) ?_
 refine g_yes (yk 151 true rfl rfl hc414) ?_
 refine st (v:=.slice A376 n377 c378) (ld26 (.tmp rfl rfl) (hs412.cell 1 rfl (0 + 9) rfl)) ?_
 refine g_yes (yk 151 true rfl rfl hc414) ?_
 refine st (v:=.int .i64 ((n377:Nat):Int)) (x_len (n:=n377) Try.underlying26 (.tmp rfl rfl)) ?_
 refine g_yes (yk 151 true rfl rfl hc414) ?_
 refine st (v:=.bool (decide ((((n377:Nat):Int):Int) ≠ 1))) (x_neq (k:=.i64) (a:=((n377:Nat):Int)) (b:=1) (.tmp rfl rfl) .const) ?_
 refine g_yes (yk 147 false rfl rfl hc413) ?_
 refine st (v:=.bool (decide ((((n377:Nat):Int):Int) ≠ 1))) (x_pick_t (.tmp rfl (congrArg Value.bool hc414)) (.tmp rfl rfl)) ?_
 exact jw_end ⟨(congrArg Value.bool (jand_t hc414)),hρ393,hρ395,(congrArg Value.bool hc413),hs412⟩
 have hp414:¬ ((((g3.Kind:Nat):Int):Int) = 3):=of_decide_eq_false hc414
 refine g_no (yk 151 false rfl rfl hc414) rfl ?_
 refine g_no (yk 151 false rfl rfl hc414) rfl ?_
 refine g_no (yk 151 false rfl rfl hc414) rfl ?_
 refine g_no (yk 151 false rfl rfl hc414) rfl ?_
 refine g_yes (yk 147 false rfl rfl hc413) ?_
 refine st (v:=.bool false) (x_pick_f (.tmp rfl (congrArg Value.bool hc414)) .const) ?_
 exact jw_end ⟨(congrArg Value.bool (jand_f hc414)),hρ393,hρ395,(congrArg Value.bool hc413),hs412⟩
 rintro ρ w ⟨hρ415,hρ416,hρ417,hρ418,hs419⟩
 refine st (v:=.bool ((decide ((((g3.Kind:Nat):Int):Int) = 3)) && (decide ((((n377:Nat):Int):Int) ≠ 1)))) (x_pick_f (.tmp rfl hρ418) (.tmp rfl hρ415)) ?_
 exact jw_end ⟨(congrArg Value.bool (jor_f hc413)),hρ416,hρ417,hs419⟩
 rintro ρ w ⟨hρ420,hρ421,hρ422,hs423⟩
 refine st (v:=.bool ((decide ((0:Int) < (if bad3 = true then 0 else ((n3:Nat):Int)))) || ((decide ((((g3.Kind:Nat):Int):Int) = 3)) && (decide ((((n377:Nat):Int):Int) ≠ 1))))) (x_move (.tmp rfl hρ420)) ?_
 refine jw 10 (fun ρ w => ρ 168 = .bool (((decide ((0:Int) < (if bad3 = true then 0 else ((n3:Nat):Int)))) || ((decide ((((g3.Kind:Nat):Int):Int) = 3)) && (decide ((((n377:Nat):Int):Int) ≠ 1)))) || ((decide ((((g3.Kind:Nat):Int):Int) ≠ 1)) && (decide ((((g3.ID.N:Nat):Int):Int) = 0))))∧ρ 2 = .pointer (some ⟨g1,0,none⟩)∧ρ 7 = .pointer (some ⟨g52,0,none⟩)∧St H79 w (obj g28 98 [.slice A3 n3 c3,.bool bad3]::obj g52 30 [.int .u8 ((g3.Kind:Nat):Int),.int .i64 g3.From,.int .u64 ((g3.ID.N:Nat):Int),.int .i64 g3.ID.P,.int .u16 ((g3.Set:Nat):Int),.int .u64 ((g3.Cur.N:Nat):Int),.int .i64 g3.Cur.P,.int .u64 ((g3.Prom.N:Nat):Int),.int .i64 g3.Prom.P,.slice A376 n377 c378,.int .u64 ((g3.Base:Nat):Int),.slice A381 n382 c383,.slice A385 n386 c387,.int .u64 ((g3.Ack:Nat):Int),.int .u64 ((g3.Safe:Nat):Int)]::obj g1 30 [.int .u8 0,.int .i64 0,.int .u64 0,.int .i64 0,.int .u16 0,.int .u64 0,.int .i64 0,.int .u64 0,.int .i64 0,.slice none 0 0,.int .u64 0,.slice none 0 0,.slice none 0 0,.int .u64 0,.int .u64 0]::L)) ?_ ?_
 rcases Bool.eq_false_or_eq_true ((decide ((0:Int) < (if bad3 = true then 0 else ((n3:Nat):Int)))) || ((decide ((((g3.Kind:Nat):Int):Int) = 3)) && (decide ((((n377:Nat):Int):Int) ≠ 1)))) with hc424 | hc424
 have hp424:((0:Int) < (if bad3 = true then 0 else ((n3:Nat):Int))) ∨ (((((g3.Kind:Nat):Int):Int) = 3)∧((((n377:Nat):Int):Int) ≠ 1)):=((J_or decide_eq_true_iff (J_and decide_eq_true_iff decide_eq_true_iff))).1 hc424
 refine g_no (yk 158 true rfl rfl hc424) rfl ?_
 refine g_no (yk 158 true rfl rfl hc424) rfl ?_
 refine g_no (yk 158 true rfl rfl hc424) rfl ?_
 refine g_no (yk 158 true rfl rfl hc424) rfl ?_
 refine g_no0 (yn (dj:=162) rfl rfl) ?_
 refine g_no0 (yn (dj:=162) rfl rfl) ?_
 refine g_no0 (yn (dj:=162) rfl rfl) ?_
 refine g_no0 (yn (dj:=162) rfl rfl) ?_
 refine g_no (yk 158 true rfl rfl hc424) rfl ?_
 refine st (v:=.bool true) (x_pick_t (.tmp rfl (congrArg Value.bool hc424)) .const) ?_
 exact jw_end ⟨(congrArg Value.bool (jor_t hc424)),hρ421,hρ422,hs423⟩
 have hp424:¬ (((0:Int) < (if bad3 = true then 0 else ((n3:Nat):Int))) ∨ (((((g3.Kind:Nat):Int):Int) = 3)∧((((n377:Nat):Int):Int) ≠ 1))):=J_no (J_or decide_eq_true_iff (J_and decide_eq_true_iff decide_eq_true_iff)) hc424
 refine g_yes (yk 158 false rfl rfl hc424) ?_
 refine st (v:=.pointer (some ⟨g52,0 + 0,none⟩)) (fa30_0 (.tmp rfl hρ422)) ?_
 refine g_yes (yk 158 false rfl rfl hc424) ?_
 refine st (v:=.int .u8 ((g3.Kind:Nat):Int)) (ld5 (.tmp rfl rfl) (hs423.cell 1 rfl (0 + 0) rfl)) ?_
 refine g_yes (yk 158 false rfl rfl hc424) ?_
 refine st (v:=.bool (decide ((((g3.Kind:Nat):Int):Int) ≠ 1))) (x_neq (k:=.u8) (a:=((g3.Kind:Nat):Int)) (b:=1) (.tmp rfl rfl) .const) ?_
 refine g_yes (yk 158 false rfl rfl hc424) ?_
 refine st (v:=.bool (decide ((((g3.Kind:Nat):Int):Int) ≠ 1))) (x_move (.tmp rfl rfl)) ?_
 refine jw 5 (fun ρ w => ρ 167 = .bool ((decide ((((g3.Kind:Nat):Int):Int) ≠ 1)) && (decide ((((g3.ID.N:Nat):Int):Int) = 0)))∧ρ 2 = .pointer (some ⟨g1,0,none⟩)∧ρ 7 = .pointer (some ⟨g52,0,none⟩)∧ρ 158 = .bool false∧St H79 w (obj g28 98 [.slice A3 n3 c3,.bool bad3]::obj g52 30 [.int .u8 ((g3.Kind:Nat):Int),.int .i64 g3.From,.int .u64 ((g3.ID.N:Nat):Int),.int .i64 g3.ID.P,.int .u16 ((g3.Set:Nat):Int),.int .u64 ((g3.Cur.N:Nat):Int),.int .i64 g3.Cur.P,.int .u64 ((g3.Prom.N:Nat):Int),.int .i64 g3.Prom.P,.slice A376 n377 c378,.int .u64 ((g3.Base:Nat):Int),.slice A381 n382 c383,.slice A385 n386 c387,.int .u64 ((g3.Ack:Nat):Int),.int .u64 ((g3.Safe:Nat):Int)]::obj g1 30 [.int .u8 0,.int .i64 0,.int .u64 0,.int .i64 0,.int .u16 0,.int .u64 0,.int .i64 0,.int .u64 0,.int .i64 0,.slice none 0 0,.int .u64 0,.slice none 0 0,.slice none 0 0,.int .u64 0,.int .u64 0]::L)) ?_ ?_
 rcases Bool.eq_false_or_eq_true (decide ((((g3.Kind:Nat):Int):Int) ≠ 1)) with hc425 | hc425
 have hp425:(((g3.Kind:Nat):Int):Int) ≠ 1:=of_decide_eq_true hc425
 refine g_yes (yk 162 true rfl rfl hc425) ?_
 refine st (v:=.pointer (some ⟨g52,0 + 2,none⟩)) (fa30_2 (.tmp rfl hρ422)) ?_
 refine g_yes (yk 162 true rfl rfl hc425) ?_
 refine st (v:=.pointer (some ⟨g52,0 + 2 + 0,none⟩)) (fa24_0 (.tmp rfl rfl)) ?_
 refine g_yes (yk 162 true rfl rfl hc425) ?_
 refine st (v:=.int .u64 ((g3.ID.N:Nat):Int)) (ld22 (.tmp rfl rfl) (hs423.cell 1 rfl (0 + 2 + 0) rfl)) ?_
 refine g_yes (yk 162 true rfl rfl hc425) ?_
 refine st (v:=.bool (decide ((((g3.ID.N:Nat):Int):Int) = 0))) (x_eql (k:=.u64) (a:=((g3.ID.N:Nat):Int)) (b:=0) (.tmp rfl rfl) .const) ?_
 refine g_yes (yk 158 false rfl rfl hc424) ?_
 refine st (v:=.bool (decide ((((g3.ID.N:Nat):Int):Int) = 0))) (x_pick_t (.tmp rfl (congrArg Value.bool hc425)) (.tmp rfl rfl)) ?_
 exact jw_end ⟨(congrArg Value.bool (jand_t hc425)),hρ421,hρ422,(congrArg Value.bool hc424),hs423⟩
 have hp425:¬ ((((g3.Kind:Nat):Int):Int) ≠ 1):=of_decide_eq_false hc425
 refine g_no (yk 162 false rfl rfl hc425) rfl ?_
 refine g_no (yk 162 false rfl rfl hc425) rfl ?_
 refine g_no (yk 162 false rfl rfl hc425) rfl ?_
 refine g_no (yk 162 false rfl rfl hc425) rfl ?_
 refine g_yes (yk 158 false rfl rfl hc424) ?_
 refine st (v:=.bool false) (x_pick_f (.tmp rfl (congrArg Value.bool hc425)) .const) ?_
 exact jw_end ⟨(congrArg Value.bool (jand_f hc425)),hρ421,hρ422,(congrArg Value.bool hc424),hs423⟩
 rintro ρ w ⟨hρ426,hρ427,hρ428,hρ429,hs430⟩
 refine st (v:=.bool ((decide ((((g3.Kind:Nat):Int):Int) ≠ 1)) && (decide ((((g3.ID.N:Nat):Int):Int) = 0)))) (x_pick_f (.tmp rfl hρ429) (.tmp rfl hρ426)) ?_
 exact jw_end ⟨(congrArg Value.bool (jor_f hc424)),hρ427,hρ428,hs430⟩
 rintro ρ w ⟨hρ431,hρ432,hρ433,hs434⟩
 refine c_nil (n_then ?_)
 rcases Bool.eq_false_or_eq_true (((decide ((0:Int) < (if bad3 = true then 0 else ((n3:Nat):Int)))) || ((decide ((((g3.Kind:Nat):Int):Int) = 3)) && (decide ((((n377:Nat):Int):Int) ≠ 1)))) || ((decide ((((g3.Kind:Nat):Int):Int) ≠ 1)) && (decide ((((g3.ID.N:Nat):Int):Int) = 0)))) with hc435 | hc435
 have hp435:(((0:Int) < (if bad3 = true then 0 else ((n3:Nat):Int))) ∨ (((((g3.Kind:Nat):Int):Int) = 3)∧((((n377:Nat):Int):Int) ≠ 1))) ∨ (((((g3.Kind:Nat):Int):Int) ≠ 1)∧((((g3.ID.N:Nat):Int):Int) = 0)):=((J_or (J_or decide_eq_true_iff (J_and decide_eq_true_iff decide_eq_true_iff)) (J_and decide_eq_true_iff decide_eq_true_iff))).1 hc435
 refine c_cond_t (t:=true) (.tmp rfl (hρ431.trans (congrArg Value.bool hc435))) rfl ?_
 refine c_seq (c_region (st (v:=.agg #[.int .u8 0,.int .i64 0,.int .u64 0,.int .i64 0,.int .u16 0,.int .u64 0,.int .i64 0,.int .u64 0,.int .i64 0,.slice none 0 0,.int .u64 0,.slice none 0 0,.slice none 0 0,.int .u64 0,.int .u64 0]) (bl30 (ps:=[]) Evp.nil rfl) ?_))
 have hs436:=hs434.p2
 refine st_m0 (sto30 (cs':=[.int .u8 0,.int .i64 0,.int .u64 0,.int .i64 0,.int .u16 0,.int .u64 0,.int .i64 0,.int .u64 0,.int .i64 0,.slice none 0 0,.int .u64 0,.slice none 0 0,.slice none 0 0,.int .u64 0,.int .u64 0]) (i:=0) hs436 (v:=.agg #[.int .u8 0,.int .i64 0,.int .u64 0,.int .i64 0,.int .u16 0,.int .u64 0,.int .i64 0,.int .u64 0,.int .i64 0,.slice none 0 0,.int .u64 0,.slice none 0 0,.slice none 0 0,.int .u64 0,.int .u64 0]) (.tmp rfl hρ432) (.tmp rfl rfl) rfl (Nat.le_of_ble_eq_true rfl) (oneA rfl) rfl) ?_
 rintro w437 hs439
 refine st (v:=.int .i64 3) (x_assign .const) ?_
 refine c_nil (n_then (c_ret (r_then (leave_ret (res_two (v:=.agg #[.int .u8 0,.int .i64 0,.int .u64 0,.int .i64 0,.int .u16 0,.int .u64 0,.int .i64 0,.int .u64 0,.int .i64 0,.slice none 0 0,.int .u64 0,.slice none 0 0,.slice none 0 0,.int .u64 0,.int .u64 0]) (u:=.int .i64 3) rfl (.mkCell rfl hρ432 (lv30 (cs:=[.int .u8 0,.int .i64 0,.int .u64 0,.int .i64 0,.int .u16 0,.int .u64 0,.int .i64 0,.int .u64 0,.int .i64 0,.slice none 0 0,.int .u64 0,.slice none 0 0,.slice none 0 0,.int .u64 0,.int .u64 0]) (hs439.at_ 0 rfl 0 rfl) rfl)) (.mk rfl rfl)) ?_))))
 have hans440:decA b = (zF,3):=hd3.trans (tail_no hp3.len hl379.len hp435)
 rw [hans440]
 exact ⟨H79,[.int .u8 0,.int .i64 0,.int .u64 0,.int .i64 0,.int .u16 0,.int .u64 0,.int .i64 0,.int .u64 0,.int .i64 0,.slice none 0 0,.int .u64 0,.slice none 0 0,.slice none 0 0,.int .u64 0,.int .u64 0],(hle24.trans hg80),rfl,⟨none,0,0,none,0,0,none,0,0,rfl,(show 0 < 256 from by omega),(show IB 0 from ⟨by omega,by omega⟩),(show 0 < 18446744073709551616 from by omega),(show IB 0 from ⟨by omega,by omega⟩),(show 0 < 65536 from by omega),(show 0 < 18446744073709551616 from by omega),(show IB 0 from ⟨by omega,by omega⟩),(show 0 < 18446744073709551616 from by omega),(show IB 0 from ⟨by omega,by omega⟩),(Sl.nil _ _ none),(show 0 < 18446744073709551616 from by omega),(Sl.nil _ _ none),(Sl.nil _ _ none),(show 0 < 18446744073709551616 from by omega),(show 0 < 18446744073709551616 from by omega)⟩,hs439.drop.drop.drop⟩
 have hp435:¬ ((((0:Int) < (if bad3 = true then 0 else ((n3:Nat):Int))) ∨ (((((g3.Kind:Nat):Int):Int) = 3)∧((((n377:Nat):Int):Int) ≠ 1))) ∨ (((((g3.Kind:Nat):Int):Int) ≠ 1)∧((((g3.ID.N:Nat):Int):Int) = 0))):=J_no (J_or (J_or decide_eq_true_iff (J_and decide_eq_true_iff decide_eq_true_iff)) (J_and decide_eq_true_iff decide_eq_true_iff)) hc435
 refine c_cond_f (t:=false) (.tmp rfl (hρ431.trans (congrArg Value.bool hc435))) rfl ?_
 refine c_skip (n_then (c_seq (c_region (st (v:=.agg #[.int .u8 ((g3.Kind:Nat):Int),.int .i64 g3.From,.int .u64 ((g3.ID.N:Nat):Int),.int .i64 g3.ID.P,.int .u16 ((g3.Set:Nat):Int),.int .u64 ((g3.Cur.N:Nat):Int),.int .i64 g3.Cur.P,.int .u64 ((g3.Prom.N:Nat):Int),.int .i64 g3.Prom.P,.slice A376 n377 c378,.int .u64 ((g3.Base:Nat):Int),.slice A381 n382 c383,.slice A385 n386 c387,.int .u64 ((g3.Ack:Nat):Int),.int .u64 ((g3.Safe:Nat):Int)]) (ld30 (cs:=[.int .u8 ((g3.Kind:Nat):Int),.int .i64 g3.From,.int .u64 ((g3.ID.N:Nat):Int),.int .i64 g3.ID.P,.int .u16 ((g3.Set:Nat):Int),.int .u64 ((g3.Cur.N:Nat):Int),.int .i64 g3.Cur.P,.int .u64 ((g3.Prom.N:Nat):Int),.int .i64 g3.Prom.P,.slice A376 n377 c378,.int .u64 ((g3.Base:Nat):Int),.slice A381 n382 c383,.slice A385 n386 c387,.int .u64 ((g3.Ack:Nat):Int),.int .u64 ((g3.Safe:Nat):Int)]) (.tmp rfl hρ433) (hs434.at_ 1 rfl (0) rfl) rfl) ?_))))
 have hs441:=hs434.p2
 refine st_m0 (sto30 (cs':=[.int .u8 ((g3.Kind:Nat):Int),.int .i64 g3.From,.int .u64 ((g3.ID.N:Nat):Int),.int .i64 g3.ID.P,.int .u16 ((g3.Set:Nat):Int),.int .u64 ((g3.Cur.N:Nat):Int),.int .i64 g3.Cur.P,.int .u64 ((g3.Prom.N:Nat):Int),.int .i64 g3.Prom.P,.slice A376 n377 c378,.int .u64 ((g3.Base:Nat):Int),.slice A381 n382 c383,.slice A385 n386 c387,.int .u64 ((g3.Ack:Nat):Int),.int .u64 ((g3.Safe:Nat):Int)]) (i:=0) hs441 (v:=.agg #[.int .u8 ((g3.Kind:Nat):Int),.int .i64 g3.From,.int .u64 ((g3.ID.N:Nat):Int),.int .i64 g3.ID.P,.int .u16 ((g3.Set:Nat):Int),.int .u64 ((g3.Cur.N:Nat):Int),.int .i64 g3.Cur.P,.int .u64 ((g3.Prom.N:Nat):Int),.int .i64 g3.Prom.P,.slice A376 n377 c378,.int .u64 ((g3.Base:Nat):Int),.slice A381 n382 c383,.slice A385 n386 c387,.int .u64 ((g3.Ack:Nat):Int),.int .u64 ((g3.Safe:Nat):Int)]) (.tmp rfl hρ432) (.tmp rfl rfl) rfl (Nat.le_of_ble_eq_true rfl) (oneA rfl) rfl) ?_
 rintro w442 hs444
 refine st (v:=.int .i64 0) (x_assign .const) ?_
 refine c_nil (n_then (c_ret (leave_ret (res_two (v:=.agg #[.int .u8 ((g3.Kind:Nat):Int),.int .i64 g3.From,.int .u64 ((g3.ID.N:Nat):Int),.int .i64 g3.ID.P,.int .u16 ((g3.Set:Nat):Int),.int .u64 ((g3.Cur.N:Nat):Int),.int .i64 g3.Cur.P,.int .u64 ((g3.Prom.N:Nat):Int),.int .i64 g3.Prom.P,.slice A376 n377 c378,.int .u64 ((g3.Base:Nat):Int),.slice A381 n382 c383,.slice A385 n386 c387,.int .u64 ((g3.Ack:Nat):Int),.int .u64 ((g3.Safe:Nat):Int)]) (u:=.int .i64 0) rfl (.mkCell rfl hρ432 (lv30 (cs:=[.int .u8 ((g3.Kind:Nat):Int),.int .i64 g3.From,.int .u64 ((g3.ID.N:Nat):Int),.int .i64 g3.ID.P,.int .u16 ((g3.Set:Nat):Int),.int .u64 ((g3.Cur.N:Nat):Int),.int .i64 g3.Cur.P,.int .u64 ((g3.Prom.N:Nat):Int),.int .i64 g3.Prom.P,.slice A376 n377 c378,.int .u64 ((g3.Base:Nat):Int),.slice A381 n382 c383,.slice A385 n386 c387,.int .u64 ((g3.Ack:Nat):Int),.int .u64 ((g3.Safe:Nat):Int)]) (hs444.at_ 0 rfl 0 rfl) rfl)) (.mk rfl rfl)) ?_)))
 have hans445:decA b = (g3,0):=hd3.trans (tail_yes hp397 hc405 hp3.len hl379.len hp435)
 rw [hans445]
 exact ⟨H79,[.int .u8 ((g3.Kind:Nat):Int),.int .i64 g3.From,.int .u64 ((g3.ID.N:Nat):Int),.int .i64 g3.ID.P,.int .u16 ((g3.Set:Nat):Int),.int .u64 ((g3.Cur.N:Nat):Int),.int .i64 g3.Cur.P,.int .u64 ((g3.Prom.N:Nat):Int),.int .i64 g3.Prom.P,.slice A376 n377 c378,.int .u64 ((g3.Base:Nat):Int),.slice A381 n382 c383,.slice A385 n386 c387,.int .u64 ((g3.Ack:Nat):Int),.int .u64 ((g3.Safe:Nat):Int)],(hle24.trans hg80),rfl,⟨A376,n377,c378,A381,n382,c383,A385,n386,c387,rfl,b363,⟨b364,b365⟩,b366,⟨b367,b368⟩,b369,b370,⟨b371,b372⟩,b373,⟨b374,b375⟩,hl379,b380,hl384,hl388,b389,b390⟩,hs444.drop.drop.drop⟩
 have hp59:¬ ((((q31.1:Nat):Int):Int) ≠ 1):=of_decide_eq_false hc59
 refine c_cond_f (t:=false) (.tmp rfl (congrArg Value.bool hc59)) rfl ?_
 refine c_skip (n_then (c_seq (c_region (st (v:=.bool true) (x_assign .const) ?_))))
 refine c_nil (n_then ?_)
 refine c_cut (fun ρ w => ∃ (H446:Hp) (ok3:Bool) (fine3:Bool) (g3:GFrame) (cs3:List Value) (A3:Option Addr) (n3:Nat) (c3:Nat) (cur3:List Nat) (bad3:Bool),ρ 2 = .pointer (some ⟨g1,0,none⟩)∧ρ 6 = .pointer (some ⟨g28,0,none⟩)∧ρ 7 = .pointer (some ⟨g52,0,none⟩)∧ρ 8 = .bool ok3∧ρ 9 = .bool fine3∧(H21.le H446)∧(Bs H446 A3 n3 c3 cur3)∧(kFrame.rep H446 g3 cs3)∧(decA b = finC g3 ok3 fine3 (cur3,bad3))∧St H446 w (obj g28 98 [.slice A3 n3 c3,.bool bad3]::obj g52 30 cs3::obj g1 30 [.int .u8 0,.int .i64 0,.int .u64 0,.int .i64 0,.int .u16 0,.int .u64 0,.int .i64 0,.int .u64 0,.int .i64 0,.slice none 0 0,.int .u64 0,.slice none 0 0,.slice none 0 0,.int .u64 0,.int .u64 0]::L)) ?_ ?_
 refine c_seq (c_region (st (v:=.pointer (some ⟨g52,0 + 0,none⟩)) (fa30_0 (.tmp rfl rfl)) ?_))
 refine st (v:=.int .u8 ((q31.1:Nat):Int)) (ld5 (.tmp rfl rfl) (hs58.cell 0 rfl (0 + 0) rfl)) ?_
 refine c_nil (n_then (c_block (c_seq (c_region (st (v:=.bool (decide ((((q31.1:Nat):Int):Int) = 1))) (x_eql (k:=.u8) (a:=((q31.1:Nat):Int)) (b:=1) (.tmp rfl rfl) .const) ?_)))))
 refine st (v:=.bool (decide ((((q31.1:Nat):Int):Int) = 1))) (x_assign (.tmp rfl rfl)) ?_
 refine c_nil (n_then ?_)
 have hc448:(decide ((((q31.1:Nat):Int):Int) = 1)) = true:=(decide_eq_true (by omega))
 refine c_cond_t (t:=true) (.tmp rfl (congrArg Value.bool hc448)) rfl ?_
 refine c_seq (c_region (st (v:=.pointer (some ⟨g28,0,none⟩)) (x_move (.tmp rfl rfl)) ?_))
 have hs449:=hs58.p1
 refine st_c cb34 .func (evs1 (.tmp rfl rfl)) (vdec_spec hs449 hp50 (by omega) ) ?_
 rintro e w451 ⟨cs453,q450,A455,n456,c457,rfl,hr454,hq458,hp459,hn460,hs452⟩
 obtain ⟨rfl,b461,⟨b462,b463⟩⟩:=hr454
 refine ⟨_,rfl,?_⟩
 refine st (v:=.tuple #[.agg #[.int .u64 ((q450.1.1.N:Nat):Int),.int .i64 q450.1.1.P],.bool q450.1.2]) (x_move (.tmp rfl rfl)) ?_
 refine st (v:=.agg #[.int .u64 ((q450.1.1.N:Nat):Int),.int .i64 q450.1.1.P]) (x_extract (.tmp rfl rfl) (i:=0) rfl) ?_
 refine st (v:=.bool q450.1.2) (x_extract (.tmp rfl rfl) (i:=1) rfl) ?_
 refine st (v:=.pointer (some ⟨g52,0 + 5,none⟩)) (fa30_4 (.tmp rfl rfl)) ?_
 have hs464:=hs452.p1
 refine st_m0 (sto24 (cs':=[.int .u8 ((q31.1:Nat):Int),.int .i64 ((q42.1:Nat):Int),.int .u64 0,.int .i64 0,.int .u16 0,.int .u64 ((q450.1.1.N:Nat):Int),.int .i64 q450.1.1.P,.int .u64 0,.int .i64 0,.slice none 0 0,.int .u64 0,.slice none 0 0,.slice none 0 0,.int .u64 0,.int .u64 0]) (i:=0 + 5) hs464 (v:=.agg #[.int .u64 ((q450.1.1.N:Nat):Int),.int .i64 q450.1.1.P]) (.tmp rfl rfl) (.tmp rfl rfl) rfl (Nat.le_of_ble_eq_true rfl) (oneA rfl) rfl) ?_
 rintro w465 hs467
 refine st (v:=.bool q450.1.2) (x_assign (.tmp rfl rfl)) ?_
 refine c_nil (n_then (c_region (st (v:=.pointer (some ⟨g28,0,none⟩)) (x_move (.tmp rfl rfl)) ?_)))
 have hs468:=hs467.p1
 refine st_c cb34 .func (evs1 (.tmp rfl rfl)) (vdec_spec hs468 hp459 (by omega) ) ?_
 rintro e w470 ⟨cs472,q469,A474,n475,c476,rfl,hr473,hq477,hp478,hn479,hs471⟩
 obtain ⟨rfl,b480,⟨b481,b482⟩⟩:=hr473
 refine ⟨_,rfl,?_⟩
 refine st (v:=.tuple #[.agg #[.int .u64 ((q469.1.1.N:Nat):Int),.int .i64 q469.1.1.P],.bool q469.1.2]) (x_move (.tmp rfl rfl)) ?_
 refine st (v:=.agg #[.int .u64 ((q469.1.1.N:Nat):Int),.int .i64 q469.1.1.P]) (x_extract (.tmp rfl rfl) (i:=0) rfl) ?_
 refine st (v:=.bool q469.1.2) (x_extract (.tmp rfl rfl) (i:=1) rfl) ?_
 refine st (v:=.pointer (some ⟨g52,0 + 7,none⟩)) (fa30_5 (.tmp rfl rfl)) ?_
 have hs483:=hs471.p1
 refine st_m0 (sto24 (cs':=[.int .u8 ((q31.1:Nat):Int),.int .i64 ((q42.1:Nat):Int),.int .u64 0,.int .i64 0,.int .u16 0,.int .u64 ((q450.1.1.N:Nat):Int),.int .i64 q450.1.1.P,.int .u64 ((q469.1.1.N:Nat):Int),.int .i64 q469.1.1.P,.slice none 0 0,.int .u64 0,.slice none 0 0,.slice none 0 0,.int .u64 0,.int .u64 0]) (i:=0 + 7) hs483 (v:=.agg #[.int .u64 ((q469.1.1.N:Nat):Int),.int .i64 q469.1.1.P]) (.tmp rfl rfl) (.tmp rfl rfl) rfl (Nat.le_of_ble_eq_true rfl) (oneA rfl) rfl) ?_
 rintro w484 hs486
 refine st (v:=.bool q469.1.2) (x_assign (.tmp rfl rfl)) ?_
 refine c_nil (n_block ?_)
 have hd0:decA b = decP (openL b).1:=decA_read (by omega) (Classical.not_not.1 hp15)
 have hd1:=dec_head hd0 hq36 hq47
 have hd:=dec_1 hd1 (by omega) hq458 hq477
 exact n_then ⟨_,rfl,H21,q450.1.2,q469.1.2,(GFrame.mk q31.1 ((q42.1:Nat):Int) (GViewID.mk 0 0) 0 q450.1.1 q469.1.1 [] 0 [] [] 0 0),[.int .u8 ((q31.1:Nat):Int),.int .i64 ((q42.1:Nat):Int),.int .u64 0,.int .i64 0,.int .u16 0,.int .u64 ((q450.1.1.N:Nat):Int),.int .i64 q450.1.1.P,.int .u64 ((q469.1.1.N:Nat):Int),.int .i64 q469.1.1.P,.slice none 0 0,.int .u64 0,.slice none 0 0,.slice none 0 0,.int .u64 0,.int .u64 0],A474,n475,c476,q469.2.1,q469.2.2,rfl,rfl,rfl,rfl,rfl,(Hp.le.refl _),hp478,⟨none,0,0,none,0,0,none,0,0,rfl,hb41,(show IB ((q42.1:Nat):Int) from ⟨by omega,by omega⟩),(show 0 < 18446744073709551616 from by omega),(show IB 0 from ⟨by omega,by omega⟩),(show 0 < 65536 from by omega),b461,⟨b462,b463⟩,b480,⟨b481,b482⟩,(Sl.nil _ _ none),(show 0 < 18446744073709551616 from by omega),(Sl.nil _ _ none),(Sl.nil _ _ none),(show 0 < 18446744073709551616 from by omega),(show 0 < 18446744073709551616 from by omega)⟩,hd,(((hs486.p2).p1).p2)⟩
 rintro ρ w ⟨H446,ok3,fine3,g3,cs3,A3,n3,c3,cur3,bad3,hρ487,hρ488,hρ489,hρ490,hρ491,hg447,hp3,hr3,hd3,hs492⟩
 obtain ⟨A506,n507,c508,A511,n512,c513,A515,n516,c517,rfl,b493,⟨b494,b495⟩,b496,⟨b497,b498⟩,b499,b500,⟨b501,b502⟩,b503,⟨b504,b505⟩,hl509,b510,hl514,hl518,b519,b520⟩:=hr3
 have:=hl509.len; have:n507 * 48 ≤ 140737488351232:=hl509.bnd; have:=hl509.le
 have:=hl514.len; have:n512 * 24 ≤ 140737488351232:=hl514.bnd; have:=hl514.le
 have:=hl518.len; have:n516 * 32 ≤ 140737488351232:=hl518.bnd; have:=hl518.le
 refine c_seq (c_seq (c_region (st (v:=.bool ok3) (x_move (.tmp rfl hρ490)) ?_)))
 refine st (v:=.bool (!ok3)) (x_not (.tmp rfl rfl)) ?_
 refine st (v:=.bool (!ok3)) (x_move (.tmp rfl rfl)) ?_
 refine jw 3 (fun ρ w => ρ 137 = .bool ((!ok3) || (!fine3))∧ρ 2 = .pointer (some ⟨g1,0,none⟩)∧ρ 6 = .pointer (some ⟨g28,0,none⟩)∧ρ 7 = .pointer (some ⟨g52,0,none⟩)∧St H446 w (obj g28 98 [.slice A3 n3 c3,.bool bad3]::obj g52 30 [.int .u8 ((g3.Kind:Nat):Int),.int .i64 g3.From,.int .u64 ((g3.ID.N:Nat):Int),.int .i64 g3.ID.P,.int .u16 ((g3.Set:Nat):Int),.int .u64 ((g3.Cur.N:Nat):Int),.int .i64 g3.Cur.P,.int .u64 ((g3.Prom.N:Nat):Int),.int .i64 g3.Prom.P,.slice A506 n507 c508,.int .u64 ((g3.Base:Nat):Int),.slice A511 n512 c513,.slice A515 n516 c517,.int .u64 ((g3.Ack:Nat):Int),.int .u64 ((g3.Safe:Nat):Int)]::obj g1 30 [.int .u8 0,.int .i64 0,.int .u64 0,.int .i64 0,.int .u16 0,.int .u64 0,.int .i64 0,.int .u64 0,.int .i64 0,.slice none 0 0,.int .u64 0,.slice none 0 0,.slice none 0 0,.int .u64 0,.int .u64 0]::L)) ?_ ?_
 rcases Bool.eq_false_or_eq_true ok3 with hc521 | hc521
 refine g_yes (yl (dj:=134) (b:=false) rfl rfl (congrArg Value.bool (by rw [hc521]; rfl))) ?_
 refine st (v:=.bool fine3) (x_move (.tmp rfl hρ491)) ?_
 refine g_yes (yl (dj:=134) (b:=false) rfl rfl (congrArg Value.bool (by rw [hc521]; rfl))) ?_
 refine st (v:=.bool (!fine3)) (x_not (.tmp rfl rfl)) ?_
 refine st (v:=.bool (!fine3)) (x_pick_f (.tmp rfl (congrArg Value.bool (by rw [hc521]; rfl))) (.tmp rfl rfl)) ?_
 exact jw_end ⟨(congrArg Value.bool (jor_f (by rw [hc521]; rfl))),hρ487,hρ488,hρ489,hs492⟩
 refine g_no (yl (dj:=134) (b:=true) rfl rfl (congrArg Value.bool (by rw [hc521]; rfl))) rfl ?_
 refine g_no (yl (dj:=134) (b:=true) rfl rfl (congrArg Value.bool (by rw [hc521]; rfl))) rfl ?_
 refine st (v:=.bool true) (x_pick_t (.tmp rfl (congrArg Value.bool (by rw [hc521]; rfl))) .const) ?_
 exact jw_end ⟨(congrArg Value.bool (jor_t (by rw [hc521]; rfl))),hρ487,hρ488,hρ489,hs492⟩
 rintro ρ w ⟨hρ522,hρ523,hρ524,hρ525,hs526⟩
 refine st (v:=.bool ((!ok3) || (!fine3))) (x_move (.tmp rfl hρ522)) ?_
 rcases Bool.eq_false_or_eq_true ((!ok3) || (!fine3)) with hc527 | hc527
 have hp527:(¬ (ok3 = true)) ∨ (¬ (fine3 = true)):=((J_or (J_not Iff.rfl) (J_not Iff.rfl))).1 hc527
 refine g_no (yk 138 true rfl rfl hc527) rfl ?_
 refine g_no (yk 138 true rfl rfl hc527) rfl ?_
 refine st (v:=.bool true) (x_pick_t (.tmp rfl (congrArg Value.bool hc527)) .const) ?_
 refine st (v:=.bool true) (x_move (.tmp rfl rfl)) ?_
 refine g_no (yl (dj:=142) (b:=true) rfl rfl rfl) rfl ?_
 refine g_no (yl (dj:=142) (b:=true) rfl rfl rfl) rfl ?_
 refine g_no (yl (dj:=142) (b:=true) rfl rfl rfl) rfl ?_
 refine st (v:=.bool true) (x_pick_t (.tmp rfl rfl) .const) ?_
 refine st (v:=.bool true) (x_move (.tmp rfl rfl)) ?_
 refine g_no (yl (dj:=147) (b:=true) rfl rfl rfl) rfl ?_
 refine g_no (yl (dj:=147) (b:=true) rfl rfl rfl) rfl ?_
 refine g_no (yl (dj:=147) (b:=true) rfl rfl rfl) rfl ?_
 refine g_no (yl (dj:=147) (b:=true) rfl rfl rfl) rfl ?_
 refine g_no0 (yn (dj:=151) rfl rfl) ?_
 refine g_no0 (yn (dj:=151) rfl rfl) ?_
 refine g_no0 (yn (dj:=151) rfl rfl) ?_
 refine g_no0 (yn (dj:=151) rfl rfl) ?_
 refine g_no (yl (dj:=147) (b:=true) rfl rfl rfl) rfl ?_
 refine st (v:=.bool true) (x_pick_t (.tmp rfl rfl) .const) ?_
 refine st (v:=.bool true) (x_move (.tmp rfl rfl)) ?_
 refine g_no (yl (dj:=158) (b:=true) rfl rfl rfl) rfl ?_
 refine g_no (yl (dj:=158) (b:=true) rfl rfl rfl) rfl ?_
 refine g_no (yl (dj:=158) (b:=true) rfl rfl rfl) rfl ?_
 refine g_no (yl (dj:=158) (b:=true) rfl rfl rfl) rfl ?_
 refine g_no0 (yn (dj:=162) rfl rfl) ?_
 refine g_no0 (yn (dj:=162) rfl rfl) ?_
 refine g_no0 (yn (dj:=162) rfl rfl) ?_
 refine g_no0 (yn (dj:=162) rfl rfl) ?_
 refine g_no (yl (dj:=158) (b:=true) rfl rfl rfl) rfl ?_
 refine st (v:=.bool true) (x_pick_t (.tmp rfl rfl) .const) ?_
 refine c_nil (n_then (c_cond_t (t:=true) (.tmp rfl rfl) rfl ?_))
 refine c_seq (c_region (st (v:=.agg #[.int .u8 0,.int .i64 0,.int .u64 0,.int .i64 0,.int .u16 0,.int .u64 0,.int .i64 0,.int .u64 0,.int .i64 0,.slice none 0 0,.int .u64 0,.slice none 0 0,.slice none 0 0,.int .u64 0,.int .u64 0]) (bl30 (ps:=[]) Evp.nil rfl) ?_))
 have hs528:=hs526.p2
 refine st_m0 (sto30 (cs':=[.int .u8 0,.int .i64 0,.int .u64 0,.int .i64 0,.int .u16 0,.int .u64 0,.int .i64 0,.int .u64 0,.int .i64 0,.slice none 0 0,.int .u64 0,.slice none 0 0,.slice none 0 0,.int .u64 0,.int .u64 0]) (i:=0) hs528 (v:=.agg #[.int .u8 0,.int .i64 0,.int .u64 0,.int .i64 0,.int .u16 0,.int .u64 0,.int .i64 0,.int .u64 0,.int .i64 0,.slice none 0 0,.int .u64 0,.slice none 0 0,.slice none 0 0,.int .u64 0,.int .u64 0]) (.tmp rfl hρ523) (.tmp rfl rfl) rfl (Nat.le_of_ble_eq_true rfl) (oneA rfl) rfl) ?_
 rintro w529 hs531
 refine st (v:=.int .i64 3) (x_assign .const) ?_
 refine c_nil (n_then (c_ret (r_then (leave_ret (res_two (v:=.agg #[.int .u8 0,.int .i64 0,.int .u64 0,.int .i64 0,.int .u16 0,.int .u64 0,.int .i64 0,.int .u64 0,.int .i64 0,.slice none 0 0,.int .u64 0,.slice none 0 0,.slice none 0 0,.int .u64 0,.int .u64 0]) (u:=.int .i64 3) rfl (.mkCell rfl hρ523 (lv30 (cs:=[.int .u8 0,.int .i64 0,.int .u64 0,.int .i64 0,.int .u16 0,.int .u64 0,.int .i64 0,.int .u64 0,.int .i64 0,.slice none 0 0,.int .u64 0,.slice none 0 0,.slice none 0 0,.int .u64 0,.int .u64 0]) (hs531.at_ 0 rfl 0 rfl) rfl)) (.mk rfl rfl)) ?_))))
 have hans532:decA b = (zF,3):=hd3.trans (tail_ok hp527)
 rw [hans532]
 exact ⟨H446,[.int .u8 0,.int .i64 0,.int .u64 0,.int .i64 0,.int .u16 0,.int .u64 0,.int .i64 0,.int .u64 0,.int .i64 0,.slice none 0 0,.int .u64 0,.slice none 0 0,.slice none 0 0,.int .u64 0,.int .u64 0],(hle24.trans hg447),rfl,⟨none,0,0,none,0,0,none,0,0,rfl,(show 0 < 256 from by omega),(show IB 0 from ⟨by omega,by omega⟩),(show 0 < 18446744073709551616 from by omega),(show IB 0 from ⟨by omega,by omega⟩),(show 0 < 65536 from by omega),(show 0 < 18446744073709551616 from by omega),(show IB 0 from ⟨by omega,by omega⟩),(show 0 < 18446744073709551616 from by omega),(show IB 0 from ⟨by omega,by omega⟩),(Sl.nil _ _ none),(show 0 < 18446744073709551616 from by omega),(Sl.nil _ _ none),(Sl.nil _ _ none),(show 0 < 18446744073709551616 from by omega),(show 0 < 18446744073709551616 from by omega)⟩,hs531.drop.drop.drop⟩
 have hp527:¬ ((¬ (ok3 = true)) ∨ (¬ (fine3 = true))):=J_no (J_or (J_not Iff.rfl) (J_not Iff.rfl)) hc527
 refine g_yes (yk 138 false rfl rfl hc527) ?_
 refine st (v:=.pointer (some ⟨g28,0,none⟩)) (x_move (.tmp rfl hρ524)) ?_
 refine g_yes (yk 138 false rfl rfl hc527) ?_
 refine st_c cb37 .func (evs1 (.tmp rfl rfl)) (bad_own hs526) ?_
 rintro e w533 ⟨rfl,hs534⟩
 refine ⟨_,rfl,?_⟩
 refine st (v:=.bool bad3) (x_pick_f (.tmp rfl (congrArg Value.bool hc527)) (.tmp rfl rfl)) ?_
 refine st (v:=.bool bad3) (x_move (.tmp rfl rfl)) ?_
 rcases Bool.eq_false_or_eq_true bad3 with hc535 | hc535
 refine g_no (yk 142 true rfl rfl hc535) rfl ?_
 refine g_no (yk 142 true rfl rfl hc535) rfl ?_
 refine g_no (yk 142 true rfl rfl hc535) rfl ?_
 refine st (v:=.bool true) (x_pick_t (.tmp rfl (congrArg Value.bool hc535)) .const) ?_
 refine st (v:=.bool true) (x_move (.tmp rfl rfl)) ?_
 refine g_no (yl (dj:=147) (b:=true) rfl rfl rfl) rfl ?_
 refine g_no (yl (dj:=147) (b:=true) rfl rfl rfl) rfl ?_
 refine g_no (yl (dj:=147) (b:=true) rfl rfl rfl) rfl ?_
 refine g_no (yl (dj:=147) (b:=true) rfl rfl rfl) rfl ?_
 refine g_no0 (yn (dj:=151) rfl rfl) ?_
 refine g_no0 (yn (dj:=151) rfl rfl) ?_
 refine g_no0 (yn (dj:=151) rfl rfl) ?_
 refine g_no0 (yn (dj:=151) rfl rfl) ?_
 refine g_no (yl (dj:=147) (b:=true) rfl rfl rfl) rfl ?_
 refine st (v:=.bool true) (x_pick_t (.tmp rfl rfl) .const) ?_
 refine st (v:=.bool true) (x_move (.tmp rfl rfl)) ?_
 refine g_no (yl (dj:=158) (b:=true) rfl rfl rfl) rfl ?_
 refine g_no (yl (dj:=158) (b:=true) rfl rfl rfl) rfl ?_
 refine g_no (yl (dj:=158) (b:=true) rfl rfl rfl) rfl ?_
 refine g_no (yl (dj:=158) (b:=true) rfl rfl rfl) rfl ?_
 refine g_no0 (yn (dj:=162) rfl rfl) ?_
 refine g_no0 (yn (dj:=162) rfl rfl) ?_
 refine g_no0 (yn (dj:=162) rfl rfl) ?_
 refine g_no0 (yn (dj:=162) rfl rfl) ?_
 refine g_no (yl (dj:=158) (b:=true) rfl rfl rfl) rfl ?_
 refine st (v:=.bool true) (x_pick_t (.tmp rfl rfl) .const) ?_
 refine c_nil (n_then (c_cond_t (t:=true) (.tmp rfl rfl) rfl ?_))
 refine c_seq (c_region (st (v:=.agg #[.int .u8 0,.int .i64 0,.int .u64 0,.int .i64 0,.int .u16 0,.int .u64 0,.int .i64 0,.int .u64 0,.int .i64 0,.slice none 0 0,.int .u64 0,.slice none 0 0,.slice none 0 0,.int .u64 0,.int .u64 0]) (bl30 (ps:=[]) Evp.nil rfl) ?_))
 have hs536:=hs534.p2
 refine st_m0 (sto30 (cs':=[.int .u8 0,.int .i64 0,.int .u64 0,.int .i64 0,.int .u16 0,.int .u64 0,.int .i64 0,.int .u64 0,.int .i64 0,.slice none 0 0,.int .u64 0,.slice none 0 0,.slice none 0 0,.int .u64 0,.int .u64 0]) (i:=0) hs536 (v:=.agg #[.int .u8 0,.int .i64 0,.int .u64 0,.int .i64 0,.int .u16 0,.int .u64 0,.int .i64 0,.int .u64 0,.int .i64 0,.slice none 0 0,.int .u64 0,.slice none 0 0,.slice none 0 0,.int .u64 0,.int .u64 0]) (.tmp rfl hρ523) (.tmp rfl rfl) rfl (Nat.le_of_ble_eq_true rfl) (oneA rfl) rfl) ?_
 rintro w537 hs539
 refine st (v:=.int .i64 3) (x_assign .const) ?_
 refine c_nil (n_then (c_ret (r_then (leave_ret (res_two (v:=.agg #[.int .u8 0,.int .i64 0,.int .u64 0,.int .i64 0,.int .u16 0,.int .u64 0,.int .i64 0,.int .u64 0,.int .i64 0,.slice none 0 0,.int .u64 0,.slice none 0 0,.slice none 0 0,.int .u64 0,.int .u64 0]) (u:=.int .i64 3) rfl (.mkCell rfl hρ523 (lv30 (cs:=[.int .u8 0,.int .i64 0,.int .u64 0,.int .i64 0,.int .u16 0,.int .u64 0,.int .i64 0,.int .u64 0,.int .i64 0,.slice none 0 0,.int .u64 0,.slice none 0 0,.slice none 0 0,.int .u64 0,.int .u64 0]) (hs539.at_ 0 rfl 0 rfl) rfl)) (.mk rfl rfl)) ?_))))
 have hans540:decA b = (zF,3):=hd3.trans (fin_bad hc535)
 rw [hans540]
 exact ⟨H446,[.int .u8 0,.int .i64 0,.int .u64 0,.int .i64 0,.int .u16 0,.int .u64 0,.int .i64 0,.int .u64 0,.int .i64 0,.slice none 0 0,.int .u64 0,.slice none 0 0,.slice none 0 0,.int .u64 0,.int .u64 0],(hle24.trans hg447),rfl,⟨none,0,0,none,0,0,none,0,0,rfl,(show 0 < 256 from by omega),(show IB 0 from ⟨by omega,by omega⟩),(show 0 < 18446744073709551616 from by omega),(show IB 0 from ⟨by omega,by omega⟩),(show 0 < 65536 from by omega),(show 0 < 18446744073709551616 from by omega),(show IB 0 from ⟨by omega,by omega⟩),(show 0 < 18446744073709551616 from by omega),(show IB 0 from ⟨by omega,by omega⟩),(Sl.nil _ _ none),(show 0 < 18446744073709551616 from by omega),(Sl.nil _ _ none),(Sl.nil _ _ none),(show 0 < 18446744073709551616 from by omega),(show 0 < 18446744073709551616 from by omega)⟩,hs539.drop.drop.drop⟩
 refine g_yes (yk 142 false rfl rfl hc535) ?_
 refine st (v:=.pointer (some ⟨g28,0,none⟩)) (x_move (.tmp rfl hρ524)) ?_
 refine g_yes (yk 142 false rfl rfl hc535) ?_
 refine st_c cb40 .func (evs1 (.tmp rfl rfl)) (left_own (b:=bad3) hs534) ?_
 rintro e w541 ⟨rfl,hs542⟩
 refine ⟨_,rfl,?_⟩
 refine g_yes (yk 142 false rfl rfl hc535) ?_
 refine st (v:=.bool (decide ((0:Int) < (if bad3 = true then 0 else ((n3:Nat):Int))))) (x_gtr (k:=.i64) (a:=(if bad3 = true then 0 else ((n3:Nat):Int))) (b:=0) (.tmp rfl rfl) .const) ?_
 refine st (v:=.bool (decide ((0:Int) < (if bad3 = true then 0 else ((n3:Nat):Int))))) (x_pick_f (.tmp rfl (congrArg Value.bool hc535)) (.tmp rfl rfl)) ?_
 refine st (v:=.bool (decide ((0:Int) < (if bad3 = true then 0 else ((n3:Nat):Int))))) (x_move (.tmp rfl rfl)) ?_
 refine jw 10 (fun ρ w => ρ 157 = .bool ((decide ((0:Int) < (if bad3 = true then 0 else ((n3:Nat):Int)))) || ((decide ((((g3.Kind:Nat):Int):Int) = 3)) && (decide ((((n507:Nat):Int):Int) ≠ 1))))∧ρ 2 = .pointer (some ⟨g1,0,none⟩)∧ρ 7 = .pointer (some ⟨g52,0,none⟩)∧St H446 w (obj g28 98 [.slice A3 n3 c3,.bool bad3]::obj g52 30 [.int .u8 ((g3.Kind:Nat):Int),.int .i64 g3.From,.int .u64 ((g3.ID.N:Nat):Int),.int .i64 g3.ID.P,.int .u16 ((g3.Set:Nat):Int),.int .u64 ((g3.Cur.N:Nat):Int),.int .i64 g3.Cur.P,.int .u64 ((g3.Prom.N:Nat):Int),.int .i64 g3.Prom.P,.slice A506 n507 c508,.int .u64 ((g3.Base:Nat):Int),.slice A511 n512 c513,.slice A515 n516 c517,.int .u64 ((g3.Ack:Nat):Int),.int .u64 ((g3.Safe:Nat):Int)]::obj g1 30 [.int .u8 0,.int .i64 0,.int .u64 0,.int .i64 0,.int .u16 0,.int .u64 0,.int .i64 0,.int .u64 0,.int .i64 0,.slice none 0 0,.int .u64 0,.slice none 0 0,.slice none 0 0,.int .u64 0,.int .u64 0]::L)) ?_ ?_
 rcases Bool.eq_false_or_eq_true (decide ((0:Int) < (if bad3 = true then 0 else ((n3:Nat):Int)))) with hc543 | hc543
 have hp543:(0:Int) < (if bad3 = true then 0 else ((n3:Nat):Int)):=of_decide_eq_true hc543
 refine g_no (yk 147 true rfl rfl hc543) rfl ?_
 refine g_no (yk 147 true rfl rfl hc543) rfl ?_
 refine g_no (yk 147 true rfl rfl hc543) rfl ?_
 refine g_no (yk 147 true rfl rfl hc543) rfl ?_
 refine g_no0 (yn (dj:=151) rfl rfl) ?_
 refine g_no0 (yn (dj:=151) rfl rfl) ?_
 refine g_no0 (yn (dj:=151) rfl rfl) ?_
 refine g_no0 (yn (dj:=151) rfl rfl) ?_
 refine g_no (yk 147 true rfl rfl hc543) rfl ?_
 refine st (v:=.bool true) (x_pick_t (.tmp rfl (congrArg Value.bool hc543)) .const) ?_
 exact jw_end ⟨(congrArg Value.bool (jor_t hc543)),hρ523,hρ525,hs542⟩
 have hp543:¬ ((0:Int) < (if bad3 = true then 0 else ((n3:Nat):Int))):=of_decide_eq_false hc543
 refine g_yes (yk 147 false rfl rfl hc543) ?_
 refine st (v:=.pointer (some ⟨g52,0 + 0,none⟩)) (fa30_0 (.tmp rfl hρ525)) ?_
 refine g_yes (yk 147 false rfl rfl hc543) ?_
 refine st (v:=.int .u8 ((g3.Kind:Nat):Int)) (ld5 (.tmp rfl rfl) (hs542.cell 1 rfl (0 + 0) rfl)) ?_
 refine g_yes (yk 147 false rfl rfl hc543) ?_
 refine st (v:=.bool (decide ((((g3.Kind:Nat):Int):Int) = 3))) (x_eql (k:=.u8) (a:=((g3.Kind:Nat):Int)) (b:=3) (.tmp rfl rfl) .const) ?_
 refine g_yes (yk 147 false rfl rfl hc543) ?_
 refine st (v:=.bool (decide ((((g3.Kind:Nat):Int):Int) = 3))) (x_move (.tmp rfl rfl)) ?_
 refine jw 5 (fun ρ w => ρ 156 = .bool ((decide ((((g3.Kind:Nat):Int):Int) = 3)) && (decide ((((n507:Nat):Int):Int) ≠ 1)))∧ρ 2 = .pointer (some ⟨g1,0,none⟩)∧ρ 7 = .pointer (some ⟨g52,0,none⟩)∧ρ 147 = .bool false∧St H446 w (obj g28 98 [.slice A3 n3 c3,.bool bad3]::obj g52 30 [.int .u8 ((g3.Kind:Nat):Int),.int .i64 g3.From,.int .u64 ((g3.ID.N:Nat):Int),.int .i64 g3.ID.P,.int .u16 ((g3.Set:Nat):Int),.int .u64 ((g3.Cur.N:Nat):Int),.int .i64 g3.Cur.P,.int .u64 ((g3.Prom.N:Nat):Int),.int .i64 g3.Prom.P,.slice A506 n507 c508,.int .u64 ((g3.Base:Nat):Int),.slice A511 n512 c513,.slice A515 n516 c517,.int .u64 ((g3.Ack:Nat):Int),.int .u64 ((g3.Safe:Nat):Int)]::obj g1 30 [.int .u8 0,.int .i64 0,.int .u64 0,.int .i64 0,.int .u16 0,.int .u64 0,.int .i64 0,.int .u64 0,.int .i64 0,.slice none 0 0,.int .u64 0,.slice none 0 0,.slice none 0 0,.int .u64 0,.int .u64 0]::L)) ?_ ?_
 rcases Bool.eq_false_or_eq_true (decide ((((g3.Kind:Nat):Int):Int) = 3)) with hc544 | hc544
 have hp544:(((g3.Kind:Nat):Int):Int) = 3:=of_decide_eq_true hc544
 refine g_yes (yk 151 true rfl rfl hc544) ?_
 refine st (v:=.pointer (some ⟨g52,0 + 9,none⟩)) (fa30_6 (.tmp rfl hρ525)) ?_
 refine g_yes (yk 151 true rfl rfl hc544) ?_
 refine st (v:=.slice A506 n507 c508) (ld26 (.tmp rfl rfl) (hs542.cell 1 rfl (0 + 9) rfl)) ?_
 refine g_yes (yk 151 true rfl rfl hc544) ?_
 refine st (v:=.int .i64 ((n507:Nat):Int)) (x_len (n:=n507) Try.underlying26 (.tmp rfl rfl)) ?_
 refine g_yes (yk 151 true rfl rfl hc544) ?_
 refine st (v:=.bool (decide ((((n507:Nat):Int):Int) ≠ 1))) (x_neq (k:=.i64) (a:=((n507:Nat):Int)) (b:=1) (.tmp rfl rfl) .const) ?_
 refine g_yes (yk 147 false rfl rfl hc543) ?_
 refine st (v:=.bool (decide ((((n507:Nat):Int):Int) ≠ 1))) (x_pick_t (.tmp rfl (congrArg Value.bool hc544)) (.tmp rfl rfl)) ?_
 exact jw_end ⟨(congrArg Value.bool (jand_t hc544)),hρ523,hρ525,(congrArg Value.bool hc543),hs542⟩
 have hp544:¬ ((((g3.Kind:Nat):Int):Int) = 3):=of_decide_eq_false hc544
 refine g_no (yk 151 false rfl rfl hc544) rfl ?_
 refine g_no (yk 151 false rfl rfl hc544) rfl ?_
 refine g_no (yk 151 false rfl rfl hc544) rfl ?_
 refine g_no (yk 151 false rfl rfl hc544) rfl ?_
 refine g_yes (yk 147 false rfl rfl hc543) ?_
 refine st (v:=.bool false) (x_pick_f (.tmp rfl (congrArg Value.bool hc544)) .const) ?_
 exact jw_end ⟨(congrArg Value.bool (jand_f hc544)),hρ523,hρ525,(congrArg Value.bool hc543),hs542⟩
 rintro ρ w ⟨hρ545,hρ546,hρ547,hρ548,hs549⟩
 refine st (v:=.bool ((decide ((((g3.Kind:Nat):Int):Int) = 3)) && (decide ((((n507:Nat):Int):Int) ≠ 1)))) (x_pick_f (.tmp rfl hρ548) (.tmp rfl hρ545)) ?_
 exact jw_end ⟨(congrArg Value.bool (jor_f hc543)),hρ546,hρ547,hs549⟩
 rintro ρ w ⟨hρ550,hρ551,hρ552,hs553⟩
 refine st (v:=.bool ((decide ((0:Int) < (if bad3 = true then 0 else ((n3:Nat):Int)))) || ((decide ((((g3.Kind:Nat):Int):Int) = 3)) && (decide ((((n507:Nat):Int):Int) ≠ 1))))) (x_move (.tmp rfl hρ550)) ?_
 refine jw 10 (fun ρ w => ρ 168 = .bool (((decide ((0:Int) < (if bad3 = true then 0 else ((n3:Nat):Int)))) || ((decide ((((g3.Kind:Nat):Int):Int) = 3)) && (decide ((((n507:Nat):Int):Int) ≠ 1)))) || ((decide ((((g3.Kind:Nat):Int):Int) ≠ 1)) && (decide ((((g3.ID.N:Nat):Int):Int) = 0))))∧ρ 2 = .pointer (some ⟨g1,0,none⟩)∧ρ 7 = .pointer (some ⟨g52,0,none⟩)∧St H446 w (obj g28 98 [.slice A3 n3 c3,.bool bad3]::obj g52 30 [.int .u8 ((g3.Kind:Nat):Int),.int .i64 g3.From,.int .u64 ((g3.ID.N:Nat):Int),.int .i64 g3.ID.P,.int .u16 ((g3.Set:Nat):Int),.int .u64 ((g3.Cur.N:Nat):Int),.int .i64 g3.Cur.P,.int .u64 ((g3.Prom.N:Nat):Int),.int .i64 g3.Prom.P,.slice A506 n507 c508,.int .u64 ((g3.Base:Nat):Int),.slice A511 n512 c513,.slice A515 n516 c517,.int .u64 ((g3.Ack:Nat):Int),.int .u64 ((g3.Safe:Nat):Int)]::obj g1 30 [.int .u8 0,.int .i64 0,.int .u64 0,.int .i64 0,.int .u16 0,.int .u64 0,.int .i64 0,.int .u64 0,.int .i64 0,.slice none 0 0,.int .u64 0,.slice none 0 0,.slice none 0 0,.int .u64 0,.int .u64 0]::L)) ?_ ?_
 rcases Bool.eq_false_or_eq_true ((decide ((0:Int) < (if bad3 = true then 0 else ((n3:Nat):Int)))) || ((decide ((((g3.Kind:Nat):Int):Int) = 3)) && (decide ((((n507:Nat):Int):Int) ≠ 1)))) with hc554 | hc554
 have hp554:((0:Int) < (if bad3 = true then 0 else ((n3:Nat):Int))) ∨ (((((g3.Kind:Nat):Int):Int) = 3)∧((((n507:Nat):Int):Int) ≠ 1)):=((J_or decide_eq_true_iff (J_and decide_eq_true_iff decide_eq_true_iff))).1 hc554
 refine g_no (yk 158 true rfl rfl hc554) rfl ?_
 refine g_no (yk 158 true rfl rfl hc554) rfl ?_
 refine g_no (yk 158 true rfl rfl hc554) rfl ?_
 refine g_no (yk 158 true rfl rfl hc554) rfl ?_
 refine g_no0 (yn (dj:=162) rfl rfl) ?_
 refine g_no0 (yn (dj:=162) rfl rfl) ?_
 refine g_no0 (yn (dj:=162) rfl rfl) ?_
 refine g_no0 (yn (dj:=162) rfl rfl) ?_
 refine g_no (yk 158 true rfl rfl hc554) rfl ?_
 refine st (v:=.bool true) (x_pick_t (.tmp rfl (congrArg Value.bool hc554)) .const) ?_
 exact jw_end ⟨(congrArg Value.bool (jor_t hc554)),hρ551,hρ552,hs553⟩
 have hp554:¬ (((0:Int) < (if bad3 = true then 0 else ((n3:Nat):Int))) ∨ (((((g3.Kind:Nat):Int):Int) = 3)∧((((n507:Nat):Int):Int) ≠ 1))):=J_no (J_or decide_eq_true_iff (J_and decide_eq_true_iff decide_eq_true_iff)) hc554
 refine g_yes (yk 158 false rfl rfl hc554) ?_
 refine st (v:=.pointer (some ⟨g52,0 + 0,none⟩)) (fa30_0 (.tmp rfl hρ552)) ?_
 refine g_yes (yk 158 false rfl rfl hc554) ?_
 refine st (v:=.int .u8 ((g3.Kind:Nat):Int)) (ld5 (.tmp rfl rfl) (hs553.cell 1 rfl (0 + 0) rfl)) ?_
 refine g_yes (yk 158 false rfl rfl hc554) ?_
 refine st (v:=.bool (decide ((((g3.Kind:Nat):Int):Int) ≠ 1))) (x_neq (k:=.u8) (a:=((g3.Kind:Nat):Int)) (b:=1) (.tmp rfl rfl) .const) ?_
 refine g_yes (yk 158 false rfl rfl hc554) ?_
 refine st (v:=.bool (decide ((((g3.Kind:Nat):Int):Int) ≠ 1))) (x_move (.tmp rfl rfl)) ?_
 refine jw 5 (fun ρ w => ρ 167 = .bool ((decide ((((g3.Kind:Nat):Int):Int) ≠ 1)) && (decide ((((g3.ID.N:Nat):Int):Int) = 0)))∧ρ 2 = .pointer (some ⟨g1,0,none⟩)∧ρ 7 = .pointer (some ⟨g52,0,none⟩)∧ρ 158 = .bool false∧St H446 w (obj g28 98 [.slice A3 n3 c3,.bool bad3]::obj g52 30 [.int .u8 ((g3.Kind:Nat):Int),.int .i64 g3.From,.int .u64 ((g3.ID.N:Nat):Int),.int .i64 g3.ID.P,.int .u16 ((g3.Set:Nat):Int),.int .u64 ((g3.Cur.N:Nat):Int),.int .i64 g3.Cur.P,.int .u64 ((g3.Prom.N:Nat):Int),.int .i64 g3.Prom.P,.slice A506 n507 c508,.int .u64 ((g3.Base:Nat):Int),.slice A511 n512 c513,.slice A515 n516 c517,.int .u64 ((g3.Ack:Nat):Int),.int .u64 ((g3.Safe:Nat):Int)]::obj g1 30 [.int .u8 0,.int .i64 0,.int .u64 0,.int .i64 0,.int .u16 0,.int .u64 0,.int .i64 0,.int .u64 0,.int .i64 0,.slice none 0 0,.int .u64 0,.slice none 0 0,.slice none 0 0,.int .u64 0,.int .u64 0]::L)) ?_ ?_
 rcases Bool.eq_false_or_eq_true (decide ((((g3.Kind:Nat):Int):Int) ≠ 1)) with hc555 | hc555
 have hp555:(((g3.Kind:Nat):Int):Int) ≠ 1:=of_decide_eq_true hc555
 refine g_yes (yk 162 true rfl rfl hc555) ?_
 refine st (v:=.pointer (some ⟨g52,0 + 2,none⟩)) (fa30_2 (.tmp rfl hρ552)) ?_
 refine g_yes (yk 162 true rfl rfl hc555) ?_
 refine st (v:=.pointer (some ⟨g52,0 + 2 + 0,none⟩)) (fa24_0 (.tmp rfl rfl)) ?_
 refine g_yes (yk 162 true rfl rfl hc555) ?_
 refine st (v:=.int .u64 ((g3.ID.N:Nat):Int)) (ld22 (.tmp rfl rfl) (hs553.cell 1 rfl (0 + 2 + 0) rfl)) ?_
 refine g_yes (yk 162 true rfl rfl hc555) ?_
 refine st (v:=.bool (decide ((((g3.ID.N:Nat):Int):Int) = 0))) (x_eql (k:=.u64) (a:=((g3.ID.N:Nat):Int)) (b:=0) (.tmp rfl rfl) .const) ?_
 refine g_yes (yk 158 false rfl rfl hc554) ?_
 refine st (v:=.bool (decide ((((g3.ID.N:Nat):Int):Int) = 0))) (x_pick_t (.tmp rfl (congrArg Value.bool hc555)) (.tmp rfl rfl)) ?_
 exact jw_end ⟨(congrArg Value.bool (jand_t hc555)),hρ551,hρ552,(congrArg Value.bool hc554),hs553⟩
 have hp555:¬ ((((g3.Kind:Nat):Int):Int) ≠ 1):=of_decide_eq_false hc555
 refine g_no (yk 162 false rfl rfl hc555) rfl ?_
 refine g_no (yk 162 false rfl rfl hc555) rfl ?_
 refine g_no (yk 162 false rfl rfl hc555) rfl ?_
 refine g_no (yk 162 false rfl rfl hc555) rfl ?_
 refine g_yes (yk 158 false rfl rfl hc554) ?_
 refine st (v:=.bool false) (x_pick_f (.tmp rfl (congrArg Value.bool hc555)) .const) ?_
 exact jw_end ⟨(congrArg Value.bool (jand_f hc555)),hρ551,hρ552,(congrArg Value.bool hc554),hs553⟩
 rintro ρ w ⟨hρ556,hρ557,hρ558,hρ559,hs560⟩
 refine st (v:=.bool ((decide ((((g3.Kind:Nat):Int):Int) ≠ 1)) && (decide ((((g3.ID.N:Nat):Int):Int) = 0)))) (x_pick_f (.tmp rfl hρ559) (.tmp rfl hρ556)) ?_
 exact jw_end ⟨(congrArg Value.bool (jor_f hc554)),hρ557,hρ558,hs560⟩
 rintro ρ w ⟨hρ561,hρ562,hρ563,hs564⟩
 refine c_nil (n_then ?_)
 rcases Bool.eq_false_or_eq_true (((decide ((0:Int) < (if bad3 = true then 0 else ((n3:Nat):Int)))) || ((decide ((((g3.Kind:Nat):Int):Int) = 3)) && (decide ((((n507:Nat):Int):Int) ≠ 1)))) || ((decide ((((g3.Kind:Nat):Int):Int) ≠ 1)) && (decide ((((g3.ID.N:Nat):Int):Int) = 0)))) with hc565 | hc565
 have hp565:(((0:Int) < (if bad3 = true then 0 else ((n3:Nat):Int))) ∨ (((((g3.Kind:Nat):Int):Int) = 3)∧((((n507:Nat):Int):Int) ≠ 1))) ∨ (((((g3.Kind:Nat):Int):Int) ≠ 1)∧((((g3.ID.N:Nat):Int):Int) = 0)):=((J_or (J_or decide_eq_true_iff (J_and decide_eq_true_iff decide_eq_true_iff)) (J_and decide_eq_true_iff decide_eq_true_iff))).1 hc565
 refine c_cond_t (t:=true) (.tmp rfl (hρ561.trans (congrArg Value.bool hc565))) rfl ?_
 refine c_seq (c_region (st (v:=.agg #[.int .u8 0,.int .i64 0,.int .u64 0,.int .i64 0,.int .u16 0,.int .u64 0,.int .i64 0,.int .u64 0,.int .i64 0,.slice none 0 0,.int .u64 0,.slice none 0 0,.slice none 0 0,.int .u64 0,.int .u64 0]) (bl30 (ps:=[]) Evp.nil rfl) ?_))
 have hs566:=hs564.p2
 refine st_m0 (sto30 (cs':=[.int .u8 0,.int .i64 0,.int .u64 0,.int .i64 0,.int .u16 0,.int .u64 0,.int .i64 0,.int .u64 0,.int .i64 0,.slice none 0 0,.int .u64 0,.slice none 0 0,.slice none 0 0,.int .u64 0,.int .u64 0]) (i:=0) hs566 (v:=.agg #[.int .u8 0,.int .i64 0,.int .u64 0,.int .i64 0,.int .u16 0,.int .u64 0,.int .i64 0,.int .u64 0,.int .i64 0,.slice none 0 0,.int .u64 0,.slice none 0 0,.slice none 0 0,.int .u64 0,.int .u64 0]) (.tmp rfl hρ562) (.tmp rfl rfl) rfl (Nat.le_of_ble_eq_true rfl) (oneA rfl) rfl) ?_
 rintro w567 hs569
 refine st (v:=.int .i64 3) (x_assign .const) ?_
 refine c_nil (n_then (c_ret (r_then (leave_ret (res_two (v:=.agg #[.int .u8 0,.int .i64 0,.int .u64 0,.int .i64 0,.int .u16 0,.int .u64 0,.int .i64 0,.int .u64 0,.int .i64 0,.slice none 0 0,.int .u64 0,.slice none 0 0,.slice none 0 0,.int .u64 0,.int .u64 0]) (u:=.int .i64 3) rfl (.mkCell rfl hρ562 (lv30 (cs:=[.int .u8 0,.int .i64 0,.int .u64 0,.int .i64 0,.int .u16 0,.int .u64 0,.int .i64 0,.int .u64 0,.int .i64 0,.slice none 0 0,.int .u64 0,.slice none 0 0,.slice none 0 0,.int .u64 0,.int .u64 0]) (hs569.at_ 0 rfl 0 rfl) rfl)) (.mk rfl rfl)) ?_))))
 have hans570:decA b = (zF,3):=hd3.trans (tail_no hp3.len hl509.len hp565)
 rw [hans570]
 exact ⟨H446,[.int .u8 0,.int .i64 0,.int .u64 0,.int .i64 0,.int .u16 0,.int .u64 0,.int .i64 0,.int .u64 0,.int .i64 0,.slice none 0 0,.int .u64 0,.slice none 0 0,.slice none 0 0,.int .u64 0,.int .u64 0],(hle24.trans hg447),rfl,⟨none,0,0,none,0,0,none,0,0,rfl,(show 0 < 256 from by omega),(show IB 0 from ⟨by omega,by omega⟩),(show 0 < 18446744073709551616 from by omega),(show IB 0 from ⟨by omega,by omega⟩),(show 0 < 65536 from by omega),(show 0 < 18446744073709551616 from by omega),(show IB 0 from ⟨by omega,by omega⟩),(show 0 < 18446744073709551616 from by omega),(show IB 0 from ⟨by omega,by omega⟩),(Sl.nil _ _ none),(show 0 < 18446744073709551616 from by omega),(Sl.nil _ _ none),(Sl.nil _ _ none),(show 0 < 18446744073709551616 from by omega),(show 0 < 18446744073709551616 from by omega)⟩,hs569.drop.drop.drop⟩
 have hp565:¬ ((((0:Int) < (if bad3 = true then 0 else ((n3:Nat):Int))) ∨ (((((g3.Kind:Nat):Int):Int) = 3)∧((((n507:Nat):Int):Int) ≠ 1))) ∨ (((((g3.Kind:Nat):Int):Int) ≠ 1)∧((((g3.ID.N:Nat):Int):Int) = 0))):=J_no (J_or (J_or decide_eq_true_iff (J_and decide_eq_true_iff decide_eq_true_iff)) (J_and decide_eq_true_iff decide_eq_true_iff)) hc565
 refine c_cond_f (t:=false) (.tmp rfl (hρ561.trans (congrArg Value.bool hc565))) rfl ?_
 refine c_skip (n_then (c_seq (c_region (st (v:=.agg #[.int .u8 ((g3.Kind:Nat):Int),.int .i64 g3.From,.int .u64 ((g3.ID.N:Nat):Int),.int .i64 g3.ID.P,.int .u16 ((g3.Set:Nat):Int),.int .u64 ((g3.Cur.N:Nat):Int),.int .i64 g3.Cur.P,.int .u64 ((g3.Prom.N:Nat):Int),.int .i64 g3.Prom.P,.slice A506 n507 c508,.int .u64 ((g3.Base:Nat):Int),.slice A511 n512 c513,.slice A515 n516 c517,.int .u64 ((g3.Ack:Nat):Int),.int .u64 ((g3.Safe:Nat):Int)]) (ld30 (cs:=[.int .u8 ((g3.Kind:Nat):Int),.int .i64 g3.From,.int .u64 ((g3.ID.N:Nat):Int),.int .i64 g3.ID.P,.int .u16 ((g3.Set:Nat):Int),.int .u64 ((g3.Cur.N:Nat):Int),.int .i64 g3.Cur.P,.int .u64 ((g3.Prom.N:Nat):Int),.int .i64 g3.Prom.P,.slice A506 n507 c508,.int .u64 ((g3.Base:Nat):Int),.slice A511 n512 c513,.slice A515 n516 c517,.int .u64 ((g3.Ack:Nat):Int),.int .u64 ((g3.Safe:Nat):Int)]) (.tmp rfl hρ563) (hs564.at_ 1 rfl (0) rfl) rfl) ?_))))
 have hs571:=hs564.p2
 refine st_m0 (sto30 (cs':=[.int .u8 ((g3.Kind:Nat):Int),.int .i64 g3.From,.int .u64 ((g3.ID.N:Nat):Int),.int .i64 g3.ID.P,.int .u16 ((g3.Set:Nat):Int),.int .u64 ((g3.Cur.N:Nat):Int),.int .i64 g3.Cur.P,.int .u64 ((g3.Prom.N:Nat):Int),.int .i64 g3.Prom.P,.slice A506 n507 c508,.int .u64 ((g3.Base:Nat):Int),.slice A511 n512 c513,.slice A515 n516 c517,.int .u64 ((g3.Ack:Nat):Int),.int .u64 ((g3.Safe:Nat):Int)]) (i:=0) hs571 (v:=.agg #[.int .u8 ((g3.Kind:Nat):Int),.int .i64 g3.From,.int .u64 ((g3.ID.N:Nat):Int),.int .i64 g3.ID.P,.int .u16 ((g3.Set:Nat):Int),.int .u64 ((g3.Cur.N:Nat):Int),.int .i64 g3.Cur.P,.int .u64 ((g3.Prom.N:Nat):Int),.int .i64 g3.Prom.P,.slice A506 n507 c508,.int .u64 ((g3.Base:Nat):Int),.slice A511 n512 c513,.slice A515 n516 c517,.int .u64 ((g3.Ack:Nat):Int),.int .u64 ((g3.Safe:Nat):Int)]) (.tmp rfl hρ562) (.tmp rfl rfl) rfl (Nat.le_of_ble_eq_true rfl) (oneA rfl) rfl) ?_
 rintro w572 hs574
 refine st (v:=.int .i64 0) (x_assign .const) ?_
 refine c_nil (n_then (c_ret (leave_ret (res_two (v:=.agg #[.int .u8 ((g3.Kind:Nat):Int),.int .i64 g3.From,.int .u64 ((g3.ID.N:Nat):Int),.int .i64 g3.ID.P,.int .u16 ((g3.Set:Nat):Int),.int .u64 ((g3.Cur.N:Nat):Int),.int .i64 g3.Cur.P,.int .u64 ((g3.Prom.N:Nat):Int),.int .i64 g3.Prom.P,.slice A506 n507 c508,.int .u64 ((g3.Base:Nat):Int),.slice A511 n512 c513,.slice A515 n516 c517,.int .u64 ((g3.Ack:Nat):Int),.int .u64 ((g3.Safe:Nat):Int)]) (u:=.int .i64 0) rfl (.mkCell rfl hρ562 (lv30 (cs:=[.int .u8 ((g3.Kind:Nat):Int),.int .i64 g3.From,.int .u64 ((g3.ID.N:Nat):Int),.int .i64 g3.ID.P,.int .u16 ((g3.Set:Nat):Int),.int .u64 ((g3.Cur.N:Nat):Int),.int .i64 g3.Cur.P,.int .u64 ((g3.Prom.N:Nat):Int),.int .i64 g3.Prom.P,.slice A506 n507 c508,.int .u64 ((g3.Base:Nat):Int),.slice A511 n512 c513,.slice A515 n516 c517,.int .u64 ((g3.Ack:Nat):Int),.int .u64 ((g3.Safe:Nat):Int)]) (hs574.at_ 0 rfl 0 rfl) rfl)) (.mk rfl rfl)) ?_)))
 have hans575:decA b = (g3,0):=hd3.trans (tail_yes hp527 hc535 hp3.len hl509.len hp565)
 rw [hans575]
 exact ⟨H446,[.int .u8 ((g3.Kind:Nat):Int),.int .i64 g3.From,.int .u64 ((g3.ID.N:Nat):Int),.int .i64 g3.ID.P,.int .u16 ((g3.Set:Nat):Int),.int .u64 ((g3.Cur.N:Nat):Int),.int .i64 g3.Cur.P,.int .u64 ((g3.Prom.N:Nat):Int),.int .i64 g3.Prom.P,.slice A506 n507 c508,.int .u64 ((g3.Base:Nat):Int),.slice A511 n512 c513,.slice A515 n516 c517,.int .u64 ((g3.Ack:Nat):Int),.int .u64 ((g3.Safe:Nat):Int)],(hle24.trans hg447),rfl,⟨A506,n507,c508,A511,n512,c513,A515,n516,c517,rfl,b493,⟨b494,b495⟩,b496,⟨b497,b498⟩,b499,b500,⟨b501,b502⟩,b503,⟨b504,b505⟩,hl509,b510,hl514,hl518,b519,b520⟩,hs574.drop.drop.drop⟩
end Go.Proofs.Ytlfihfmmhhcigaa

set_option linter.unusedVariables false
set_option linter.unusedSimpArgs false
namespace Go.Proofs.Ytlfihfmmhhcigaa
open Go Go.FM Go.Proofs
attribute [local irreducible] wpList wpQuiet wpS Code.wp Calls
end Go.Proofs.Ytlfihfmmhhcigaa

set_option linter.unusedVariables false
set_option linter.unusedSimpArgs false
namespace Go.Proofs.Ytlfihfmmhhcigaa
open Go Go.FM Go.Proofs
attribute [local irreducible] wpList wpQuiet wpS Code.wp Calls
end Go.Proofs.Ytlfihfmmhhcigaa

set_option linter.unusedVariables false
set_option linter.unusedSimpArgs false
namespace Go.Proofs.Ytlfihfmmhhcigaa
open Go Go.FM Go.Proofs
attribute [local irreducible] wpList wpQuiet wpS Code.wp Calls
end Go.Proofs.Ytlfihfmmhhcigaa
