/- Steps of the proofs over the functions of this seat, printed by a program (gen.py) and checked by Lean. -/
import Derived.Test.YtlfihfmmhhcigaaW03
import Derived.Test.YtlfihfmmhhcigaaW01
import Derived.Test.YtlfihfmmhhcigaaW00
import Derived.Test.YtlfihfmmhhcigaaW11
import Derived.Test.YtlfihfmmhhcigaaW02
set_option linter.unusedVariables false
set_option linter.unusedSimpArgs false
namespace Go.Proofs.Ytlfihfmmhhcigaa
open Go Go.FM Go.Proofs
attribute [local irreducible] wpList wpQuiet wpS Code.wp Calls
set_option maxHeartbeats 8000000 in
theorem decode_spec {H:Hp} {w:World} {L:List Res} (hs:St H w (L)) {A_b:Option Addr} {n_b c_b:Nat} (b:List Nat) (h_b:By H A_b n_b c_b b):Calls Try.prog 15 #[.slice A_b n_b c_b] w (fun e w' => ∃ (H':Hp) (cs0:List Value),H.le H'∧e = .returned (.tuple #[.agg cs0.toArray,.int .i64 ((decA b).2)])∧kFrame.rep H' ((decA b).1) cs0∧St H' w' (L)):=by
 have:=h_b.len; have:=h_b.le; have:=h_b.bnd
 refine enter (args:=[.slice A_b n_b c_b]) (N:=171) Try.func15 rfl rfl rfl ?_
 refine c_seq (c_region (st_m (al30 (cs:=[.int .u8 0,.int .i64 0,.int .u64 0,.int .i64 0,.int .u16 0,.int .u64 0,.int .i64 0,.int .u64 0,.int .i64 0,.slice none 0 0,.int .u64 0,.slice none 0 0,.slice none 0 0,.int .u64 0,.int .u64 0]) hs rfl) ?_))
 rintro _ w2 ⟨g1,rfl,hs4⟩
 refine st (v:=.int .i64 0) (x_assign .const) ?_
 refine c_nil (n_then (c_seq (c_seq (c_region (st (v:=.slice A_b n_b c_b) (x_move (.tmp rfl rfl)) ?_)))))
 refine st (v:=.int .i64 ((n_b:Nat):Int)) (x_len (n:=n_b) Try.underlying33 (.tmp rfl rfl)) ?_
 refine st (v:=.bool (decide ((1048576:Int) < ((n_b:Nat):Int)))) (x_gtr (k:=.i64) (a:=((n_b:Nat):Int)) (b:=1048576) (.tmp rfl rfl) .const) ?_
 refine c_nil (n_then ?_)
 rcases Bool.eq_false_or_eq_true (decide ((1048576:Int) < ((n_b:Nat):Int))) with hc5 | hc5
 have hp5:(1048576:Int) < ((n_b:Nat):Int):=of_decide_eq_true hc5
 refine c_cond_t (t:=true) (.tmp rfl (cVb hc5)) rfl ?_
 refine c_seq (c_region (st (v:=.agg #[.int .u8 0,.int .i64 0,.int .u64 0,.int .i64 0,.int .u16 0,.int .u64 0,.int .i64 0,.int .u64 0,.int .i64 0,.slice none 0 0,.int .u64 0,.slice none 0 0,.slice none 0 0,.int .u64 0,.int .u64 0]) (bl30 (ps:=[]) Evp.nil rfl) ?_))
 refine st_m0 (sto30 (cs':=[.int .u8 0,.int .i64 0,.int .u64 0,.int .i64 0,.int .u16 0,.int .u64 0,.int .i64 0,.int .u64 0,.int .i64 0,.slice none 0 0,.int .u64 0,.slice none 0 0,.slice none 0 0,.int .u64 0,.int .u64 0]) (i:=0) hs4 (v:=.agg #[.int .u8 0,.int .i64 0,.int .u64 0,.int .i64 0,.int .u16 0,.int .u64 0,.int .i64 0,.int .u64 0,.int .i64 0,.slice none 0 0,.int .u64 0,.slice none 0 0,.slice none 0 0,.int .u64 0,.int .u64 0]) (.tmp rfl rfl) (.tmp rfl rfl) rfl (Nat.le_of_ble_eq_true rfl) (oneA rfl) rfl) ?_
 rintro w6 hs8
 refine st (v:=.int .i64 2) (x_assign .const) ?_
 refine c_nil (n_then (c_ret (r_then (leave_ret (res_two (v:=.agg #[.int .u8 0,.int .i64 0,.int .u64 0,.int .i64 0,.int .u16 0,.int .u64 0,.int .i64 0,.int .u64 0,.int .i64 0,.slice none 0 0,.int .u64 0,.slice none 0 0,.slice none 0 0,.int .u64 0,.int .u64 0]) (u:=.int .i64 2) rfl (.mkCell rfl rfl (lv30 (cs:=[.int .u8 0,.int .i64 0,.int .u64 0,.int .i64 0,.int .u16 0,.int .u64 0,.int .i64 0,.int .u64 0,.int .i64 0,.slice none 0 0,.int .u64 0,.slice none 0 0,.slice none 0 0,.int .u64 0,.int .u64 0]) (hs8.at_ 0 rfl 0 rfl) rfl)) (.mk rfl rfl)) ?_))))
 have hans9:decA b = (zF,2):=decA_long (by omega)
 rw [hans9]
 exact ⟨H,[.int .u8 0,.int .i64 0,.int .u64 0,.int .i64 0,.int .u16 0,.int .u64 0,.int .i64 0,.int .u64 0,.int .i64 0,.slice none 0 0,.int .u64 0,.slice none 0 0,.slice none 0 0,.int .u64 0,.int .u64 0],(Hp.le.refl _),rfl,⟨none,0,0,none,0,0,none,0,0,rfl,(show 0 < 256 from by omega),(show IB 0 from ⟨by omega,by omega⟩),(show 0 < 18446744073709551616 from by omega),(show IB 0 from ⟨by omega,by omega⟩),(show 0 < 65536 from by omega),(show 0 < 18446744073709551616 from by omega),(show IB 0 from ⟨by omega,by omega⟩),(show 0 < 18446744073709551616 from by omega),(show IB 0 from ⟨by omega,by omega⟩),(Sl.nil _ _ none),(show 0 < 18446744073709551616 from by omega),(Sl.nil _ _ none),(Sl.nil _ _ none),(show 0 < 18446744073709551616 from by omega),(show 0 < 18446744073709551616 from by omega)⟩,hs8.drop⟩
 have hp5:¬ ((1048576:Int) < ((n_b:Nat):Int)):=of_decide_eq_false hc5
 refine c_cond_f (t:=false) (.tmp rfl (cVb hc5)) rfl ?_
 refine c_skip (n_then (c_seq (c_region (st (v:=.slice A_b n_b c_b) (x_move (.tmp rfl rfl)) ?_))))
 refine st_c cb31 .func (evs1 (.tmp rfl rfl)) (open_spec hs4 h_b.toBs (by omega)) ?_
 rintro e w11 ⟨v10,rfl,ok12,hs13⟩
 refine ⟨_,rfl,?_⟩
 refine st (v:=.tuple #[v10,.int .i64 ((openL b).2)]) (x_move (.tmp rfl rfl)) ?_
 refine st (v:=v10) (x_extract (.tmp rfl rfl) (i:=0) rfl) ?_
 refine st (v:=.int .i64 ((openL b).2)) (x_extract (.tmp rfl rfl) (i:=1) rfl) ?_
 refine st (v:=v10) (x_assign (.tmp rfl rfl)) ?_
 refine st (v:=.int .i64 ((openL b).2)) (x_assign (.tmp rfl rfl)) ?_
 refine c_nil (n_then (c_seq (c_seq (c_region (st (v:=.int .i64 ((openL b).2)) (x_move (.tmp rfl rfl)) ?_)))))
 refine st (v:=.bool (decide ((((openL b).2):Int) ≠ 0))) (x_neq (k:=.i64) (a:=((openL b).2)) (b:=0) (.tmp rfl rfl) .const) ?_
 refine c_nil (n_then ?_)
 rcases Bool.eq_false_or_eq_true (decide ((((openL b).2):Int) ≠ 0)) with hc15 | hc15
 have hp15:(((openL b).2):Int) ≠ 0:=of_decide_eq_true hc15
 refine c_cond_t (t:=true) (.tmp rfl (cVb hc15)) rfl ?_
 refine c_seq (c_region (st (v:=.agg #[.int .u8 0,.int .i64 0,.int .u64 0,.int .i64 0,.int .u16 0,.int .u64 0,.int .i64 0,.int .u64 0,.int .i64 0,.slice none 0 0,.int .u64 0,.slice none 0 0,.slice none 0 0,.int .u64 0,.int .u64 0]) (bl30 (ps:=[]) Evp.nil rfl) ?_))
 refine st (v:=.int .i64 ((openL b).2)) (x_move (.tmp rfl rfl)) ?_
 have hs16:=hs13.p1
 refine st_m0 (sto30 (cs':=[.int .u8 0,.int .i64 0,.int .u64 0,.int .i64 0,.int .u16 0,.int .u64 0,.int .i64 0,.int .u64 0,.int .i64 0,.slice none 0 0,.int .u64 0,.slice none 0 0,.slice none 0 0,.int .u64 0,.int .u64 0]) (i:=0) hs16 (v:=.agg #[.int .u8 0,.int .i64 0,.int .u64 0,.int .i64 0,.int .u16 0,.int .u64 0,.int .i64 0,.int .u64 0,.int .i64 0,.slice none 0 0,.int .u64 0,.slice none 0 0,.slice none 0 0,.int .u64 0,.int .u64 0]) (.tmp rfl rfl) (.tmp rfl rfl) rfl (Nat.le_of_ble_eq_true rfl) (oneA rfl) rfl) ?_
 rintro w17 hs19
 refine st (v:=.int .i64 ((openL b).2)) (x_assign (.tmp rfl rfl)) ?_
 refine c_nil (n_then (c_ret (r_then (leave_ret (res_two (v:=.agg #[.int .u8 0,.int .i64 0,.int .u64 0,.int .i64 0,.int .u16 0,.int .u64 0,.int .i64 0,.int .u64 0,.int .i64 0,.slice none 0 0,.int .u64 0,.slice none 0 0,.slice none 0 0,.int .u64 0,.int .u64 0]) (u:=.int .i64 ((openL b).2)) rfl (.mkCell rfl rfl (lv30 (cs:=[.int .u8 0,.int .i64 0,.int .u64 0,.int .i64 0,.int .u16 0,.int .u64 0,.int .i64 0,.int .u64 0,.int .i64 0,.slice none 0 0,.int .u64 0,.slice none 0 0,.slice none 0 0,.int .u64 0,.int .u64 0]) (hs19.at_ 0 rfl 0 rfl) rfl)) (.mk rfl rfl)) ?_))))
 have hans20:decA b = (zF,(openL b).2):=decA_open (by omega) hp15
 rw [hans20]
 exact ⟨H,[.int .u8 0,.int .i64 0,.int .u64 0,.int .i64 0,.int .u16 0,.int .u64 0,.int .i64 0,.int .u64 0,.int .i64 0,.slice none 0 0,.int .u64 0,.slice none 0 0,.slice none 0 0,.int .u64 0,.int .u64 0],(Hp.le.refl _),rfl,⟨none,0,0,none,0,0,none,0,0,rfl,(show 0 < 256 from by omega),(show IB 0 from ⟨by omega,by omega⟩),(show 0 < 18446744073709551616 from by omega),(show IB 0 from ⟨by omega,by omega⟩),(show 0 < 65536 from by omega),(show 0 < 18446744073709551616 from by omega),(show IB 0 from ⟨by omega,by omega⟩),(show 0 < 18446744073709551616 from by omega),(show IB 0 from ⟨by omega,by omega⟩),(Sl.nil _ _ none),(show 0 < 18446744073709551616 from by omega),(Sl.nil _ _ none),(Sl.nil _ _ none),(show 0 < 18446744073709551616 from by omega),(show 0 < 18446744073709551616 from by omega)⟩,hs19.drop.drop⟩
 have hp15:¬ ((((openL b).2):Int) ≠ 0):=of_decide_eq_false hc15
 refine c_cond_f (t:=false) (.tmp rfl (cVb hc15)) rfl ?_
 refine c_skip (n_then (c_seq (c_region ?_)))
 have hol:=openL_le b; have hbl9:b.length = n_b:=h_b.len
 obtain ⟨H21,A22,c23,hle24,hs25,rfl,hp26⟩:=hs13.freezeBs ok12 (openL_small h_b.toBs.lt) (by omega)
 have hy27:By H21 A22 ((openL b).1.length) c23 ((openL b).1):=⟨hp26,by omega⟩
 skip
 refine st (v:=.slice A22 ((openL b).1.length) c23) (x_move (.tmp rfl rfl)) ?_
 refine st_c cb32 .func (evs1 (.tmp rfl rfl)) (newReader_spec hs25) ?_
 rintro e w29 ⟨g28,rfl,hs30⟩
 refine ⟨_,rfl,?_⟩
 refine st (v:=.pointer (some ⟨g28,0,none⟩)) (x_assign (.tmp rfl rfl)) ?_
 refine c_nil (n_then (c_seq (c_region (st (v:=.pointer (some ⟨g28,0,none⟩)) (x_move (.tmp rfl rfl)) ?_))))
 refine st_c cb33 .func (evs2 (.tmp rfl rfl) .const) (int_q hy27.toBs false 255 (by omega) (by omega) hs30) ?_
 rintro e w35 ⟨q31,A32,n33,c34,hq36,hb37,hn38,rfl,hp39,hs40⟩
 refine ⟨_,rfl,?_⟩
 have hb41:q31.1 < 256:=by omega
 refine st (v:=.int .u8 ((q31.1:Nat):Int)) (x_conv (k:=.i64) (a:=((q31.1:Nat):Int)) Try.underlying3 Try.underlying5 (.tmp rfl rfl) (wU rfl rfl hb41)) ?_
 refine st (v:=.pointer (some ⟨g28,0,none⟩)) (x_move (.tmp rfl rfl)) ?_
 refine st_c cb33 .func (evs2 (.tmp rfl rfl) .const) (int_q hp39 q31.2.2 15 (by omega) (by omega) hs40) ?_
 rintro e w46 ⟨q42,A43,n44,c45,hq47,hb48,hn49,rfl,hp50,hs51⟩
 refine ⟨_,rfl,?_⟩
 refine st (v:=.agg #[.int .u8 ((q31.1:Nat):Int),.int .i64 ((q42.1:Nat):Int),.int .u64 0,.int .i64 0,.int .u16 0,.int .u64 0,.int .i64 0,.int .u64 0,.int .i64 0,.slice none 0 0,.int .u64 0,.slice none 0 0,.slice none 0 0,.int .u64 0,.int .u64 0]) (bl30 (ps:=[(0,.int .u8 ((q31.1:Nat):Int)),(1,.int .i64 ((q42.1:Nat):Int))]) (.cons (.tmp rfl rfl) (.cons (.tmp rfl rfl) Evp.nil)) rfl) ?_
 refine st_m (al30 (cs:=[.int .u8 0,.int .i64 0,.int .u64 0,.int .i64 0,.int .u16 0,.int .u64 0,.int .i64 0,.int .u64 0,.int .i64 0,.slice none 0 0,.int .u64 0,.slice none 0 0,.slice none 0 0,.int .u64 0,.int .u64 0]) hs51 rfl) ?_
 rintro _ w53 ⟨g52,rfl,hs55⟩
 refine st_m0 (sto30 (cs':=[.int .u8 ((q31.1:Nat):Int),.int .i64 ((q42.1:Nat):Int),.int .u64 0,.int .i64 0,.int .u16 0,.int .u64 0,.int .i64 0,.int .u64 0,.int .i64 0,.slice none 0 0,.int .u64 0,.slice none 0 0,.slice none 0 0,.int .u64 0,.int .u64 0]) (i:=0) hs55 (v:=.agg #[.int .u8 ((q31.1:Nat):Int),.int .i64 ((q42.1:Nat):Int),.int .u64 0,.int .i64 0,.int .u16 0,.int .u64 0,.int .i64 0,.int .u64 0,.int .i64 0,.slice none 0 0,.int .u64 0,.slice none 0 0,.slice none 0 0,.int .u64 0,.int .u64 0]) (.tmp rfl rfl) (.tmp rfl rfl) rfl (Nat.le_of_ble_eq_true rfl) (oneA rfl) rfl) ?_
 rintro w56 hs58
 refine c_nil (n_then (c_seq (c_region (st (v:=.bool true) (x_assign .const) ?_))))
 refine c_nil (n_then ?_)
 refine c_cut (fun ρ w => ∃ (H59:Hp) (i3:(GViewID × Bool) × List Nat × Bool) (A1:Option Addr) (n1:Nat) (c1:Nat),ρ 2 = .pointer (some ⟨g1,0,none⟩)∧ρ 6 = .pointer (some ⟨g28,0,none⟩)∧ρ 7 = .pointer (some ⟨g52,0,none⟩)∧ρ 8 = .bool i3.1.2∧(H21.le H59)∧(Bs H59 A1 n1 c1 i3.2.1)∧(n1 ≤ 140737488355320)∧(q31.1 = 1 → i3 = ((GViewID.mk 0 0,true),q42.2))∧(q31.1 ≠ 1 → i3 = rdVC q42.2.1 q42.2.2)∧(i3.1.1.N < 18446744073709551616)∧(IB i3.1.1.P)∧St H59 w (obj g28 98 [.slice A1 n1 c1,.bool i3.2.2]::obj g52 30 [.int .u8 ((q31.1:Nat):Int),.int .i64 ((q42.1:Nat):Int),.int .u64 ((i3.1.1.N:Nat):Int),.int .i64 i3.1.1.P,.int .u16 0,.int .u64 0,.int .i64 0,.int .u64 0,.int .i64 0,.slice none 0 0,.int .u64 0,.slice none 0 0,.slice none 0 0,.int .u64 0,.int .u64 0]::obj g1 30 [.int .u8 0,.int .i64 0,.int .u64 0,.int .i64 0,.int .u16 0,.int .u64 0,.int .i64 0,.int .u64 0,.int .i64 0,.slice none 0 0,.int .u64 0,.slice none 0 0,.slice none 0 0,.int .u64 0,.int .u64 0]::L)) ?_ ?_
 refine c_seq (c_region (st (v:=.pointer (some ⟨g52,0 + 0,none⟩)) (fa30_0 (.tmp rfl rfl)) ?_))
 refine st (v:=.int .u8 ((q31.1:Nat):Int)) (ld5 (.tmp rfl rfl) (hs58.cell 0 rfl (0 + 0) rfl)) ?_
 refine st (v:=.bool (decide ((((q31.1:Nat):Int):Int) ≠ 1))) (x_neq (k:=.u8) (a:=((q31.1:Nat):Int)) (b:=1) (.tmp rfl rfl) .const) ?_
 refine c_nil (n_then ?_)
 rcases Bool.eq_false_or_eq_true (decide ((((q31.1:Nat):Int):Int) ≠ 1)) with hc61 | hc61
 have hp61:(((q31.1:Nat):Int):Int) ≠ 1:=of_decide_eq_true hc61
 refine c_cond_t (t:=true) (.tmp rfl (cVb hc61)) rfl ?_
 refine c_region (st (v:=.pointer (some ⟨g28,0,none⟩)) (x_move (.tmp rfl rfl)) ?_)
 have hs62:=hs58.p1
 refine st_c cb34 .func (evs1 (.tmp rfl rfl)) (vdec_spec hs62 hp50 (by omega) ) ?_
 rintro e w65 ⟨cs67,q63,A69,n70,c71,rfl,hr68,hq72,hp73,hn74,hs66⟩
 obtain ⟨rfl,b75,⟨b76,b77⟩⟩:=hr68
 refine ⟨_,rfl,?_⟩
 refine st (v:=.tuple #[.agg #[.int .u64 ((q63.1.1.N:Nat):Int),.int .i64 q63.1.1.P],.bool q63.1.2]) (x_move (.tmp rfl rfl)) ?_
 refine st (v:=.agg #[.int .u64 ((q63.1.1.N:Nat):Int),.int .i64 q63.1.1.P]) (x_extract (.tmp rfl rfl) (i:=0) rfl) ?_
 refine st (v:=.bool q63.1.2) (x_extract (.tmp rfl rfl) (i:=1) rfl) ?_
 refine st (v:=.pointer (some ⟨g52,0 + 2,none⟩)) (fa30_2 (.tmp rfl rfl)) ?_
 have hs78:=hs66.p1
 refine st_m0 (sto24 (cs':=[.int .u8 ((q31.1:Nat):Int),.int .i64 ((q42.1:Nat):Int),.int .u64 ((q63.1.1.N:Nat):Int),.int .i64 q63.1.1.P,.int .u16 0,.int .u64 0,.int .i64 0,.int .u64 0,.int .i64 0,.slice none 0 0,.int .u64 0,.slice none 0 0,.slice none 0 0,.int .u64 0,.int .u64 0]) (i:=0 + 2) hs78 (v:=.agg #[.int .u64 ((q63.1.1.N:Nat):Int),.int .i64 q63.1.1.P]) (.tmp rfl rfl) (.tmp rfl rfl) rfl (Nat.le_of_ble_eq_true rfl) (oneA rfl) rfl) ?_
 rintro w79 hs81
 refine st (v:=.bool q63.1.2) (x_assign (.tmp rfl rfl)) ?_
 refine c_nil ?_
 exact n_then ⟨_,rfl,H21,q63,A69,n70,c71,rfl,rfl,rfl,rfl,(Hp.le.refl _),hp73,(by omega),(fun h => absurd h (by omega)),(fun _ => hq72),b75,⟨b76,b77⟩,(((hs81.p2).p1).p2)⟩
 have hp61:¬ ((((q31.1:Nat):Int):Int) ≠ 1):=of_decide_eq_false hc61
 refine c_cond_f (t:=false) (.tmp rfl (cVb hc61)) rfl ?_
 refine c_skip ?_
 exact n_then ⟨_,rfl,H21,((GViewID.mk 0 0,true),q42.2),A43,n44,c45,rfl,rfl,rfl,rfl,(Hp.le.refl _),hp50,(by omega),(fun _ => rfl),(fun h => absurd (show q31.1 = 1 by omega) h),(show (0:Nat) < 18446744073709551616 by decide),(show IB 0 from ⟨by decide,by decide⟩),(((hs58.p2).p1).p2)⟩
 rintro ρ w ⟨H59,i3,A1,n1,c1,hρ82,hρ83,hρ84,hρ85,hg60,hp1,hn1,h1i,h2i,hN,hP,hs86⟩
 refine c_seq (c_region (st (v:=.bool true) (x_assign .const) ?_))
 refine c_nil (n_then ?_)
 refine c_cut (fun ρ w => ∃ (H87:Hp) (ok3:Bool) (fine3:Bool) (g3:GFrame) (cs3:List Value) (A3:Option Addr) (n3:Nat) (c3:Nat) (cur3:List Nat) (bad3:Bool),ρ 2 = .pointer (some ⟨g1,0,none⟩)∧ρ 6 = .pointer (some ⟨g28,0,none⟩)∧ρ 7 = .pointer (some ⟨g52,0,none⟩)∧ρ 8 = .bool ok3∧ρ 9 = .bool fine3∧(H59.le H87)∧(Bs H87 A3 n3 c3 cur3)∧(kFrame.rep H87 g3 cs3)∧(decA b = finC g3 ok3 fine3 (cur3,bad3))∧St H87 w (obj g28 98 [.slice A3 n3 c3,.bool bad3]::obj g52 30 cs3::obj g1 30 [.int .u8 0,.int .i64 0,.int .u64 0,.int .i64 0,.int .u16 0,.int .u64 0,.int .i64 0,.int .u64 0,.int .i64 0,.slice none 0 0,.int .u64 0,.slice none 0 0,.slice none 0 0,.int .u64 0,.int .u64 0]::L)) ?_ ?_
 refine c_seq (c_region (st (v:=.pointer (some ⟨g52,0 + 0,none⟩)) (fa30_0 (.tmp rfl hρ84)) ?_))
 refine st (v:=.int .u8 ((q31.1:Nat):Int)) (ld5 (.tmp rfl rfl) (hs86.cell 1 rfl (0 + 0) rfl)) ?_
 refine c_nil (n_then (c_block (c_seq (c_region (st (v:=.bool (decide ((((q31.1:Nat):Int):Int) = 1))) (x_eql (k:=.u8) (a:=((q31.1:Nat):Int)) (b:=1) (.tmp rfl rfl) .const) ?_)))))
 refine st (v:=.bool (decide ((((q31.1:Nat):Int):Int) = 1))) (x_assign (.tmp rfl rfl)) ?_
 refine c_nil (n_then ?_)
 rcases Bool.eq_false_or_eq_true (decide ((((q31.1:Nat):Int):Int) = 1)) with hc89 | hc89
 have hp89:(((q31.1:Nat):Int):Int) = 1:=of_decide_eq_true hc89
 refine c_cond_t (t:=true) (.tmp rfl (cVb hc89)) rfl ?_
 refine c_seq (c_region (st (v:=.pointer (some ⟨g28,0,none⟩)) (x_move (.tmp rfl hρ83)) ?_))
 refine st_c cb34 .func (evs1 (.tmp rfl rfl)) (vdec_spec hs86 hp1 (by omega) ) ?_
 rintro e w91 ⟨cs93,q90,A95,n96,c97,rfl,hr94,hq98,hp99,hn100,hs92⟩
 obtain ⟨rfl,b101,⟨b102,b103⟩⟩:=hr94
 refine ⟨_,rfl,?_⟩
 refine st (v:=.tuple #[.agg #[.int .u64 ((q90.1.1.N:Nat):Int),.int .i64 q90.1.1.P],.bool q90.1.2]) (x_move (.tmp rfl rfl)) ?_
 refine st (v:=.agg #[.int .u64 ((q90.1.1.N:Nat):Int),.int .i64 q90.1.1.P]) (x_extract (.tmp rfl rfl) (i:=0) rfl) ?_
 refine st (v:=.bool q90.1.2) (x_extract (.tmp rfl rfl) (i:=1) rfl) ?_
 refine st (v:=.pointer (some ⟨g52,0 + 5,none⟩)) (fa30_4 (.tmp rfl hρ84)) ?_
 have hs104:=hs92.p1
 refine st_m0 (sto24 (cs':=[.int .u8 ((q31.1:Nat):Int),.int .i64 ((q42.1:Nat):Int),.int .u64 ((i3.1.1.N:Nat):Int),.int .i64 i3.1.1.P,.int .u16 0,.int .u64 ((q90.1.1.N:Nat):Int),.int .i64 q90.1.1.P,.int .u64 0,.int .i64 0,.slice none 0 0,.int .u64 0,.slice none 0 0,.slice none 0 0,.int .u64 0,.int .u64 0]) (i:=0 + 5) hs104 (v:=.agg #[.int .u64 ((q90.1.1.N:Nat):Int),.int .i64 q90.1.1.P]) (.tmp rfl rfl) (.tmp rfl rfl) rfl (Nat.le_of_ble_eq_true rfl) (oneA rfl) rfl) ?_
 rintro w105 hs107
 refine st (v:=.bool q90.1.2) (x_assign (.tmp rfl rfl)) ?_
 refine c_nil (n_then (c_region (st (v:=.pointer (some ⟨g28,0,none⟩)) (x_move (.tmp rfl hρ83)) ?_)))
 have hs108:=hs107.p1
 refine st_c cb34 .func (evs1 (.tmp rfl rfl)) (vdec_spec hs108 hp99 (by omega) ) ?_
 rintro e w110 ⟨cs112,q109,A114,n115,c116,rfl,hr113,hq117,hp118,hn119,hs111⟩
 obtain ⟨rfl,b120,⟨b121,b122⟩⟩:=hr113
 refine ⟨_,rfl,?_⟩
 refine st (v:=.tuple #[.agg #[.int .u64 ((q109.1.1.N:Nat):Int),.int .i64 q109.1.1.P],.bool q109.1.2]) (x_move (.tmp rfl rfl)) ?_
 refine st (v:=.agg #[.int .u64 ((q109.1.1.N:Nat):Int),.int .i64 q109.1.1.P]) (x_extract (.tmp rfl rfl) (i:=0) rfl) ?_
 refine st (v:=.bool q109.1.2) (x_extract (.tmp rfl rfl) (i:=1) rfl) ?_
 refine st (v:=.pointer (some ⟨g52,0 + 7,none⟩)) (fa30_5 (.tmp rfl hρ84)) ?_
 have hs123:=hs111.p1
 refine st_m0 (sto24 (cs':=[.int .u8 ((q31.1:Nat):Int),.int .i64 ((q42.1:Nat):Int),.int .u64 ((i3.1.1.N:Nat):Int),.int .i64 i3.1.1.P,.int .u16 0,.int .u64 ((q90.1.1.N:Nat):Int),.int .i64 q90.1.1.P,.int .u64 ((q109.1.1.N:Nat):Int),.int .i64 q109.1.1.P,.slice none 0 0,.int .u64 0,.slice none 0 0,.slice none 0 0,.int .u64 0,.int .u64 0]) (i:=0 + 7) hs123 (v:=.agg #[.int .u64 ((q109.1.1.N:Nat):Int),.int .i64 q109.1.1.P]) (.tmp rfl rfl) (.tmp rfl rfl) rfl (Nat.le_of_ble_eq_true rfl) (oneA rfl) rfl) ?_
 rintro w124 hs126
 refine st (v:=.bool q109.1.2) (x_assign (.tmp rfl rfl)) ?_
 refine c_nil (n_block ?_)
 have hd0:decA b = decP (openL b).1:=decA_read (by omega) (Classical.not_not.1 hp15)
 have hd1:=dec_head hd0 hq36 hq47
 have hd:=dec_1' hd1 (by omega) h1i hq98 hq117
 exact n_then ⟨_,rfl,H59,q90.1.2,q109.1.2,(GFrame.mk q31.1 ((q42.1:Nat):Int) i3.1.1 0 q90.1.1 q109.1.1 [] 0 [] [] 0 0),[.int .u8 ((q31.1:Nat):Int),.int .i64 ((q42.1:Nat):Int),.int .u64 ((i3.1.1.N:Nat):Int),.int .i64 i3.1.1.P,.int .u16 0,.int .u64 ((q90.1.1.N:Nat):Int),.int .i64 q90.1.1.P,.int .u64 ((q109.1.1.N:Nat):Int),.int .i64 q109.1.1.P,.slice none 0 0,.int .u64 0,.slice none 0 0,.slice none 0 0,.int .u64 0,.int .u64 0],A114,n115,c116,q109.2.1,q109.2.2,hρ82,hρ83,hρ84,rfl,rfl,(Hp.le.refl _),hp118,⟨none,0,0,none,0,0,none,0,0,rfl,hb41,(show IB ((q42.1:Nat):Int) from ⟨by omega,by omega⟩),hN,hP,(show 0 < 65536 from by omega),b101,⟨b102,b103⟩,b120,⟨b121,b122⟩,(Sl.nil _ _ none),(show 0 < 18446744073709551616 from by omega),(Sl.nil _ _ none),(Sl.nil _ _ none),(show 0 < 18446744073709551616 from by omega),(show 0 < 18446744073709551616 from by omega)⟩,hd,(((hs126.p2).p1).p2)⟩
 have hp89:¬ ((((q31.1:Nat):Int):Int) = 1):=of_decide_eq_false hc89
 refine c_cond_f (t:=false) (.tmp rfl (cVb hc89)) rfl ?_
 refine c_seq (c_region (st (v:=.bool (decide ((((q31.1:Nat):Int):Int) = 2))) (x_eql (k:=.u8) (a:=((q31.1:Nat):Int)) (b:=2) (.tmp rfl rfl) .const) ?_))
 refine st (v:=.bool (decide ((((q31.1:Nat):Int):Int) = 2))) (x_assign (.tmp rfl rfl)) ?_
 refine c_nil (n_then ?_)
 rcases Bool.eq_false_or_eq_true (decide ((((q31.1:Nat):Int):Int) = 2)) with hc127 | hc127
 have hp127:(((q31.1:Nat):Int):Int) = 2:=of_decide_eq_true hc127
 refine c_cond_t (t:=true) (.tmp rfl (cVb hc127)) rfl ?_
 refine c_region (st (v:=.pointer (some ⟨g28,0,none⟩)) (x_move (.tmp rfl hρ83)) ?_)
 refine st_c cb33 .func (evs2 (.tmp rfl rfl) .const) (int_q hp1 i3.2.2 65535 (by omega) (by omega) hs86) ?_
 rintro e w132 ⟨q128,A129,n130,c131,hq133,hb134,hn135,rfl,hp136,hs137⟩
 refine ⟨_,rfl,?_⟩
 have hb138:q128.1 < 65536:=by omega
 refine st (v:=.int .u16 ((q128.1:Nat):Int)) (x_conv (k:=.i64) (a:=((q128.1:Nat):Int)) Try.underlying3 Try.underlying25 (.tmp rfl rfl) (wU rfl rfl hb138)) ?_
 refine st (v:=.pointer (some ⟨g52,0 + 4,none⟩)) (fa30_3 (.tmp rfl hρ84)) ?_
 have hs139:=hs137.p1
 refine st_m0 (sto25 (cs':=[.int .u8 ((q31.1:Nat):Int),.int .i64 ((q42.1:Nat):Int),.int .u64 ((i3.1.1.N:Nat):Int),.int .i64 i3.1.1.P,.int .u16 ((q128.1:Nat):Int),.int .u64 0,.int .i64 0,.int .u64 0,.int .i64 0,.slice none 0 0,.int .u64 0,.slice none 0 0,.slice none 0 0,.int .u64 0,.int .u64 0]) (i:=0 + 4) hs139 (v:=.int .u16 ((q128.1:Nat):Int)) (.tmp rfl rfl) (.tmp rfl rfl) rfl (Nat.le_of_ble_eq_true rfl) one1 rfl) ?_
 rintro w140 hs142
 refine c_nil (n_block ?_)
 have hd0:decA b = decP (openL b).1:=decA_read (by omega) (Classical.not_not.1 hp15)
 have hd1:=dec_head hd0 hq36 hq47
 have hd2:=dec_i' hd1 (by omega) h2i
 have hd:=dec_2 hd2 (by omega) hq133
 exact n_then ⟨_,rfl,H59,i3.1.2,true,(GFrame.mk q31.1 ((q42.1:Nat):Int) i3.1.1 q128.1 (GViewID.mk 0 0) (GViewID.mk 0 0) [] 0 [] [] 0 0),[.int .u8 ((q31.1:Nat):Int),.int .i64 ((q42.1:Nat):Int),.int .u64 ((i3.1.1.N:Nat):Int),.int .i64 i3.1.1.P,.int .u16 ((q128.1:Nat):Int),.int .u64 0,.int .i64 0,.int .u64 0,.int .i64 0,.slice none 0 0,.int .u64 0,.slice none 0 0,.slice none 0 0,.int .u64 0,.int .u64 0],A129,n130,c131,q128.2.1,q128.2.2,hρ82,hρ83,hρ84,hρ85,rfl,(Hp.le.refl _),hp136,⟨none,0,0,none,0,0,none,0,0,rfl,hb41,(show IB ((q42.1:Nat):Int) from ⟨by omega,by omega⟩),hN,hP,hb138,(show 0 < 18446744073709551616 from by omega),(show IB 0 from ⟨by omega,by omega⟩),(show 0 < 18446744073709551616 from by omega),(show IB 0 from ⟨by omega,by omega⟩),(Sl.nil _ _ none),(show 0 < 18446744073709551616 from by omega),(Sl.nil _ _ none),(Sl.nil _ _ none),(show 0 < 18446744073709551616 from by omega),(show 0 < 18446744073709551616 from by omega)⟩,hd,(((hs142.p2).p1).p2)⟩
 have hp127:¬ ((((q31.1:Nat):Int):Int) = 2):=of_decide_eq_false hc127
 refine c_cond_f (t:=false) (.tmp rfl (cVb hc127)) rfl ?_
 refine c_seq (c_region (st (v:=.bool (decide ((((q31.1:Nat):Int):Int) = 4))) (x_eql (k:=.u8) (a:=((q31.1:Nat):Int)) (b:=4) (.tmp rfl rfl) .const) ?_))
 refine st (v:=.bool (decide ((((q31.1:Nat):Int):Int) = 4))) (x_assign (.tmp rfl rfl)) ?_
 refine c_nil (n_then ?_)
 rcases Bool.eq_false_or_eq_true (decide ((((q31.1:Nat):Int):Int) = 4)) with hc143 | hc143
 have hp143:(((q31.1:Nat):Int):Int) = 4:=of_decide_eq_true hc143
 refine c_cond_t (t:=true) (.tmp rfl (cVb hc143)) rfl ?_
 refine c_region (st (v:=.pointer (some ⟨g28,0,none⟩)) (x_move (.tmp rfl hρ83)) ?_)
 refine st_c cb34 .func (evs1 (.tmp rfl rfl)) (vdec_spec hs86 hp1 (by omega) ) ?_
 rintro e w145 ⟨cs147,q144,A149,n150,c151,rfl,hr148,hq152,hp153,hn154,hs146⟩
 obtain ⟨rfl,b155,⟨b156,b157⟩⟩:=hr148
 refine ⟨_,rfl,?_⟩
 refine st (v:=.tuple #[.agg #[.int .u64 ((q144.1.1.N:Nat):Int),.int .i64 q144.1.1.P],.bool q144.1.2]) (x_move (.tmp rfl rfl)) ?_
 refine st (v:=.agg #[.int .u64 ((q144.1.1.N:Nat):Int),.int .i64 q144.1.1.P]) (x_extract (.tmp rfl rfl) (i:=0) rfl) ?_
 refine st (v:=.bool q144.1.2) (x_extract (.tmp rfl rfl) (i:=1) rfl) ?_
 refine st (v:=.pointer (some ⟨g52,0 + 7,none⟩)) (fa30_5 (.tmp rfl hρ84)) ?_
 have hs158:=hs146.p1
 refine st_m0 (sto24 (cs':=[.int .u8 ((q31.1:Nat):Int),.int .i64 ((q42.1:Nat):Int),.int .u64 ((i3.1.1.N:Nat):Int),.int .i64 i3.1.1.P,.int .u16 0,.int .u64 0,.int .i64 0,.int .u64 ((q144.1.1.N:Nat):Int),.int .i64 q144.1.1.P,.slice none 0 0,.int .u64 0,.slice none 0 0,.slice none 0 0,.int .u64 0,.int .u64 0]) (i:=0 + 7) hs158 (v:=.agg #[.int .u64 ((q144.1.1.N:Nat):Int),.int .i64 q144.1.1.P]) (.tmp rfl rfl) (.tmp rfl rfl) rfl (Nat.le_of_ble_eq_true rfl) (oneA rfl) rfl) ?_
 rintro w159 hs161
 refine st (v:=.bool q144.1.2) (x_assign (.tmp rfl rfl)) ?_
 refine c_nil (n_block ?_)
 have hd0:decA b = decP (openL b).1:=decA_read (by omega) (Classical.not_not.1 hp15)
 have hd1:=dec_head hd0 hq36 hq47
 have hd2:=dec_i' hd1 (by omega) h2i
 have hd:=dec_4 hd2 (by omega) hq152
 exact n_then ⟨_,rfl,H59,i3.1.2,q144.1.2,(GFrame.mk q31.1 ((q42.1:Nat):Int) i3.1.1 0 (GViewID.mk 0 0) q144.1.1 [] 0 [] [] 0 0),[.int .u8 ((q31.1:Nat):Int),.int .i64 ((q42.1:Nat):Int),.int .u64 ((i3.1.1.N:Nat):Int),.int .i64 i3.1.1.P,.int .u16 0,.int .u64 0,.int .i64 0,.int .u64 ((q144.1.1.N:Nat):Int),.int .i64 q144.1.1.P,.slice none 0 0,.int .u64 0,.slice none 0 0,.slice none 0 0,.int .u64 0,.int .u64 0],A149,n150,c151,q144.2.1,q144.2.2,hρ82,hρ83,hρ84,hρ85,rfl,(Hp.le.refl _),hp153,⟨none,0,0,none,0,0,none,0,0,rfl,hb41,(show IB ((q42.1:Nat):Int) from ⟨by omega,by omega⟩),hN,hP,(show 0 < 65536 from by omega),(show 0 < 18446744073709551616 from by omega),(show IB 0 from ⟨by omega,by omega⟩),b155,⟨b156,b157⟩,(Sl.nil _ _ none),(show 0 < 18446744073709551616 from by omega),(Sl.nil _ _ none),(Sl.nil _ _ none),(show 0 < 18446744073709551616 from by omega),(show 0 < 18446744073709551616 from by omega)⟩,hd,(((hs161.p2).p1).p2)⟩
 have hp143:¬ ((((q31.1:Nat):Int):Int) = 4):=of_decide_eq_false hc143
 refine c_cond_f (t:=false) (.tmp rfl (cVb hc143)) rfl ?_
 refine c_seq (c_region (st (v:=.bool (decide ((((q31.1:Nat):Int):Int) = 3))) (x_eql (k:=.u8) (a:=((q31.1:Nat):Int)) (b:=3) (.tmp rfl rfl) .const) ?_))
 refine st (v:=.bool (decide ((((q31.1:Nat):Int):Int) = 3))) (x_assign (.tmp rfl rfl)) ?_
 refine c_nil (n_then ?_)
 rcases Bool.eq_false_or_eq_true (decide ((((q31.1:Nat):Int):Int) = 3)) with hc162 | hc162
 have hp162:(((q31.1:Nat):Int):Int) = 3:=of_decide_eq_true hc162
 refine c_cond_t (t:=true) (.tmp rfl (cVb hc162)) rfl ?_
 refine c_region (st (v:=.pointer (some ⟨g28,0,none⟩)) (x_move (.tmp rfl hρ83)) ?_)
 refine st_c cb35 .func (evs1 (.tmp rfl rfl)) (statesdec_spec hs86 hp1 (by omega) ) ?_
 rintro e w164 ⟨H166,A168,n169,c170,q163,A172,n173,c174,hle167,rfl,sp171,hq175,hp176,hn177,hs165⟩
 have:=sp171.len; have:=sp171.le; have:n169 * 48 ≤ 140737488351232:=sp171.bnd
 refine ⟨_,rfl,?_⟩
 refine st (v:=.tuple #[.slice A168 n169 c170,.bool q163.1.2]) (x_move (.tmp rfl rfl)) ?_
 refine st (v:=.slice A168 n169 c170) (x_extract (.tmp rfl rfl) (i:=0) rfl) ?_
 refine st (v:=.bool q163.1.2) (x_extract (.tmp rfl rfl) (i:=1) rfl) ?_
 refine st (v:=.pointer (some ⟨g52,0 + 9,none⟩)) (fa30_6 (.tmp rfl hρ84)) ?_
 have hs178:=hs165.p1
 refine st_m0 (sto26 (cs':=[.int .u8 ((q31.1:Nat):Int),.int .i64 ((q42.1:Nat):Int),.int .u64 ((i3.1.1.N:Nat):Int),.int .i64 i3.1.1.P,.int .u16 0,.int .u64 0,.int .i64 0,.int .u64 0,.int .i64 0,.slice A168 n169 c170,.int .u64 0,.slice none 0 0,.slice none 0 0,.int .u64 0,.int .u64 0]) (i:=0 + 9) hs178 (v:=.slice A168 n169 c170) (.tmp rfl rfl) (.tmp rfl rfl) rfl (Nat.le_of_ble_eq_true rfl) one1 rfl) ?_
 rintro w179 hs181
 refine st (v:=.bool q163.1.2) (x_assign (.tmp rfl rfl)) ?_
 refine c_nil (n_block ?_)
 have hd0:decA b = decP (openL b).1:=decA_read (by omega) (Classical.not_not.1 hp15)
 have hd1:=dec_head hd0 hq36 hq47
 have hd2:=dec_i' hd1 (by omega) h2i
 have hd:=dec_3 hd2 (by omega) hq175
 exact n_then ⟨_,rfl,H166,i3.1.2,q163.1.2,(GFrame.mk q31.1 ((q42.1:Nat):Int) i3.1.1 0 (GViewID.mk 0 0) (GViewID.mk 0 0) q163.1.1 0 [] [] 0 0),[.int .u8 ((q31.1:Nat):Int),.int .i64 ((q42.1:Nat):Int),.int .u64 ((i3.1.1.N:Nat):Int),.int .i64 i3.1.1.P,.int .u16 0,.int .u64 0,.int .i64 0,.int .u64 0,.int .i64 0,.slice A168 n169 c170,.int .u64 0,.slice none 0 0,.slice none 0 0,.int .u64 0,.int .u64 0],A172,n173,c174,q163.2.1,q163.2.2,hρ82,hρ83,hρ84,hρ85,rfl,hle167,hp176,⟨A168,n169,c170,none,0,0,none,0,0,rfl,hb41,(show IB ((q42.1:Nat):Int) from ⟨by omega,by omega⟩),hN,hP,(show 0 < 65536 from by omega),(show 0 < 18446744073709551616 from by omega),(show IB 0 from ⟨by omega,by omega⟩),(show 0 < 18446744073709551616 from by omega),(show IB 0 from ⟨by omega,by omega⟩),sp171,(show 0 < 18446744073709551616 from by omega),(Sl.nil _ _ none),(Sl.nil _ _ none),(show 0 < 18446744073709551616 from by omega),(show 0 < 18446744073709551616 from by omega)⟩,hd,(((hs181.p2).p1).p2)⟩
 have hp162:¬ ((((q31.1:Nat):Int):Int) = 3):=of_decide_eq_false hc162
 refine c_cond_f (t:=false) (.tmp rfl (cVb hc162)) rfl ?_
 refine c_seq (c_region (st (v:=.bool (decide ((((q31.1:Nat):Int):Int) = 5))) (x_eql (k:=.u8) (a:=((q31.1:Nat):Int)) (b:=5) (.tmp rfl rfl) .const) ?_))
 refine st (v:=.bool (decide ((((q31.1:Nat):Int):Int) = 5))) (x_assign (.tmp rfl rfl)) ?_
 refine c_nil (n_then ?_)
 rcases Bool.eq_false_or_eq_true (decide ((((q31.1:Nat):Int):Int) = 5)) with hc182 | hc182
 have hp182:(((q31.1:Nat):Int):Int) = 5:=of_decide_eq_true hc182
 refine c_cond_t (t:=true) (.tmp rfl (cVb hc182)) rfl ?_
 refine c_seq (c_region (st (v:=.pointer (some ⟨g28,0,none⟩)) (x_move (.tmp rfl hρ83)) ?_))
 refine st_c cb33 .func (evs2 (.tmp rfl rfl) .const) (int_q hp1 i3.2.2 65535 (by omega) (by omega) hs86) ?_
 rintro e w187 ⟨q183,A184,n185,c186,hq188,hb189,hn190,rfl,hp191,hs192⟩
 refine ⟨_,rfl,?_⟩
 have hb193:q183.1 < 65536:=by omega
 refine st (v:=.int .u16 ((q183.1:Nat):Int)) (x_conv (k:=.i64) (a:=((q183.1:Nat):Int)) Try.underlying3 Try.underlying25 (.tmp rfl rfl) (wU rfl rfl hb193)) ?_
 refine st (v:=.pointer (some ⟨g52,0 + 4,none⟩)) (fa30_3 (.tmp rfl hρ84)) ?_
 have hs194:=hs192.p1
 refine st_m0 (sto25 (cs':=[.int .u8 ((q31.1:Nat):Int),.int .i64 ((q42.1:Nat):Int),.int .u64 ((i3.1.1.N:Nat):Int),.int .i64 i3.1.1.P,.int .u16 ((q183.1:Nat):Int),.int .u64 0,.int .i64 0,.int .u64 0,.int .i64 0,.slice none 0 0,.int .u64 0,.slice none 0 0,.slice none 0 0,.int .u64 0,.int .u64 0]) (i:=0 + 4) hs194 (v:=.int .u16 ((q183.1:Nat):Int)) (.tmp rfl rfl) (.tmp rfl rfl) rfl (Nat.le_of_ble_eq_true rfl) one1 rfl) ?_
 rintro w195 hs197
 refine c_nil (n_then (c_region (st (v:=.pointer (some ⟨g28,0,none⟩)) (x_move (.tmp rfl hρ83)) ?_)))
 have hs198:=hs197.p1
 refine st_c cb35 .func (evs1 (.tmp rfl rfl)) (statesdec_spec hs198 hp191 (by omega) ) ?_
 rintro e w200 ⟨H202,A204,n205,c206,q199,A208,n209,c210,hle203,rfl,sp207,hq211,hp212,hn213,hs201⟩
 have:=sp207.len; have:=sp207.le; have:n205 * 48 ≤ 140737488351232:=sp207.bnd
 refine ⟨_,rfl,?_⟩
 refine st (v:=.tuple #[.slice A204 n205 c206,.bool q199.1.2]) (x_move (.tmp rfl rfl)) ?_
 refine st (v:=.slice A204 n205 c206) (x_extract (.tmp rfl rfl) (i:=0) rfl) ?_
 refine st (v:=.bool q199.1.2) (x_extract (.tmp rfl rfl) (i:=1) rfl) ?_
 refine st (v:=.pointer (some ⟨g52,0 + 9,none⟩)) (fa30_6 (.tmp rfl hρ84)) ?_
 have hs214:=hs201.p1
 refine st_m0 (sto26 (cs':=[.int .u8 ((q31.1:Nat):Int),.int .i64 ((q42.1:Nat):Int),.int .u64 ((i3.1.1.N:Nat):Int),.int .i64 i3.1.1.P,.int .u16 ((q183.1:Nat):Int),.int .u64 0,.int .i64 0,.int .u64 0,.int .i64 0,.slice A204 n205 c206,.int .u64 0,.slice none 0 0,.slice none 0 0,.int .u64 0,.int .u64 0]) (i:=0 + 9) hs214 (v:=.slice A204 n205 c206) (.tmp rfl rfl) (.tmp rfl rfl) rfl (Nat.le_of_ble_eq_true rfl) one1 rfl) ?_
 rintro w215 hs217
 refine st (v:=.bool q199.1.2) (x_assign (.tmp rfl rfl)) ?_
 refine c_nil (n_block ?_)
 have hd0:decA b = decP (openL b).1:=decA_read (by omega) (Classical.not_not.1 hp15)
 have hd1:=dec_head hd0 hq36 hq47
 have hd2:=dec_i' hd1 (by omega) h2i
 have hd:=dec_5 hd2 (by omega) hq188 hq211
 exact n_then ⟨_,rfl,H202,i3.1.2,q199.1.2,(GFrame.mk q31.1 ((q42.1:Nat):Int) i3.1.1 q183.1 (GViewID.mk 0 0) (GViewID.mk 0 0) q199.1.1 0 [] [] 0 0),[.int .u8 ((q31.1:Nat):Int),.int .i64 ((q42.1:Nat):Int),.int .u64 ((i3.1.1.N:Nat):Int),.int .i64 i3.1.1.P,.int .u16 ((q183.1:Nat):Int),.int .u64 0,.int .i64 0,.int .u64 0,.int .i64 0,.slice A204 n205 c206,.int .u64 0,.slice none 0 0,.slice none 0 0,.int .u64 0,.int .u64 0],A208,n209,c210,q199.2.1,q199.2.2,hρ82,hρ83,hρ84,hρ85,rfl,hle203,hp212,⟨A204,n205,c206,none,0,0,none,0,0,rfl,hb41,(show IB ((q42.1:Nat):Int) from ⟨by omega,by omega⟩),hN,hP,hb193,(show 0 < 18446744073709551616 from by omega),(show IB 0 from ⟨by omega,by omega⟩),(show 0 < 18446744073709551616 from by omega),(show IB 0 from ⟨by omega,by omega⟩),sp207,(show 0 < 18446744073709551616 from by omega),(Sl.nil _ _ none),(Sl.nil _ _ none),(show 0 < 18446744073709551616 from by omega),(show 0 < 18446744073709551616 from by omega)⟩,hd,(((hs217.p2).p1).p2)⟩
 have hp182:¬ ((((q31.1:Nat):Int):Int) = 5):=of_decide_eq_false hc182
 refine c_cond_f (t:=false) (.tmp rfl (cVb hc182)) rfl ?_
 refine c_seq (c_region (st (v:=.bool (decide ((((q31.1:Nat):Int):Int) = 6))) (x_eql (k:=.u8) (a:=((q31.1:Nat):Int)) (b:=6) (.tmp rfl rfl) .const) ?_))
 refine st (v:=.bool (decide ((((q31.1:Nat):Int):Int) = 6))) (x_assign (.tmp rfl rfl)) ?_
 refine c_nil (n_then ?_)
 rcases Bool.eq_false_or_eq_true (decide ((((q31.1:Nat):Int):Int) = 6)) with hc218 | hc218
 have hp218:(((q31.1:Nat):Int):Int) = 6:=of_decide_eq_true hc218
 refine c_cond_t (t:=true) (.tmp rfl (cVb hc218)) rfl ?_
 refine c_seq (c_region (st (v:=.pointer (some ⟨g28,0,none⟩)) (x_move (.tmp rfl hρ83)) ?_))
 refine st_c cb36 .func (evs1 (.tmp rfl rfl)) (uint_q hp1 i3.2.2 hs86) ?_
 rintro e w223 ⟨q219,A220,n221,c222,hq224,hb225,hn226,rfl,hp227,hs228⟩
 refine ⟨_,rfl,?_⟩
 refine st (v:=.pointer (some ⟨g28,0,none⟩)) (x_move (.tmp rfl hρ83)) ?_
 refine st_c cb36 .func (evs1 (.tmp rfl rfl)) (uint_q hp227 q219.2.2 hs228) ?_
 rintro e w233 ⟨q229,A230,n231,c232,hq234,hb235,hn236,rfl,hp237,hs238⟩
 refine ⟨_,rfl,?_⟩
 refine st (v:=.pointer (some ⟨g52,0 + 10,none⟩)) (fa30_7 (.tmp rfl hρ84)) ?_
 have hs239:=hs238.p1
 refine st_m0 (sto22 (cs':=[.int .u8 ((q31.1:Nat):Int),.int .i64 ((q42.1:Nat):Int),.int .u64 ((i3.1.1.N:Nat):Int),.int .i64 i3.1.1.P,.int .u16 0,.int .u64 0,.int .i64 0,.int .u64 0,.int .i64 0,.slice none 0 0,.int .u64 ((q219.1:Nat):Int),.slice none 0 0,.slice none 0 0,.int .u64 0,.int .u64 0]) (i:=0 + 10) hs239 (v:=.int .u64 ((q219.1:Nat):Int)) (.tmp rfl rfl) (.tmp rfl rfl) rfl (Nat.le_of_ble_eq_true rfl) one1 rfl) ?_
 rintro w240 hs242
 refine st (v:=.pointer (some ⟨g52,0 + 13,none⟩)) (fa30_10 (.tmp rfl hρ84)) ?_
 refine st_m0 (sto22 (cs':=[.int .u8 ((q31.1:Nat):Int),.int .i64 ((q42.1:Nat):Int),.int .u64 ((i3.1.1.N:Nat):Int),.int .i64 i3.1.1.P,.int .u16 0,.int .u64 0,.int .i64 0,.int .u64 0,.int .i64 0,.slice none 0 0,.int .u64 ((q219.1:Nat):Int),.slice none 0 0,.slice none 0 0,.int .u64 ((q229.1:Nat):Int),.int .u64 0]) (i:=0 + 13) hs242 (v:=.int .u64 ((q229.1:Nat):Int)) (.tmp rfl rfl) (.tmp rfl rfl) rfl (Nat.le_of_ble_eq_true rfl) one1 rfl) ?_
 rintro w243 hs245
 refine c_nil (n_then (c_seq (c_region ?_)))
 skip
 refine st (v:=.pointer (some ⟨g28,0,none⟩)) (x_move (.tmp rfl hρ83)) ?_
 have hs246:=hs245.p1
 refine st_c cb33 .func (evs2 (.tmp rfl rfl) .const) (int_q hp237 q229.2.2 4096 (by omega) (by omega) hs246) ?_
 rintro e w251 ⟨q247,A248,n249,c250,hq252,hb253,hn254,rfl,hp255,hs256⟩
 refine ⟨_,rfl,?_⟩
 refine st (v:=.int .i64 ((q247.1:Nat):Int)) (x_assign (.tmp rfl rfl)) ?_
 refine c_nil (n_then (c_block ?_))
 have hs258:St H59 _ (row 33 1 (.slice none 0 0) (([]:List (List Nat)).length) []::obj g28 98 [.slice A248 n249 c250,.bool q247.2.2]::obj g52 30 [.int .u8 ((q31.1:Nat):Int),.int .i64 ((q42.1:Nat):Int),.int .u64 ((i3.1.1.N:Nat):Int),.int .i64 i3.1.1.P,.int .u16 0,.int .u64 0,.int .i64 0,.int .u64 0,.int .i64 0,.slice none 0 0,.int .u64 ((q219.1:Nat):Int),.slice none 0 0,.slice none 0 0,.int .u64 ((q229.1:Nat):Int),.int .u64 0]::obj g1 30 [.int .u8 0,.int .i64 0,.int .u64 0,.int .i64 0,.int .u16 0,.int .u64 0,.int .i64 0,.int .u64 0,.int .i64 0,.slice none 0 0,.int .u64 0,.slice none 0 0,.slice none 0 0,.int .u64 0,.int .u64 0]::L):=hs256.krowNil 33 kBs
 have:([]:List (List Nat)).length = 0:=rfl
 refine c_loop (fun ρ w mm => ∃ (H259:Hp) (k:Int) (A2:Option Addr) (n2:Nat) (c2:Nat) (cur:List Nat) (bad:Bool) (v2:Value) (c9:List Value) (l:List (List Nat)),ρ 2 = .pointer (some ⟨g1,0,none⟩)∧ρ 6 = .pointer (some ⟨g28,0,none⟩)∧ρ 7 = .pointer (some ⟨g52,0,none⟩)∧ρ 8 = .bool i3.1.2∧ρ 9 = .bool true∧ρ 10 = .int .i64 k∧(H59.le H259)∧(Bs H259 A2 n2 c2 cur)∧(n2 ≤ 140737488355320)∧(0 ≤ k)∧(k ≤ 4096)∧((l.length:Int) + k ≤ 4096)∧(RowOk kBs.sz v2 l.length c9)∧(kBs.toKn.rows H259 l c9)∧(MsInv q229.2.1 q229.2.2 l k cur bad)∧St H259 w (obj g28 98 [.slice A2 n2 c2,.bool bad]::obj g52 30 [.int .u8 ((q31.1:Nat):Int),.int .i64 ((q42.1:Nat):Int),.int .u64 ((i3.1.1.N:Nat):Int),.int .i64 i3.1.1.P,.int .u16 0,.int .u64 0,.int .i64 0,.int .u64 0,.int .i64 0,.slice none 0 0,.int .u64 ((q219.1:Nat):Int),v2,.slice none 0 0,.int .u64 ((q229.1:Nat):Int),.int .u64 0]::row 33 1 v2 l.length c9::obj g1 30 [.int .u8 0,.int .i64 0,.int .u64 0,.int .i64 0,.int .u16 0,.int .u64 0,.int .i64 0,.int .u64 0,.int .i64 0,.slice none 0 0,.int .u64 0,.slice none 0 0,.slice none 0 0,.int .u64 0,.int .u64 0]::L)∧mm = k.toNat) _ ⟨H59,((q247.1:Nat):Int),A248,n249,c250,q247.2.1,q247.2.2,(.slice none 0 0),[],[],hρ82,hρ83,hρ84,hρ85,rfl,rfl,(Hp.le.refl _),hp255,(by omega),(by omega),(by omega),(by omega),(RowOk.knil kBs),(Kn.rows_nil _ _),(ms_start hq252),((((hs258.p3).p1).p3).p3),rfl⟩ ?_
 rintro ρ w mm ⟨H259,k,A2,n2,c2,cur,bad,v2,c9,l,hρ261,hρ262,hρ263,hρ264,hρ265,hρ266,hg260,hp2,hn2,hk,hk2,hl,okv,hkv,inv,hs267,rfl⟩
 refine c_seq (c_seq (c_region (st (v:=.int .i64 k) (x_move (.tmp rfl hρ266)) ?_)))
 refine st (v:=.bool (decide ((0:Int) < k))) (x_gtr (k:=.i64) (a:=k) (b:=0) (.tmp rfl rfl) .const) ?_
 refine st (v:=.bool (decide ((0:Int) < k))) (x_move (.tmp rfl rfl)) ?_
 rcases Bool.eq_false_or_eq_true (decide ((0:Int) < k)) with hc268 | hc268
 have hp268:(0:Int) < k:=of_decide_eq_true hc268
 refine g_yes (yk 104 true rfl rfl hc268) ?_
 refine st (v:=.pointer (some ⟨g28,0,none⟩)) (x_move (.tmp rfl hρ262)) ?_
 refine g_yes (yk 104 true rfl rfl hc268) ?_
 refine st_c cb37 .func (evs1 (.tmp rfl rfl)) (bad_own hs267) ?_
 rintro e w269 ⟨rfl,hs270⟩
 refine ⟨_,rfl,?_⟩
 refine g_yes (yk 104 true rfl rfl hc268) ?_
 refine st (v:=.bool (!bad)) (x_not (.tmp rfl rfl)) ?_
 refine st (v:=.bool (!bad)) (x_pick_t (.tmp rfl (cVb hc268)) (.tmp rfl rfl)) ?_
 refine c_nil (n_then ?_)
 rcases Bool.eq_false_or_eq_true bad with hc271 | hc271
 refine c_cond_f (t:=false) (.tmp rfl (cVb (by rw [hc271]; rfl))) rfl ?_
 refine c_exit (x_then (x_then (x_here (n_block ?_))))
 have hs272:=hs270.p2
 have:l.length * 24 ≤ 140737488351232:=by omega
 obtain ⟨H273,A274,c275,hle276,hs277,rfl,sp278⟩:=hs272.freezeSl (d:=kBs) okv hkv this
 have:=sp278.len; have:=sp278.le
 have hd0:decA b = decP (openL b).1:=decA_read (by omega) (Classical.not_not.1 hp15)
 have hd1:=dec_head hd0 hq36 hq47
 have hd2:=dec_i' hd1 (by omega) h2i
 have hms:=ms_done inv (.inr hc271)
 have hd:=dec_6 hd2 (by omega) hq224 hq234 hms
 exact n_then ⟨_,rfl,H273,i3.1.2,true,(GFrame.mk q31.1 ((q42.1:Nat):Int) i3.1.1 0 (GViewID.mk 0 0) (GViewID.mk 0 0) [] q219.1 l [] q229.1 0),[.int .u8 ((q31.1:Nat):Int),.int .i64 ((q42.1:Nat):Int),.int .u64 ((i3.1.1.N:Nat):Int),.int .i64 i3.1.1.P,.int .u16 0,.int .u64 0,.int .i64 0,.int .u64 0,.int .i64 0,.slice none 0 0,.int .u64 ((q219.1:Nat):Int),.slice A274 l.length c275,.slice none 0 0,.int .u64 ((q229.1:Nat):Int),.int .u64 0],A2,n2,c2,cur,bad,hρ261,hρ262,hρ263,hρ264,hρ265,(hg260.trans hle276),(hp2.mono hle276),⟨none,0,0,A274,l.length,c275,none,0,0,rfl,hb41,(show IB ((q42.1:Nat):Int) from ⟨by omega,by omega⟩),hN,hP,(show 0 < 65536 from by omega),(show 0 < 18446744073709551616 from by omega),(show IB 0 from ⟨by omega,by omega⟩),(show 0 < 18446744073709551616 from by omega),(show IB 0 from ⟨by omega,by omega⟩),(Sl.nil _ _ none),hb225,sp278,(Sl.nil _ _ none),hb235,(show 0 < 18446744073709551616 from by omega)⟩,hd,(((hs277.p2).p2).p2)⟩
 refine c_cond_t (t:=true) (.tmp rfl (cVb (by rw [hc271]; rfl))) rfl ?_
 refine c_skip (n_then (c_seq (c_block (t_region (L:=obj g28 98 [.slice A2 n2 c2,.bool bad]::obj g52 30 [.int .u8 ((q31.1:Nat):Int),.int .i64 ((q42.1:Nat):Int),.int .u64 ((i3.1.1.N:Nat):Int),.int .i64 i3.1.1.P,.int .u16 0,.int .u64 0,.int .i64 0,.int .u64 0,.int .i64 0,.slice none 0 0,.int .u64 ((q219.1:Nat):Int),v2,.slice none 0 0,.int .u64 ((q229.1:Nat):Int),.int .u64 0]::row 33 1 v2 l.length c9::obj g1 30 [.int .u8 0,.int .i64 0,.int .u64 0,.int .i64 0,.int .u16 0,.int .u64 0,.int .i64 0,.int .u64 0,.int .i64 0,.slice none 0 0,.int .u64 0,.slice none 0 0,.slice none 0 0,.int .u64 0,.int .u64 0]::L) (L':=obj g52 30 [.int .u8 ((q31.1:Nat):Int),.int .i64 ((q42.1:Nat):Int),.int .u64 ((i3.1.1.N:Nat):Int),.int .i64 i3.1.1.P,.int .u16 0,.int .u64 0,.int .i64 0,.int .u64 0,.int .i64 0,.slice none 0 0,.int .u64 ((q219.1:Nat):Int),v2,.slice none 0 0,.int .u64 ((q229.1:Nat):Int),.int .u64 0]::row 33 1 v2 l.length c9::obj g1 30 [.int .u8 0,.int .i64 0,.int .u64 0,.int .i64 0,.int .u16 0,.int .u64 0,.int .i64 0,.int .u64 0,.int .i64 0,.slice none 0 0,.int .u64 0,.slice none 0 0,.slice none 0 0,.int .u64 0,.int .u64 0]::L) (Z:=[5,7]) (F:=[]) (pl:=(.q 0 (.q 1 (.q 2 (.e 3 (.e 4 (.e 5 (.q 6 (.e 7 .done))))))))) mixed hs270 (fun u hu => hu.drop) (by kernel_rfl) ?_))))
 intro w279 hs280
 refine t_st (k:=0) (v:=.pointer (some ⟨g52,0 + 11,none⟩)) rfl rfl (fun w hs => (fa30_8 (.tmp rfl hρ263))) ?_
 refine t_st (k:=1) (v:=v2) rfl rfl (fun w hs => (ld27 (.tmp rfl rfl) (hs.cell 0 rfl (0 + 11) rfl))) ?_
 refine t_st (k:=2) (v:=.pointer (some ⟨g28,0,none⟩)) rfl rfl (fun w hs => (x_move (.tmp rfl hρ262))) ?_
 refine t_eff (k:=3) rfl ?_
 refine st_c cb38 .func (evs2 (.tmp rfl rfl) .const) (bytes_q hp2 (by omega) bad 1048576 (by omega) (by omega) hs280) ?_
 rintro e w285 ⟨v291,q281,A282,n283,c284,hq286,⟨sm293,hl295,ok294⟩,hn288,rfl,hp289,hs290⟩
 refine ⟨_,rfl,?_⟩
 refine t_on (S':=fun u => St H259 u (obj g52 30 [.int .u8 ((q31.1:Nat):Int),.int .i64 ((q42.1:Nat):Int),.int .u64 ((i3.1.1.N:Nat):Int),.int .i64 i3.1.1.P,.int .u16 0,.int .u64 0,.int .i64 0,.int .u64 0,.int .i64 0,.slice none 0 0,.int .u64 ((q219.1:Nat):Int),v2,.slice none 0 0,.int .u64 ((q229.1:Nat):Int),.int .u64 0]::row 33 1 v2 l.length c9::obj g1 30 [.int .u8 0,.int .i64 0,.int .u64 0,.int .i64 0,.int .u16 0,.int .u64 0,.int .i64 0,.int .u64 0,.int .i64 0,.slice none 0 0,.int .u64 0,.slice none 0 0,.slice none 0 0,.int .u64 0,.int .u64 0]::L)) (fun u hu => hu) hs290.drop.drop ?_
 refine t_eff (k:=4) rfl ?_
 obtain ⟨H296,A297,c298,hle299,hs300,rfl,hp301⟩:=hs290.freezeBs ok294 sm293 (by omega)
 have hy302:By H296 A297 q281.1.length c298 q281.1:=⟨hp301,by omega⟩
 refine st_m (m_lit (n:=1) (ps:=[(0,.slice A297 q281.1.length c298)]) (cs:=[.slice A297 q281.1.length c298]) Try.underlying27 inf33 (.cons (.tmp rfl rfl) Evp.nil) (by decide) (by decide) rfl rfl hs300) ?_
 rintro _ w304 ⟨g303,rfl,hs306⟩
 refine t_on (S':=fun u => St H296 u (obj g303 33 [.slice A297 q281.1.length c298]::obj g52 30 [.int .u8 ((q31.1:Nat):Int),.int .i64 ((q42.1:Nat):Int),.int .u64 ((i3.1.1.N:Nat):Int),.int .i64 i3.1.1.P,.int .u16 0,.int .u64 0,.int .i64 0,.int .u64 0,.int .i64 0,.slice none 0 0,.int .u64 ((q219.1:Nat):Int),v2,.slice none 0 0,.int .u64 ((q229.1:Nat):Int),.int .u64 0]::row 33 1 v2 l.length c9::obj g1 30 [.int .u8 0,.int .i64 0,.int .u64 0,.int .i64 0,.int .u16 0,.int .u64 0,.int .i64 0,.int .u64 0,.int .i64 0,.slice none 0 0,.int .u64 0,.slice none 0 0,.slice none 0 0,.int .u64 0,.int .u64 0]::L)) (fun u hu => hu.drop.weaken hle299) (hs306.p1).drop ?_
 refine t_eff (k:=5) rfl ?_
 have hs307:=hs306.p3
 have hr315:kBs.rep H296 q281.1 [.slice A297 q281.1.length c298]:=⟨A297,q281.1.length,c298,rfl,hy302⟩
 refine st_m (m_appK (d:=kBs) (ys:=[q281.1]) (news:=[.slice A297 q281.1.length c298]) Try.underlying27 inf33 rfl hs307 okv (Kn.rows_mono hkv hle299) (.tmp rfl rfl) (.tmp rfl rfl) (Kn.rows_one hr315) rfl (hs307.at_ 1 rfl 0 rfl) (by have:([q281.1]:List (List Nat)).length = 1:=rfl; omega) (by decide)) ?_
 rintro v308 w309 ⟨cs310,ok311,hk312,hs313⟩
 have hn314:(l ++ [q281.1]).length = l.length + 1:=by simp
 refine t_new (S':=fun u => St H296 u (row 33 1 v308 ((l ++ [q281.1]).length) cs310::obj g303 33 [.slice A297 q281.1.length c298]::obj g28 98 [.slice A282 n283 c284,.bool q281.2.2]::obj g52 30 [.int .u8 ((q31.1:Nat):Int),.int .i64 ((q42.1:Nat):Int),.int .u64 ((i3.1.1.N:Nat):Int),.int .i64 i3.1.1.P,.int .u16 0,.int .u64 0,.int .i64 0,.int .u64 0,.int .i64 0,.slice none 0 0,.int .u64 ((q219.1:Nat):Int),v2,.slice none 0 0,.int .u64 ((q229.1:Nat):Int),.int .u64 0]::obj g1 30 [.int .u8 0,.int .i64 0,.int .u64 0,.int .i64 0,.int .u16 0,.int .u64 0,.int .i64 0,.int .u64 0,.int .i64 0,.slice none 0 0,.int .u64 0,.slice none 0 0,.slice none 0 0,.int .u64 0,.int .u64 0]::L)) rfl hs313 ?_
 refine t_st (k:=6) (v:=.pointer (some ⟨g52,0 + 11,none⟩)) rfl rfl (fun w hs => (fa30_8 (.tmp rfl hρ263))) ?_
 refine t_eff (k:=7) rfl ?_
 obtain ⟨A316,c317,rfl,hc318⟩:=ok311.slice
 have hs319:=hs313.p3
 refine st_m0 (sto27 (cs':=[.int .u8 ((q31.1:Nat):Int),.int .i64 ((q42.1:Nat):Int),.int .u64 ((i3.1.1.N:Nat):Int),.int .i64 i3.1.1.P,.int .u16 0,.int .u64 0,.int .i64 0,.int .u64 0,.int .i64 0,.slice none 0 0,.int .u64 ((q219.1:Nat):Int),.slice A316 ((l ++ [q281.1]).length) c317,.slice none 0 0,.int .u64 ((q229.1:Nat):Int),.int .u64 0]) (i:=0 + 11) hs319 (v:=.slice A316 ((l ++ [q281.1]).length) c317) (.tmp rfl rfl) (.tmp rfl rfl) rfl (Nat.le_of_ble_eq_true rfl) one1 rfl) ?_
 rintro w320 hs322
 refine t_new (S':=fun u => St H296 u (obj g52 30 [.int .u8 ((q31.1:Nat):Int),.int .i64 ((q42.1:Nat):Int),.int .u64 ((i3.1.1.N:Nat):Int),.int .i64 i3.1.1.P,.int .u16 0,.int .u64 0,.int .i64 0,.int .u64 0,.int .i64 0,.slice none 0 0,.int .u64 ((q219.1:Nat):Int),.slice A316 ((l ++ [q281.1]).length) c317,.slice none 0 0,.int .u64 ((q229.1:Nat):Int),.int .u64 0]::row 33 1 (.slice A316 ((l ++ [q281.1]).length) c317) ((l ++ [q281.1]).length) cs310::obj g303 33 [.slice A297 q281.1.length c298]::obj g28 98 [.slice A282 n283 c284,.bool q281.2.2]::obj g1 30 [.int .u8 0,.int .i64 0,.int .u64 0,.int .i64 0,.int .u16 0,.int .u64 0,.int .i64 0,.int .u64 0,.int .i64 0,.slice none 0 0,.int .u64 0,.slice none 0 0,.slice none 0 0,.int .u64 0,.int .u64 0]::L)) rfl hs322 ?_
 refine t_nil ?_
 refine n_block (n_then (c_region (st (v:=.int .i64 k) (x_move (.tmp rfl hρ266)) ?_)))
 refine st (v:=.int .i64 (k - 1)) (x_sub (k:=.i64) (a:=k) (b:=1) (.tmp rfl rfl) .const (w64 (by omega) (by omega))) ?_
 refine st (v:=.int .i64 (k - 1)) (x_assign (.tmp rfl rfl)) ?_
 refine c_nil ?_
 refine n_then ⟨_,_,rfl,?_,H296,(k - 1),A282,n283,c284,q281.2.1,q281.2.2,(.slice A316 ((l ++ [q281.1]).length) c317),cs310,(l ++ [q281.1]),hρ261,hρ262,hρ263,hρ264,hρ265,rfl,(hg260.trans hle299),(hp289.mono hle299),(by omega),(by omega),(by omega),(by omega),ok311,hk312,(ms_step inv (by omega) hc271 hq286),(((((hs322.p2).drop.p3).p2).p2).p3),rfl⟩
 omega
 have hp268:¬ ((0:Int) < k):=of_decide_eq_false hc268
 refine g_no (yk 104 false rfl rfl hc268) rfl ?_
 refine g_no (yk 104 false rfl rfl hc268) rfl ?_
 refine g_no (yk 104 false rfl rfl hc268) rfl ?_
 refine st (v:=.bool false) (x_pick_f (.tmp rfl (cVb hc268)) .const) ?_
 refine c_nil (n_then (c_cond_f (t:=false) (.tmp rfl rfl) rfl ?_))
 refine c_exit (x_then (x_then (x_here (n_block ?_))))
 have hs323:=hs267.p2
 have:l.length * 24 ≤ 140737488351232:=by omega
 obtain ⟨H324,A325,c326,hle327,hs328,rfl,sp329⟩:=hs323.freezeSl (d:=kBs) okv hkv this
 have:=sp329.len; have:=sp329.le
 have hd0:decA b = decP (openL b).1:=decA_read (by omega) (Classical.not_not.1 hp15)
 have hd1:=dec_head hd0 hq36 hq47
 have hd2:=dec_i' hd1 (by omega) h2i
 have hms:=ms_done inv (.inl (by omega))
 have hd:=dec_6 hd2 (by omega) hq224 hq234 hms
 exact n_then ⟨_,rfl,H324,i3.1.2,true,(GFrame.mk q31.1 ((q42.1:Nat):Int) i3.1.1 0 (GViewID.mk 0 0) (GViewID.mk 0 0) [] q219.1 l [] q229.1 0),[.int .u8 ((q31.1:Nat):Int),.int .i64 ((q42.1:Nat):Int),.int .u64 ((i3.1.1.N:Nat):Int),.int .i64 i3.1.1.P,.int .u16 0,.int .u64 0,.int .i64 0,.int .u64 0,.int .i64 0,.slice none 0 0,.int .u64 ((q219.1:Nat):Int),.slice A325 l.length c326,.slice none 0 0,.int .u64 ((q229.1:Nat):Int),.int .u64 0],A2,n2,c2,cur,bad,hρ261,hρ262,hρ263,hρ264,hρ265,(hg260.trans hle327),(hp2.mono hle327),⟨none,0,0,A325,l.length,c326,none,0,0,rfl,hb41,(show IB ((q42.1:Nat):Int) from ⟨by omega,by omega⟩),hN,hP,(show 0 < 65536 from by omega),(show 0 < 18446744073709551616 from by omega),(show IB 0 from ⟨by omega,by omega⟩),(show 0 < 18446744073709551616 from by omega),(show IB 0 from ⟨by omega,by omega⟩),(Sl.nil _ _ none),hb225,sp329,(Sl.nil _ _ none),hb235,(show 0 < 18446744073709551616 from by omega)⟩,hd,(((hs328.p2).p2).p2)⟩
 have hp218:¬ ((((q31.1:Nat):Int):Int) = 6):=of_decide_eq_false hc218
 refine c_cond_f (t:=false) (.tmp rfl (cVb hc218)) rfl ?_
 refine c_seq (c_region (st (v:=.bool (decide ((((q31.1:Nat):Int):Int) = 7))) (x_eql (k:=.u8) (a:=((q31.1:Nat):Int)) (b:=7) (.tmp rfl rfl) .const) ?_))
 refine st (v:=.bool (decide ((((q31.1:Nat):Int):Int) = 7))) (x_assign (.tmp rfl rfl)) ?_
 refine c_nil (n_then ?_)
 rcases Bool.eq_false_or_eq_true (decide ((((q31.1:Nat):Int):Int) = 7)) with hc330 | hc330
 have hp330:(((q31.1:Nat):Int):Int) = 7:=of_decide_eq_true hc330
 refine c_cond_t (t:=true) (.tmp rfl (cVb hc330)) rfl ?_
 refine c_seq (c_region (st (v:=.pointer (some ⟨g28,0,none⟩)) (x_move (.tmp rfl hρ83)) ?_))
 refine st_c cb36 .func (evs1 (.tmp rfl rfl)) (uint_q hp1 i3.2.2 hs86) ?_
 rintro e w335 ⟨q331,A332,n333,c334,hq336,hb337,hn338,rfl,hp339,hs340⟩
 refine ⟨_,rfl,?_⟩
 refine st (v:=.pointer (some ⟨g28,0,none⟩)) (x_move (.tmp rfl hρ83)) ?_
 refine st_c cb36 .func (evs1 (.tmp rfl rfl)) (uint_q hp339 q331.2.2 hs340) ?_
 rintro e w345 ⟨q341,A342,n343,c344,hq346,hb347,hn348,rfl,hp349,hs350⟩
 refine ⟨_,rfl,?_⟩
 refine st (v:=.pointer (some ⟨g28,0,none⟩)) (x_move (.tmp rfl hρ83)) ?_
 refine st_c cb36 .func (evs1 (.tmp rfl rfl)) (uint_q hp349 q341.2.2 hs350) ?_
 rintro e w355 ⟨q351,A352,n353,c354,hq356,hb357,hn358,rfl,hp359,hs360⟩
 refine ⟨_,rfl,?_⟩
 refine st (v:=.pointer (some ⟨g52,0 + 10,none⟩)) (fa30_7 (.tmp rfl hρ84)) ?_
 have hs361:=hs360.p1
 refine st_m0 (sto22 (cs':=[.int .u8 ((q31.1:Nat):Int),.int .i64 ((q42.1:Nat):Int),.int .u64 ((i3.1.1.N:Nat):Int),.int .i64 i3.1.1.P,.int .u16 0,.int .u64 0,.int .i64 0,.int .u64 0,.int .i64 0,.slice none 0 0,.int .u64 ((q331.1:Nat):Int),.slice none 0 0,.slice none 0 0,.int .u64 0,.int .u64 0]) (i:=0 + 10) hs361 (v:=.int .u64 ((q331.1:Nat):Int)) (.tmp rfl rfl) (.tmp rfl rfl) rfl (Nat.le_of_ble_eq_true rfl) one1 rfl) ?_
 rintro w362 hs364
 refine st (v:=.pointer (some ⟨g52,0 + 13,none⟩)) (fa30_10 (.tmp rfl hρ84)) ?_
 refine st_m0 (sto22 (cs':=[.int .u8 ((q31.1:Nat):Int),.int .i64 ((q42.1:Nat):Int),.int .u64 ((i3.1.1.N:Nat):Int),.int .i64 i3.1.1.P,.int .u16 0,.int .u64 0,.int .i64 0,.int .u64 0,.int .i64 0,.slice none 0 0,.int .u64 ((q331.1:Nat):Int),.slice none 0 0,.slice none 0 0,.int .u64 ((q341.1:Nat):Int),.int .u64 0]) (i:=0 + 13) hs364 (v:=.int .u64 ((q341.1:Nat):Int)) (.tmp rfl rfl) (.tmp rfl rfl) rfl (Nat.le_of_ble_eq_true rfl) one1 rfl) ?_
 rintro w365 hs367
 refine st (v:=.pointer (some ⟨g52,0 + 14,none⟩)) (fa30_11 (.tmp rfl hρ84)) ?_
 refine st_m0 (sto22 (cs':=[.int .u8 ((q31.1:Nat):Int),.int .i64 ((q42.1:Nat):Int),.int .u64 ((i3.1.1.N:Nat):Int),.int .i64 i3.1.1.P,.int .u16 0,.int .u64 0,.int .i64 0,.int .u64 0,.int .i64 0,.slice none 0 0,.int .u64 ((q331.1:Nat):Int),.slice none 0 0,.slice none 0 0,.int .u64 ((q341.1:Nat):Int),.int .u64 ((q351.1:Nat):Int)]) (i:=0 + 14) hs367 (v:=.int .u64 ((q351.1:Nat):Int)) (.tmp rfl rfl) (.tmp rfl rfl) rfl (Nat.le_of_ble_eq_true rfl) one1 rfl) ?_
 rintro w368 hs370
 refine c_nil (n_then (c_region (st (v:=.pointer (some ⟨g28,0,none⟩)) (x_move (.tmp rfl hρ83)) ?_)))
 have hs371:=hs370.p1
 refine st_c cb39 .func (evs1 (.tmp rfl rfl)) (itemsdec_spec hs371 hp359 (by omega) ) ?_
 rintro e w373 ⟨H375,A377,n378,c379,q372,A381,n382,c383,hle376,rfl,sp380,hq384,hp385,hn386,hs374⟩
 have:=sp380.len; have:=sp380.le; have:n378 * 32 ≤ 140737488351232:=sp380.bnd
 refine ⟨_,rfl,?_⟩
 refine st (v:=.pointer (some ⟨g52,0 + 12,none⟩)) (fa30_9 (.tmp rfl hρ84)) ?_
 have hs387:=hs374.p1
 refine st_m0 (sto28 (cs':=[.int .u8 ((q31.1:Nat):Int),.int .i64 ((q42.1:Nat):Int),.int .u64 ((i3.1.1.N:Nat):Int),.int .i64 i3.1.1.P,.int .u16 0,.int .u64 0,.int .i64 0,.int .u64 0,.int .i64 0,.slice none 0 0,.int .u64 ((q331.1:Nat):Int),.slice none 0 0,.slice A377 n378 c379,.int .u64 ((q341.1:Nat):Int),.int .u64 ((q351.1:Nat):Int)]) (i:=0 + 12) hs387 (v:=.slice A377 n378 c379) (.tmp rfl rfl) (.tmp rfl rfl) rfl (Nat.le_of_ble_eq_true rfl) one1 rfl) ?_
 rintro w388 hs390
 refine c_nil (n_block ?_)
 have hd0:decA b = decP (openL b).1:=decA_read (by omega) (Classical.not_not.1 hp15)
 have hd1:=dec_head hd0 hq36 hq47
 have hd2:=dec_i' hd1 (by omega) h2i
 have hd:=dec_7 hd2 (by omega) hq336 hq346 hq356 hq384
 exact n_then ⟨_,rfl,H375,i3.1.2,true,(GFrame.mk q31.1 ((q42.1:Nat):Int) i3.1.1 0 (GViewID.mk 0 0) (GViewID.mk 0 0) [] q331.1 [] q372.1 q341.1 q351.1),[.int .u8 ((q31.1:Nat):Int),.int .i64 ((q42.1:Nat):Int),.int .u64 ((i3.1.1.N:Nat):Int),.int .i64 i3.1.1.P,.int .u16 0,.int .u64 0,.int .i64 0,.int .u64 0,.int .i64 0,.slice none 0 0,.int .u64 ((q331.1:Nat):Int),.slice none 0 0,.slice A377 n378 c379,.int .u64 ((q341.1:Nat):Int),.int .u64 ((q351.1:Nat):Int)],A381,n382,c383,q372.2.1,q372.2.2,hρ82,hρ83,hρ84,hρ85,rfl,hle376,hp385,⟨none,0,0,none,0,0,A377,n378,c379,rfl,hb41,(show IB ((q42.1:Nat):Int) from ⟨by omega,by omega⟩),hN,hP,(show 0 < 65536 from by omega),(show 0 < 18446744073709551616 from by omega),(show IB 0 from ⟨by omega,by omega⟩),(show 0 < 18446744073709551616 from by omega),(show IB 0 from ⟨by omega,by omega⟩),(Sl.nil _ _ none),hb337,(Sl.nil _ _ none),sp380,hb347,hb357⟩,hd,(((hs390.p2).p1).p2)⟩
 have hp330:¬ ((((q31.1:Nat):Int):Int) = 7):=of_decide_eq_false hc330
 refine c_cond_f (t:=false) (.tmp rfl (cVb hc330)) rfl ?_
 refine c_seq (c_region (st (v:=.agg #[.int .u8 0,.int .i64 0,.int .u64 0,.int .i64 0,.int .u16 0,.int .u64 0,.int .i64 0,.int .u64 0,.int .i64 0,.slice none 0 0,.int .u64 0,.slice none 0 0,.slice none 0 0,.int .u64 0,.int .u64 0]) (bl30 (ps:=[]) Evp.nil rfl) ?_))
 have hs391:=hs86.p2
 refine st_m0 (sto30 (cs':=[.int .u8 0,.int .i64 0,.int .u64 0,.int .i64 0,.int .u16 0,.int .u64 0,.int .i64 0,.int .u64 0,.int .i64 0,.slice none 0 0,.int .u64 0,.slice none 0 0,.slice none 0 0,.int .u64 0,.int .u64 0]) (i:=0) hs391 (v:=.agg #[.int .u8 0,.int .i64 0,.int .u64 0,.int .i64 0,.int .u16 0,.int .u64 0,.int .i64 0,.int .u64 0,.int .i64 0,.slice none 0 0,.int .u64 0,.slice none 0 0,.slice none 0 0,.int .u64 0,.int .u64 0]) (.tmp rfl hρ82) (.tmp rfl rfl) rfl (Nat.le_of_ble_eq_true rfl) (oneA rfl) rfl) ?_
 rintro w392 hs394
 refine st (v:=.int .i64 3) (x_assign .const) ?_
 refine c_nil (n_then (c_ret (r_block (r_then (leave_ret (res_two (v:=.agg #[.int .u8 0,.int .i64 0,.int .u64 0,.int .i64 0,.int .u16 0,.int .u64 0,.int .i64 0,.int .u64 0,.int .i64 0,.slice none 0 0,.int .u64 0,.slice none 0 0,.slice none 0 0,.int .u64 0,.int .u64 0]) (u:=.int .i64 3) rfl (.mkCell rfl hρ82 (lv30 (cs:=[.int .u8 0,.int .i64 0,.int .u64 0,.int .i64 0,.int .u16 0,.int .u64 0,.int .i64 0,.int .u64 0,.int .i64 0,.slice none 0 0,.int .u64 0,.slice none 0 0,.slice none 0 0,.int .u64 0,.int .u64 0]) (hs394.at_ 0 rfl 0 rfl) rfl)) (.mk rfl rfl)) ?_)))))
 have hd0:decA b = decP (openL b).1:=decA_read (by omega) (Classical.not_not.1 hp15)
 have hd1:=dec_head hd0 hq36 hq47
 have hd2:=dec_i' hd1 (by omega) h2i
 have hans395:decA b = (zF,3):=dec_0 hd2 (by omega) (by omega) (by omega) (by omega) (by omega) (by omega)
 rw [hans395]
 exact ⟨H59,[.int .u8 0,.int .i64 0,.int .u64 0,.int .i64 0,.int .u16 0,.int .u64 0,.int .i64 0,.int .u64 0,.int .i64 0,.slice none 0 0,.int .u64 0,.slice none 0 0,.slice none 0 0,.int .u64 0,.int .u64 0],(hle24.trans hg60),rfl,⟨none,0,0,none,0,0,none,0,0,rfl,(show 0 < 256 from by omega),(show IB 0 from ⟨by omega,by omega⟩),(show 0 < 18446744073709551616 from by omega),(show IB 0 from ⟨by omega,by omega⟩),(show 0 < 65536 from by omega),(show 0 < 18446744073709551616 from by omega),(show IB 0 from ⟨by omega,by omega⟩),(show 0 < 18446744073709551616 from by omega),(show IB 0 from ⟨by omega,by omega⟩),(Sl.nil _ _ none),(show 0 < 18446744073709551616 from by omega),(Sl.nil _ _ none),(Sl.nil _ _ none),(show 0 < 18446744073709551616 from by omega),(show 0 < 18446744073709551616 from by omega)⟩,hs394.drop.drop.drop⟩
 rintro ρ w ⟨H87,ok3,fine3,g3,cs3,A3,n3,c3,cur3,bad3,hρ396,hρ397,hρ398,hρ399,hρ400,hg88,hp3,hr3,hd3,hs401⟩
 obtain ⟨A415,n416,c417,A420,n421,c422,A424,n425,c426,rfl,b402,⟨b403,b404⟩,b405,⟨b406,b407⟩,b408,b409,⟨b410,b411⟩,b412,⟨b413,b414⟩,hl418,b419,hl423,hl427,b428,b429⟩:=hr3
 have:=hl418.len; have:n416 * 48 ≤ 140737488351232:=hl418.bnd; have:=hl418.le
 have:=hl423.len; have:n421 * 24 ≤ 140737488351232:=hl423.bnd; have:=hl423.le
 have:=hl427.len; have:n425 * 32 ≤ 140737488351232:=hl427.bnd; have:=hl427.le
 refine c_seq (c_seq (c_region (st (v:=.bool ok3) (x_move (.tmp rfl hρ399)) ?_)))
 refine st (v:=.bool (!ok3)) (x_not (.tmp rfl rfl)) ?_
 refine st (v:=.bool (!ok3)) (x_move (.tmp rfl rfl)) ?_
 refine jw 3 (fun ρ w => ρ 137 = .bool ((!ok3) || (!fine3))∧ρ 2 = .pointer (some ⟨g1,0,none⟩)∧ρ 6 = .pointer (some ⟨g28,0,none⟩)∧ρ 7 = .pointer (some ⟨g52,0,none⟩)∧St H87 w (obj g28 98 [.slice A3 n3 c3,.bool bad3]::obj g52 30 [.int .u8 ((g3.Kind:Nat):Int),.int .i64 g3.From,.int .u64 ((g3.ID.N:Nat):Int),.int .i64 g3.ID.P,.int .u16 ((g3.Set:Nat):Int),.int .u64 ((g3.Cur.N:Nat):Int),.int .i64 g3.Cur.P,.int .u64 ((g3.Prom.N:Nat):Int),.int .i64 g3.Prom.P,.slice A415 n416 c417,.int .u64 ((g3.Base:Nat):Int),.slice A420 n421 c422,.slice A424 n425 c426,.int .u64 ((g3.Ack:Nat):Int),.int .u64 ((g3.Safe:Nat):Int)]::obj g1 30 [.int .u8 0,.int .i64 0,.int .u64 0,.int .i64 0,.int .u16 0,.int .u64 0,.int .i64 0,.int .u64 0,.int .i64 0,.slice none 0 0,.int .u64 0,.slice none 0 0,.slice none 0 0,.int .u64 0,.int .u64 0]::L)) ?_ ?_
 rcases Bool.eq_false_or_eq_true ok3 with hc430 | hc430
 refine g_yes (yl (dj:=134) (b:=false) rfl rfl (cVb (by rw [hc430]; rfl))) ?_
 refine st (v:=.bool fine3) (x_move (.tmp rfl hρ400)) ?_
 refine g_yes (yl (dj:=134) (b:=false) rfl rfl (cVb (by rw [hc430]; rfl))) ?_
 refine st (v:=.bool (!fine3)) (x_not (.tmp rfl rfl)) ?_
 refine st (v:=.bool (!fine3)) (x_pick_f (.tmp rfl (cVb (by rw [hc430]; rfl))) (.tmp rfl rfl)) ?_
 exact jw_end ⟨(cVb (jor_f (by rw [hc430]; rfl))),hρ396,hρ397,hρ398,hs401⟩
 refine g_no (yl (dj:=134) (b:=true) rfl rfl (cVb (by rw [hc430]; rfl))) rfl ?_
 refine g_no (yl (dj:=134) (b:=true) rfl rfl (cVb (by rw [hc430]; rfl))) rfl ?_
 refine st (v:=.bool true) (x_pick_t (.tmp rfl (cVb (by rw [hc430]; rfl))) .const) ?_
 exact jw_end ⟨(cVb (jor_t (by rw [hc430]; rfl))),hρ396,hρ397,hρ398,hs401⟩
 rintro ρ w ⟨hρ431,hρ432,hρ433,hρ434,hs435⟩
 refine st (v:=.bool ((!ok3) || (!fine3))) (x_move (.tmp rfl hρ431)) ?_
 rcases Bool.eq_false_or_eq_true ((!ok3) || (!fine3)) with hc436 | hc436
 have hp436:(¬ (ok3 = true)) ∨ (¬ (fine3 = true)):=((J_or (J_not Iff.rfl) (J_not Iff.rfl))).1 hc436
 refine g_no (yk 138 true rfl rfl hc436) rfl ?_
 refine g_no (yk 138 true rfl rfl hc436) rfl ?_
 refine st (v:=.bool true) (x_pick_t (.tmp rfl (cVb hc436)) .const) ?_
 refine st (v:=.bool true) (x_move (.tmp rfl rfl)) ?_
 refine g_no (yl (dj:=142) (b:=true) rfl rfl rfl) rfl ?_
 refine g_no (yl (dj:=142) (b:=true) rfl rfl rfl) rfl ?_
 refine g_no (yl (dj:=142) (b:=true) rfl rfl rfl) rfl ?_
 refine st (v:=.bool true) (x_pick_t (.tmp rfl rfl) .const) ?_
 refine st (v:=.bool true) (x_move (.tmp rfl rfl)) ?_
 refine g_no (yl (dj:=147) (b:=true) rfl rfl rfl) rfl ?_
 refine g_no (yl (dj:=147) (b:=true) rfl rfl rfl) rfl ?_
 refine g_no (yl (dj:=147) (b:=true) rfl rfl rfl) rfl ?_
 refine g_no (yl (dj:=147) (b:=true) rfl rfl rfl) rfl ?_
 refine g_no0 (yn (dj:=151) rfl rfl) ?_
 refine g_no0 (yn (dj:=151) rfl rfl) ?_
 refine g_no0 (yn (dj:=151) rfl rfl) ?_
 refine g_no0 (yn (dj:=151) rfl rfl) ?_
 refine g_no (yl (dj:=147) (b:=true) rfl rfl rfl) rfl ?_
 refine st (v:=.bool true) (x_pick_t (.tmp rfl rfl) .const) ?_
 refine st (v:=.bool true) (x_move (.tmp rfl rfl)) ?_
 refine g_no (yl (dj:=158) (b:=true) rfl rfl rfl) rfl ?_
 refine g_no (yl (dj:=158) (b:=true) rfl rfl rfl) rfl ?_
 refine g_no (yl (dj:=158) (b:=true) rfl rfl rfl) rfl ?_
 refine g_no (yl (dj:=158) (b:=true) rfl rfl rfl) rfl ?_
 refine g_no0 (yn (dj:=162) rfl rfl) ?_
 refine g_no0 (yn (dj:=162) rfl rfl) ?_
 refine g_no0 (yn (dj:=162) rfl rfl) ?_
 refine g_no0 (yn (dj:=162) rfl rfl) ?_
 refine g_no (yl (dj:=158) (b:=true) rfl rfl rfl) rfl ?_
 refine st (v:=.bool true) (x_pick_t (.tmp rfl rfl) .const) ?_
 refine c_nil (n_then (c_cond_t (t:=true) (.tmp rfl rfl) rfl ?_))
 refine c_seq (c_region (st (v:=.agg #[.int .u8 0,.int .i64 0,.int .u64 0,.int .i64 0,.int .u16 0,.int .u64 0,.int .i64 0,.int .u64 0,.int .i64 0,.slice none 0 0,.int .u64 0,.slice none 0 0,.slice none 0 0,.int .u64 0,.int .u64 0]) (bl30 (ps:=[]) Evp.nil rfl) ?_))
 have hs437:=hs435.p2
 refine st_m0 (sto30 (cs':=[.int .u8 0,.int .i64 0,.int .u64 0,.int .i64 0,.int .u16 0,.int .u64 0,.int .i64 0,.int .u64 0,.int .i64 0,.slice none 0 0,.int .u64 0,.slice none 0 0,.slice none 0 0,.int .u64 0,.int .u64 0]) (i:=0) hs437 (v:=.agg #[.int .u8 0,.int .i64 0,.int .u64 0,.int .i64 0,.int .u16 0,.int .u64 0,.int .i64 0,.int .u64 0,.int .i64 0,.slice none 0 0,.int .u64 0,.slice none 0 0,.slice none 0 0,.int .u64 0,.int .u64 0]) (.tmp rfl hρ432) (.tmp rfl rfl) rfl (Nat.le_of_ble_eq_true rfl) (oneA rfl) rfl) ?_
 rintro w438 hs440
 refine st (v:=.int .i64 3) (x_assign .const) ?_
 refine c_nil (n_then (c_ret (r_then (leave_ret (res_two (v:=.agg #[.int .u8 0,.int .i64 0,.int .u64 0,.int .i64 0,.int .u16 0,.int .u64 0,.int .i64 0,.int .u64 0,.int .i64 0,.slice none 0 0,.int .u64 0,.slice none 0 0,.slice none 0 0,.int .u64 0,.int .u64 0]) (u:=.int .i64 3) rfl (.mkCell rfl hρ432 (lv30 (cs:=[.int .u8 0,.int .i64 0,.int .u64 0,.int .i64 0,.int .u16 0,.int .u64 0,.int .i64 0,.int .u64 0,.int .i64 0,.slice none 0 0,.int .u64 0,.slice none 0 0,.slice none 0 0,.int .u64 0,.int .u64 0]) (hs440.at_ 0 rfl 0 rfl) rfl)) (.mk rfl rfl)) ?_))))
 have hans441:decA b = (zF,3):=hd3.trans (tail_ok hp436)
 rw [hans441]
 exact ⟨H87,[.int .u8 0,.int .i64 0,.int .u64 0,.int .i64 0,.int .u16 0,.int .u64 0,.int .i64 0,.int .u64 0,.int .i64 0,.slice none 0 0,.int .u64 0,.slice none 0 0,.slice none 0 0,.int .u64 0,.int .u64 0],((hle24.trans hg60).trans hg88),rfl,⟨none,0,0,none,0,0,none,0,0,rfl,(show 0 < 256 from by omega),(show IB 0 from ⟨by omega,by omega⟩),(show 0 < 18446744073709551616 from by omega),(show IB 0 from ⟨by omega,by omega⟩),(show 0 < 65536 from by omega),(show 0 < 18446744073709551616 from by omega),(show IB 0 from ⟨by omega,by omega⟩),(show 0 < 18446744073709551616 from by omega),(show IB 0 from ⟨by omega,by omega⟩),(Sl.nil _ _ none),(show 0 < 18446744073709551616 from by omega),(Sl.nil _ _ none),(Sl.nil _ _ none),(show 0 < 18446744073709551616 from by omega),(show 0 < 18446744073709551616 from by omega)⟩,hs440.drop.drop.drop⟩
 have hp436:¬ ((¬ (ok3 = true)) ∨ (¬ (fine3 = true))):=J_no (J_or (J_not Iff.rfl) (J_not Iff.rfl)) hc436
 refine g_yes (yk 138 false rfl rfl hc436) ?_
 refine st (v:=.pointer (some ⟨g28,0,none⟩)) (x_move (.tmp rfl hρ433)) ?_
 refine g_yes (yk 138 false rfl rfl hc436) ?_
 refine st_c cb37 .func (evs1 (.tmp rfl rfl)) (bad_own hs435) ?_
 rintro e w442 ⟨rfl,hs443⟩
 refine ⟨_,rfl,?_⟩
 refine st (v:=.bool bad3) (x_pick_f (.tmp rfl (cVb hc436)) (.tmp rfl rfl)) ?_
 refine st (v:=.bool bad3) (x_move (.tmp rfl rfl)) ?_
 rcases Bool.eq_false_or_eq_true bad3 with hc444 | hc444
 refine g_no (yk 142 true rfl rfl hc444) rfl ?_
 refine g_no (yk 142 true rfl rfl hc444) rfl ?_
 refine g_no (yk 142 true rfl rfl hc444) rfl ?_
 refine st (v:=.bool true) (x_pick_t (.tmp rfl (cVb hc444)) .const) ?_
 refine st (v:=.bool true) (x_move (.tmp rfl rfl)) ?_
 refine g_no (yl (dj:=147) (b:=true) rfl rfl rfl) rfl ?_
 refine g_no (yl (dj:=147) (b:=true) rfl rfl rfl) rfl ?_
 refine g_no (yl (dj:=147) (b:=true) rfl rfl rfl) rfl ?_
 refine g_no (yl (dj:=147) (b:=true) rfl rfl rfl) rfl ?_
 refine g_no0 (yn (dj:=151) rfl rfl) ?_
 refine g_no0 (yn (dj:=151) rfl rfl) ?_
 refine g_no0 (yn (dj:=151) rfl rfl) ?_
 refine g_no0 (yn (dj:=151) rfl rfl) ?_
 refine g_no (yl (dj:=147) (b:=true) rfl rfl rfl) rfl ?_
 refine st (v:=.bool true) (x_pick_t (.tmp rfl rfl) .const) ?_
 refine st (v:=.bool true) (x_move (.tmp rfl rfl)) ?_
 refine g_no (yl (dj:=158) (b:=true) rfl rfl rfl) rfl ?_
 refine g_no (yl (dj:=158) (b:=true) rfl rfl rfl) rfl ?_
 refine g_no (yl (dj:=158) (b:=true) rfl rfl rfl) rfl ?_
 refine g_no (yl (dj:=158) (b:=true) rfl rfl rfl) rfl ?_
 refine g_no0 (yn (dj:=162) rfl rfl) ?_
 refine g_no0 (yn (dj:=162) rfl rfl) ?_
 refine g_no0 (yn (dj:=162) rfl rfl) ?_
 refine g_no0 (yn (dj:=162) rfl rfl) ?_
 refine g_no (yl (dj:=158) (b:=true) rfl rfl rfl) rfl ?_
 refine st (v:=.bool true) (x_pick_t (.tmp rfl rfl) .const) ?_
 refine c_nil (n_then (c_cond_t (t:=true) (.tmp rfl rfl) rfl ?_))
 refine c_seq (c_region (st (v:=.agg #[.int .u8 0,.int .i64 0,.int .u64 0,.int .i64 0,.int .u16 0,.int .u64 0,.int .i64 0,.int .u64 0,.int .i64 0,.slice none 0 0,.int .u64 0,.slice none 0 0,.slice none 0 0,.int .u64 0,.int .u64 0]) (bl30 (ps:=[]) Evp.nil rfl) ?_))
 have hs445:=hs443.p2
 refine st_m0 (sto30 (cs':=[.int .u8 0,.int .i64 0,.int .u64 0,.int .i64 0,.int .u16 0,.int .u64 0,.int .i64 0,.int .u64 0,.int .i64 0,.slice none 0 0,.int .u64 0,.slice none 0 0,.slice none 0 0,.int .u64 0,.int .u64 0]) (i:=0) hs445 (v:=.agg #[.int .u8 0,.int .i64 0,.int .u64 0,.int .i64 0,.int .u16 0,.int .u64 0,.int .i64 0,.int .u64 0,.int .i64 0,.slice none 0 0,.int .u64 0,.slice none 0 0,.slice none 0 0,.int .u64 0,.int .u64 0]) (.tmp rfl hρ432) (.tmp rfl rfl) rfl (Nat.le_of_ble_eq_true rfl) (oneA rfl) rfl) ?_
 rintro w446 hs448
 refine st (v:=.int .i64 3) (x_assign .const) ?_
 refine c_nil (n_then (c_ret (r_then (leave_ret (res_two (v:=.agg #[.int .u8 0,.int .i64 0,.int .u64 0,.int .i64 0,.int .u16 0,.int .u64 0,.int .i64 0,.int .u64 0,.int .i64 0,.slice none 0 0,.int .u64 0,.slice none 0 0,.slice none 0 0,.int .u64 0,.int .u64 0]) (u:=.int .i64 3) rfl (.mkCell rfl hρ432 (lv30 (cs:=[.int .u8 0,.int .i64 0,.int .u64 0,.int .i64 0,.int .u16 0,.int .u64 0,.int .i64 0,.int .u64 0,.int .i64 0,.slice none 0 0,.int .u64 0,.slice none 0 0,.slice none 0 0,.int .u64 0,.int .u64 0]) (hs448.at_ 0 rfl 0 rfl) rfl)) (.mk rfl rfl)) ?_))))
 have hans449:decA b = (zF,3):=hd3.trans (fin_bad hc444)
 rw [hans449]
 exact ⟨H87,[.int .u8 0,.int .i64 0,.int .u64 0,.int .i64 0,.int .u16 0,.int .u64 0,.int .i64 0,.int .u64 0,.int .i64 0,.slice none 0 0,.int .u64 0,.slice none 0 0,.slice none 0 0,.int .u64 0,.int .u64 0],((hle24.trans hg60).trans hg88),rfl,⟨none,0,0,none,0,0,none,0,0,rfl,(show 0 < 256 from by omega),(show IB 0 from ⟨by omega,by omega⟩),(show 0 < 18446744073709551616 from by omega),(show IB 0 from ⟨by omega,by omega⟩),(show 0 < 65536 from by omega),(show 0 < 18446744073709551616 from by omega),(show IB 0 from ⟨by omega,by omega⟩),(show 0 < 18446744073709551616 from by omega),(show IB 0 from ⟨by omega,by omega⟩),(Sl.nil _ _ none),(show 0 < 18446744073709551616 from by omega),(Sl.nil _ _ none),(Sl.nil _ _ none),(show 0 < 18446744073709551616 from by omega),(show 0 < 18446744073709551616 from by omega)⟩,hs448.drop.drop.drop⟩
 refine g_yes (yk 142 false rfl rfl hc444) ?_
 refine st (v:=.pointer (some ⟨g28,0,none⟩)) (x_move (.tmp rfl hρ433)) ?_
 refine g_yes (yk 142 false rfl rfl hc444) ?_
 refine st_c cb40 .func (evs1 (.tmp rfl rfl)) (left_own (b:=bad3) hs443) ?_
 rintro e w450 ⟨rfl,hs451⟩
 refine ⟨_,rfl,?_⟩
 refine g_yes (yk 142 false rfl rfl hc444) ?_
 refine st (v:=.bool (decide ((0:Int) < (if bad3 = true then 0 else ((n3:Nat):Int))))) (x_gtr (k:=.i64) (a:=(if bad3 = true then 0 else ((n3:Nat):Int))) (b:=0) (.tmp rfl rfl) .const) ?_
 refine st (v:=.bool (decide ((0:Int) < (if bad3 = true then 0 else ((n3:Nat):Int))))) (x_pick_f (.tmp rfl (cVb hc444)) (.tmp rfl rfl)) ?_
 refine st (v:=.bool (decide ((0:Int) < (if bad3 = true then 0 else ((n3:Nat):Int))))) (x_move (.tmp rfl rfl)) ?_
 refine jw 10 (fun ρ w => ρ 157 = .bool ((decide ((0:Int) < (if bad3 = true then 0 else ((n3:Nat):Int)))) || ((decide ((((g3.Kind:Nat):Int):Int) = 3)) && (decide ((((n416:Nat):Int):Int) ≠ 1))))∧ρ 2 = .pointer (some ⟨g1,0,none⟩)∧ρ 7 = .pointer (some ⟨g52,0,none⟩)∧St H87 w (obj g28 98 [.slice A3 n3 c3,.bool bad3]::obj g52 30 [.int .u8 ((g3.Kind:Nat):Int),.int .i64 g3.From,.int .u64 ((g3.ID.N:Nat):Int),.int .i64 g3.ID.P,.int .u16 ((g3.Set:Nat):Int),.int .u64 ((g3.Cur.N:Nat):Int),.int .i64 g3.Cur.P,.int .u64 ((g3.Prom.N:Nat):Int),.int .i64 g3.Prom.P,.slice A415 n416 c417,.int .u64 ((g3.Base:Nat):Int),.slice A420 n421 c422,.slice A424 n425 c426,.int .u64 ((g3.Ack:Nat):Int),.int .u64 ((g3.Safe:Nat):Int)]::obj g1 30 [.int .u8 0,.int .i64 0,.int .u64 0,.int .i64 0,.int .u16 0,.int .u64 0,.int .i64 0,.int .u64 0,.int .i64 0,.slice none 0 0,.int .u64 0,.slice none 0 0,.slice none 0 0,.int .u64 0,.int .u64 0]::L)) ?_ ?_
 rcases Bool.eq_false_or_eq_true (decide ((0:Int) < (if bad3 = true then 0 else ((n3:Nat):Int)))) with hc452 | hc452
 have hp452:(0:Int) < (if bad3 = true then 0 else ((n3:Nat):Int)):=of_decide_eq_true hc452
 refine g_no (yk 147 true rfl rfl hc452) rfl ?_
 refine g_no (yk 147 true rfl rfl hc452) rfl ?_
 refine g_no (yk 147 true rfl rfl hc452) rfl ?_
 refine g_no (yk 147 true rfl rfl hc452) rfl ?_
 refine g_no0 (yn (dj:=151) rfl rfl) ?_
 refine g_no0 (yn (dj:=151) rfl rfl) ?_
 refine g_no0 (yn (dj:=151) rfl rfl) ?_
 refine g_no0 (yn (dj:=151) rfl rfl) ?_
 refine g_no (yk 147 true rfl rfl hc452) rfl ?_
 refine st (v:=.bool true) (x_pick_t (.tmp rfl (cVb hc452)) .const) ?_
 exact jw_end ⟨(cVb (jor_t hc452)),hρ432,hρ434,hs451⟩
 have hp452:¬ ((0:Int) < (if bad3 = true then 0 else ((n3:Nat):Int))):=of_decide_eq_false hc452
 refine g_yes (yk 147 false rfl rfl hc452) ?_
 refine st (v:=.pointer (some ⟨g52,0 + 0,none⟩)) (fa30_0 (.tmp rfl hρ434)) ?_
 refine g_yes (yk 147 false rfl rfl hc452) ?_
 refine st (v:=.int .u8 ((g3.Kind:Nat):Int)) (ld5 (.tmp rfl rfl) (hs451.cell 1 rfl (0 + 0) rfl)) ?_
 refine g_yes (yk 147 false rfl rfl hc452) ?_
 refine st (v:=.bool (decide ((((g3.Kind:Nat):Int):Int) = 3))) (x_eql (k:=.u8) (a:=((g3.Kind:Nat):Int)) (b:=3) (.tmp rfl rfl) .const) ?_
 refine g_yes (yk 147 false rfl rfl hc452) ?_
 refine st (v:=.bool (decide ((((g3.Kind:Nat):Int):Int) = 3))) (x_move (.tmp rfl rfl)) ?_
 refine jw 5 (fun ρ w => ρ 156 = .bool ((decide ((((g3.Kind:Nat):Int):Int) = 3)) && (decide ((((n416:Nat):Int):Int) ≠ 1)))∧ρ 2 = .pointer (some ⟨g1,0,none⟩)∧ρ 7 = .pointer (some ⟨g52,0,none⟩)∧ρ 147 = .bool false∧St H87 w (obj g28 98 [.slice A3 n3 c3,.bool bad3]::obj g52 30 [.int .u8 ((g3.Kind:Nat):Int),.int .i64 g3.From,.int .u64 ((g3.ID.N:Nat):Int),.int .i64 g3.ID.P,.int .u16 ((g3.Set:Nat):Int),.int .u64 ((g3.Cur.N:Nat):Int),.int .i64 g3.Cur.P,.int .u64 ((g3.Prom.N:Nat):Int),.int .i64 g3.Prom.P,.slice A415 n416 c417,.int .u64 ((g3.Base:Nat):Int),.slice A420 n421 c422,.slice A424 n425 c426,.int .u64 ((g3.Ack:Nat):Int),.int .u64 ((g3.Safe:Nat):Int)]::obj g1 30 [.int .u8 0,.int .i64 0,.int .u64 0,.int .i64 0,.int .u16 0,.int .u64 0,.int .i64 0,.int .u64 0,.int .i64 0,.slice none 0 0,.int .u64 0,.slice none 0 0,.slice none 0 0,.int .u64 0,.int .u64 0]::L)) ?_ ?_
 rcases Bool.eq_false_or_eq_true (decide ((((g3.Kind:Nat):Int):Int) = 3)) with hc453 | hc453
 have hp453:(((g3.Kind:Nat):Int):Int) = 3:=of_decide_eq_true hc453
 refine g_yes (yk 151 true rfl rfl hc453) ?_
 refine st (v:=.pointer (some ⟨g52,0 + 9,none⟩)) (fa30_6 (.tmp rfl hρ434)) ?_
 refine g_yes (yk 151 true rfl rfl hc453) ?_
 refine st (v:=.slice A415 n416 c417) (ld26 (.tmp rfl rfl) (hs451.cell 1 rfl (0 + 9) rfl)) ?_
 refine g_yes (yk 151 true rfl rfl hc453) ?_
 refine st (v:=.int .i64 ((n416:Nat):Int)) (x_len (n:=n416) Try.underlying26 (.tmp rfl rfl)) ?_
 refine g_yes (yk 151 true rfl rfl hc453) ?_
 refine st (v:=.bool (decide ((((n416:Nat):Int):Int) ≠ 1))) (x_neq (k:=.i64) (a:=((n416:Nat):Int)) (b:=1) (.tmp rfl rfl) .const) ?_
 refine g_yes (yk 147 false rfl rfl hc452) ?_
 refine st (v:=.bool (decide ((((n416:Nat):Int):Int) ≠ 1))) (x_pick_t (.tmp rfl (cVb hc453)) (.tmp rfl rfl)) ?_
 exact jw_end ⟨(cVb (jand_t hc453)),hρ432,hρ434,(cVb hc452),hs451⟩
 have hp453:¬ ((((g3.Kind:Nat):Int):Int) = 3):=of_decide_eq_false hc453
 refine g_no (yk 151 false rfl rfl hc453) rfl ?_
 refine g_no (yk 151 false rfl rfl hc453) rfl ?_
 refine g_no (yk 151 false rfl rfl hc453) rfl ?_
 refine g_no (yk 151 false rfl rfl hc453) rfl ?_
 refine g_yes (yk 147 false rfl rfl hc452) ?_
 refine st (v:=.bool false) (x_pick_f (.tmp rfl (cVb hc453)) .const) ?_
 exact jw_end ⟨(cVb (jand_f hc453)),hρ432,hρ434,(cVb hc452),hs451⟩
 rintro ρ w ⟨hρ454,hρ455,hρ456,hρ457,hs458⟩
 refine st (v:=.bool ((decide ((((g3.Kind:Nat):Int):Int) = 3)) && (decide ((((n416:Nat):Int):Int) ≠ 1)))) (x_pick_f (.tmp rfl hρ457) (.tmp rfl hρ454)) ?_
 exact jw_end ⟨(cVb (jor_f hc452)),hρ455,hρ456,hs458⟩
 rintro ρ w ⟨hρ459,hρ460,hρ461,hs462⟩
 refine st (v:=.bool ((decide ((0:Int) < (if bad3 = true then 0 else ((n3:Nat):Int)))) || ((decide ((((g3.Kind:Nat):Int):Int) = 3)) && (decide ((((n416:Nat):Int):Int) ≠ 1))))) (x_move (.tmp rfl hρ459)) ?_
 refine jw 10 (fun ρ w => ρ 168 = .bool (((decide ((0:Int) < (if bad3 = true then 0 else ((n3:Nat):Int)))) || ((decide ((((g3.Kind:Nat):Int):Int) = 3)) && (decide ((((n416:Nat):Int):Int) ≠ 1)))) || ((decide ((((g3.Kind:Nat):Int):Int) ≠ 1)) && (decide ((((g3.ID.N:Nat):Int):Int) = 0))))∧ρ 2 = .pointer (some ⟨g1,0,none⟩)∧ρ 7 = .pointer (some ⟨g52,0,none⟩)∧St H87 w (obj g28 98 [.slice A3 n3 c3,.bool bad3]::obj g52 30 [.int .u8 ((g3.Kind:Nat):Int),.int .i64 g3.From,.int .u64 ((g3.ID.N:Nat):Int),.int .i64 g3.ID.P,.int .u16 ((g3.Set:Nat):Int),.int .u64 ((g3.Cur.N:Nat):Int),.int .i64 g3.Cur.P,.int .u64 ((g3.Prom.N:Nat):Int),.int .i64 g3.Prom.P,.slice A415 n416 c417,.int .u64 ((g3.Base:Nat):Int),.slice A420 n421 c422,.slice A424 n425 c426,.int .u64 ((g3.Ack:Nat):Int),.int .u64 ((g3.Safe:Nat):Int)]::obj g1 30 [.int .u8 0,.int .i64 0,.int .u64 0,.int .i64 0,.int .u16 0,.int .u64 0,.int .i64 0,.int .u64 0,.int .i64 0,.slice none 0 0,.int .u64 0,.slice none 0 0,.slice none 0 0,.int .u64 0,.int .u64 0]::L)) ?_ ?_
 rcases Bool.eq_false_or_eq_true ((decide ((0:Int) < (if bad3 = true then 0 else ((n3:Nat):Int)))) || ((decide ((((g3.Kind:Nat):Int):Int) = 3)) && (decide ((((n416:Nat):Int):Int) ≠ 1)))) with hc463 | hc463
 have hp463:((0:Int) < (if bad3 = true then 0 else ((n3:Nat):Int))) ∨ (((((g3.Kind:Nat):Int):Int) = 3)∧((((n416:Nat):Int):Int) ≠ 1)):=((J_or decide_eq_true_iff (J_and decide_eq_true_iff decide_eq_true_iff))).1 hc463
 refine g_no (yk 158 true rfl rfl hc463) rfl ?_
 refine g_no (yk 158 true rfl rfl hc463) rfl ?_
 refine g_no (yk 158 true rfl rfl hc463) rfl ?_
 refine g_no (yk 158 true rfl rfl hc463) rfl ?_
 refine g_no0 (yn (dj:=162) rfl rfl) ?_
 refine g_no0 (yn (dj:=162) rfl rfl) ?_
 refine g_no0 (yn (dj:=162) rfl rfl) ?_
 refine g_no0 (yn (dj:=162) rfl rfl) ?_
 refine g_no (yk 158 true rfl rfl hc463) rfl ?_
 refine st (v:=.bool true) (x_pick_t (.tmp rfl (cVb hc463)) .const) ?_
 exact jw_end ⟨(cVb (jor_t hc463)),hρ460,hρ461,hs462⟩
 have hp463:¬ (((0:Int) < (if bad3 = true then 0 else ((n3:Nat):Int))) ∨ (((((g3.Kind:Nat):Int):Int) = 3)∧((((n416:Nat):Int):Int) ≠ 1))):=J_no (J_or decide_eq_true_iff (J_and decide_eq_true_iff decide_eq_true_iff)) hc463
 refine g_yes (yk 158 false rfl rfl hc463) ?_
 refine st (v:=.pointer (some ⟨g52,0 + 0,none⟩)) (fa30_0 (.tmp rfl hρ461)) ?_
 refine g_yes (yk 158 false rfl rfl hc463) ?_
 refine st (v:=.int .u8 ((g3.Kind:Nat):Int)) (ld5 (.tmp rfl rfl) (hs462.cell 1 rfl (0 + 0) rfl)) ?_
 refine g_yes (yk 158 false rfl rfl hc463) ?_
 refine st (v:=.bool (decide ((((g3.Kind:Nat):Int):Int) ≠ 1))) (x_neq (k:=.u8) (a:=((g3.Kind:Nat):Int)) (b:=1) (.tmp rfl rfl) .const) ?_
 refine g_yes (yk 158 false rfl rfl hc463) ?_
 refine st (v:=.bool (decide ((((g3.Kind:Nat):Int):Int) ≠ 1))) (x_move (.tmp rfl rfl)) ?_
 refine jw 5 (fun ρ w => ρ 167 = .bool ((decide ((((g3.Kind:Nat):Int):Int) ≠ 1)) && (decide ((((g3.ID.N:Nat):Int):Int) = 0)))∧ρ 2 = .pointer (some ⟨g1,0,none⟩)∧ρ 7 = .pointer (some ⟨g52,0,none⟩)∧ρ 158 = .bool false∧St H87 w (obj g28 98 [.slice A3 n3 c3,.bool bad3]::obj g52 30 [.int .u8 ((g3.Kind:Nat):Int),.int .i64 g3.From,.int .u64 ((g3.ID.N:Nat):Int),.int .i64 g3.ID.P,.int .u16 ((g3.Set:Nat):Int),.int .u64 ((g3.Cur.N:Nat):Int),.int .i64 g3.Cur.P,.int .u64 ((g3.Prom.N:Nat):Int),.int .i64 g3.Prom.P,.slice A415 n416 c417,.int .u64 ((g3.Base:Nat):Int),.slice A420 n421 c422,.slice A424 n425 c426,.int .u64 ((g3.Ack:Nat):Int),.int .u64 ((g3.Safe:Nat):Int)]::obj g1 30 [.int .u8 0,.int .i64 0,.int .u64 0,.int .i64 0,.int .u16 0,.int .u64 0,.int .i64 0,.int .u64 0,.int .i64 0,.slice none 0 0,.int .u64 0,.slice none 0 0,.slice none 0 0,.int .u64 0,.int .u64 0]::L)) ?_ ?_
 rcases Bool.eq_false_or_eq_true (decide ((((g3.Kind:Nat):Int):Int) ≠ 1)) with hc464 | hc464
 have hp464:(((g3.Kind:Nat):Int):Int) ≠ 1:=of_decide_eq_true hc464
 refine g_yes (yk 162 true rfl rfl hc464) ?_
 refine st (v:=.pointer (some ⟨g52,0 + 2,none⟩)) (fa30_2 (.tmp rfl hρ461)) ?_
 refine g_yes (yk 162 true rfl rfl hc464) ?_
 refine st (v:=.pointer (some ⟨g52,0 + 2 + 0,none⟩)) (fa24_0 (.tmp rfl rfl)) ?_
 refine g_yes (yk 162 true rfl rfl hc464) ?_
 refine st (v:=.int .u64 ((g3.ID.N:Nat):Int)) (ld22 (.tmp rfl rfl) (hs462.cell 1 rfl (0 + 2 + 0) rfl)) ?_
 refine g_yes (yk 162 true rfl rfl hc464) ?_
 refine st (v:=.bool (decide ((((g3.ID.N:Nat):Int):Int) = 0))) (x_eql (k:=.u64) (a:=((g3.ID.N:Nat):Int)) (b:=0) (.tmp rfl rfl) .const) ?_
 refine g_yes (yk 158 false rfl rfl hc463) ?_
 refine st (v:=.bool (decide ((((g3.ID.N:Nat):Int):Int) = 0))) (x_pick_t (.tmp rfl (cVb hc464)) (.tmp rfl rfl)) ?_
 exact jw_end ⟨(cVb (jand_t hc464)),hρ460,hρ461,(cVb hc463),hs462⟩
 have hp464:¬ ((((g3.Kind:Nat):Int):Int) ≠ 1):=of_decide_eq_false hc464
 refine g_no (yk 162 false rfl rfl hc464) rfl ?_
 refine g_no (yk 162 false rfl rfl hc464) rfl ?_
 refine g_no (yk 162 false rfl rfl hc464) rfl ?_
 refine g_no (yk 162 false rfl rfl hc464) rfl ?_
 refine g_yes (yk 158 false rfl rfl hc463) ?_
 refine st (v:=.bool false) (x_pick_f (.tmp rfl (cVb hc464)) .const) ?_
 exact jw_end ⟨(cVb (jand_f hc464)),hρ460,hρ461,(cVb hc463),hs462⟩
 rintro ρ w ⟨hρ465,hρ466,hρ467,hρ468,hs469⟩
 refine st (v:=.bool ((decide ((((g3.Kind:Nat):Int):Int) ≠ 1)) && (decide ((((g3.ID.N:Nat):Int):Int) = 0)))) (x_pick_f (.tmp rfl hρ468) (.tmp rfl hρ465)) ?_
 exact jw_end ⟨(cVb (jor_f hc463)),hρ466,hρ467,hs469⟩
 rintro ρ w ⟨hρ470,hρ471,hρ472,hs473⟩
 refine c_nil (n_then ?_)
 rcases Bool.eq_false_or_eq_true (((decide ((0:Int) < (if bad3 = true then 0 else ((n3:Nat):Int)))) || ((decide ((((g3.Kind:Nat):Int):Int) = 3)) && (decide ((((n416:Nat):Int):Int) ≠ 1)))) || ((decide ((((g3.Kind:Nat):Int):Int) ≠ 1)) && (decide ((((g3.ID.N:Nat):Int):Int) = 0)))) with hc474 | hc474
 have hp474:(((0:Int) < (if bad3 = true then 0 else ((n3:Nat):Int))) ∨ (((((g3.Kind:Nat):Int):Int) = 3)∧((((n416:Nat):Int):Int) ≠ 1))) ∨ (((((g3.Kind:Nat):Int):Int) ≠ 1)∧((((g3.ID.N:Nat):Int):Int) = 0)):=((J_or (J_or decide_eq_true_iff (J_and decide_eq_true_iff decide_eq_true_iff)) (J_and decide_eq_true_iff decide_eq_true_iff))).1 hc474
 refine c_cond_t (t:=true) (.tmp rfl (hρ470.trans (cVb hc474))) rfl ?_
 refine c_seq (c_region (st (v:=.agg #[.int .u8 0,.int .i64 0,.int .u64 0,.int .i64 0,.int .u16 0,.int .u64 0,.int .i64 0,.int .u64 0,.int .i64 0,.slice none 0 0,.int .u64 0,.slice none 0 0,.slice none 0 0,.int .u64 0,.int .u64 0]) (bl30 (ps:=[]) Evp.nil rfl) ?_))
 have hs475:=hs473.p2
 refine st_m0 (sto30 (cs':=[.int .u8 0,.int .i64 0,.int .u64 0,.int .i64 0,.int .u16 0,.int .u64 0,.int .i64 0,.int .u64 0,.int .i64 0,.slice none 0 0,.int .u64 0,.slice none 0 0,.slice none 0 0,.int .u64 0,.int .u64 0]) (i:=0) hs475 (v:=.agg #[.int .u8 0,.int .i64 0,.int .u64 0,.int .i64 0,.int .u16 0,.int .u64 0,.int .i64 0,.int .u64 0,.int .i64 0,.slice none 0 0,.int .u64 0,.slice none 0 0,.slice none 0 0,.int .u64 0,.int .u64 0]) (.tmp rfl hρ471) (.tmp rfl rfl) rfl (Nat.le_of_ble_eq_true rfl) (oneA rfl) rfl) ?_
 rintro w476 hs478
 refine st (v:=.int .i64 3) (x_assign .const) ?_
 refine c_nil (n_then (c_ret (r_then (leave_ret (res_two (v:=.agg #[.int .u8 0,.int .i64 0,.int .u64 0,.int .i64 0,.int .u16 0,.int .u64 0,.int .i64 0,.int .u64 0,.int .i64 0,.slice none 0 0,.int .u64 0,.slice none 0 0,.slice none 0 0,.int .u64 0,.int .u64 0]) (u:=.int .i64 3) rfl (.mkCell rfl hρ471 (lv30 (cs:=[.int .u8 0,.int .i64 0,.int .u64 0,.int .i64 0,.int .u16 0,.int .u64 0,.int .i64 0,.int .u64 0,.int .i64 0,.slice none 0 0,.int .u64 0,.slice none 0 0,.slice none 0 0,.int .u64 0,.int .u64 0]) (hs478.at_ 0 rfl 0 rfl) rfl)) (.mk rfl rfl)) ?_))))
 have hans479:decA b = (zF,3):=hd3.trans (tail_no hp3.len hl418.len hp474)
 rw [hans479]
 exact ⟨H87,[.int .u8 0,.int .i64 0,.int .u64 0,.int .i64 0,.int .u16 0,.int .u64 0,.int .i64 0,.int .u64 0,.int .i64 0,.slice none 0 0,.int .u64 0,.slice none 0 0,.slice none 0 0,.int .u64 0,.int .u64 0],((hle24.trans hg60).trans hg88),rfl,⟨none,0,0,none,0,0,none,0,0,rfl,(show 0 < 256 from by omega),(show IB 0 from ⟨by omega,by omega⟩),(show 0 < 18446744073709551616 from by omega),(show IB 0 from ⟨by omega,by omega⟩),(show 0 < 65536 from by omega),(show 0 < 18446744073709551616 from by omega),(show IB 0 from ⟨by omega,by omega⟩),(show 0 < 18446744073709551616 from by omega),(show IB 0 from ⟨by omega,by omega⟩),(Sl.nil _ _ none),(show 0 < 18446744073709551616 from by omega),(Sl.nil _ _ none),(Sl.nil _ _ none),(show 0 < 18446744073709551616 from by omega),(show 0 < 18446744073709551616 from by omega)⟩,hs478.drop.drop.drop⟩
 have hp474:¬ ((((0:Int) < (if bad3 = true then 0 else ((n3:Nat):Int))) ∨ (((((g3.Kind:Nat):Int):Int) = 3)∧((((n416:Nat):Int):Int) ≠ 1))) ∨ (((((g3.Kind:Nat):Int):Int) ≠ 1)∧((((g3.ID.N:Nat):Int):Int) = 0))):=J_no (J_or (J_or decide_eq_true_iff (J_and decide_eq_true_iff decide_eq_true_iff)) (J_and decide_eq_true_iff decide_eq_true_iff)) hc474
 refine c_cond_f (t:=false) (.tmp rfl (hρ470.trans (cVb hc474))) rfl ?_
 refine c_skip (n_then (c_seq (c_region (st (v:=.agg #[.int .u8 ((g3.Kind:Nat):Int),.int .i64 g3.From,.int .u64 ((g3.ID.N:Nat):Int),.int .i64 g3.ID.P,.int .u16 ((g3.Set:Nat):Int),.int .u64 ((g3.Cur.N:Nat):Int),.int .i64 g3.Cur.P,.int .u64 ((g3.Prom.N:Nat):Int),.int .i64 g3.Prom.P,.slice A415 n416 c417,.int .u64 ((g3.Base:Nat):Int),.slice A420 n421 c422,.slice A424 n425 c426,.int .u64 ((g3.Ack:Nat):Int),.int .u64 ((g3.Safe:Nat):Int)]) (ld30 (cs:=[.int .u8 ((g3.Kind:Nat):Int),.int .i64 g3.From,.int .u64 ((g3.ID.N:Nat):Int),.int .i64 g3.ID.P,.int .u16 ((g3.Set:Nat):Int),.int .u64 ((g3.Cur.N:Nat):Int),.int .i64 g3.Cur.P,.int .u64 ((g3.Prom.N:Nat):Int),.int .i64 g3.Prom.P,.slice A415 n416 c417,.int .u64 ((g3.Base:Nat):Int),.slice A420 n421 c422,.slice A424 n425 c426,.int .u64 ((g3.Ack:Nat):Int),.int .u64 ((g3.Safe:Nat):Int)]) (.tmp rfl hρ472) (hs473.at_ 1 rfl (0) rfl) rfl) ?_))))
 have hs480:=hs473.p2
 refine st_m0 (sto30 (cs':=[.int .u8 ((g3.Kind:Nat):Int),.int .i64 g3.From,.int .u64 ((g3.ID.N:Nat):Int),.int .i64 g3.ID.P,.int .u16 ((g3.Set:Nat):Int),.int .u64 ((g3.Cur.N:Nat):Int),.int .i64 g3.Cur.P,.int .u64 ((g3.Prom.N:Nat):Int),.int .i64 g3.Prom.P,.slice A415 n416 c417,.int .u64 ((g3.Base:Nat):Int),.slice A420 n421 c422,.slice A424 n425 c426,.int .u64 ((g3.Ack:Nat):Int),.int .u64 ((g3.Safe:Nat):Int)]) (i:=0) hs480 (v:=.agg #[.int .u8 ((g3.Kind:Nat):Int),.int .i64 g3.From,.int .u64 ((g3.ID.N:Nat):Int),.int .i64 g3.ID.P,.int .u16 ((g3.Set:Nat):Int),.int .u64 ((g3.Cur.N:Nat):Int),.int .i64 g3.Cur.P,.int .u64 ((g3.Prom.N:Nat):Int),.int .i64 g3.Prom.P,.slice A415 n416 c417,.int .u64 ((g3.Base:Nat):Int),.slice A420 n421 c422,.slice A424 n425 c426,.int .u64 ((g3.Ack:Nat):Int),.int .u64 ((g3.Safe:Nat):Int)]) (.tmp rfl hρ471) (.tmp rfl rfl) rfl (Nat.le_of_ble_eq_true rfl) (oneA rfl) rfl) ?_
 rintro w481 hs483
 refine st (v:=.int .i64 0) (x_assign .const) ?_
 refine c_nil (n_then (c_ret (leave_ret (res_two (v:=.agg #[.int .u8 ((g3.Kind:Nat):Int),.int .i64 g3.From,.int .u64 ((g3.ID.N:Nat):Int),.int .i64 g3.ID.P,.int .u16 ((g3.Set:Nat):Int),.int .u64 ((g3.Cur.N:Nat):Int),.int .i64 g3.Cur.P,.int .u64 ((g3.Prom.N:Nat):Int),.int .i64 g3.Prom.P,.slice A415 n416 c417,.int .u64 ((g3.Base:Nat):Int),.slice A420 n421 c422,.slice A424 n425 c426,.int .u64 ((g3.Ack:Nat):Int),.int .u64 ((g3.Safe:Nat):Int)]) (u:=.int .i64 0) rfl (.mkCell rfl hρ471 (lv30 (cs:=[.int .u8 ((g3.Kind:Nat):Int),.int .i64 g3.From,.int .u64 ((g3.ID.N:Nat):Int),.int .i64 g3.ID.P,.int .u16 ((g3.Set:Nat):Int),.int .u64 ((g3.Cur.N:Nat):Int),.int .i64 g3.Cur.P,.int .u64 ((g3.Prom.N:Nat):Int),.int .i64 g3.Prom.P,.slice A415 n416 c417,.int .u64 ((g3.Base:Nat):Int),.slice A420 n421 c422,.slice A424 n425 c426,.int .u64 ((g3.Ack:Nat):Int),.int .u64 ((g3.Safe:Nat):Int)]) (hs483.at_ 0 rfl 0 rfl) rfl)) (.mk rfl rfl)) ?_)))
 have hans484:decA b = (g3,0):=hd3.trans (tail_yes hp436 hc444 hp3.len hl418.len hp474)
 rw [hans484]
 exact ⟨H87,[.int .u8 ((g3.Kind:Nat):Int),.int .i64 g3.From,.int .u64 ((g3.ID.N:Nat):Int),.int .i64 g3.ID.P,.int .u16 ((g3.Set:Nat):Int),.int .u64 ((g3.Cur.N:Nat):Int),.int .i64 g3.Cur.P,.int .u64 ((g3.Prom.N:Nat):Int),.int .i64 g3.Prom.P,.slice A415 n416 c417,.int .u64 ((g3.Base:Nat):Int),.slice A420 n421 c422,.slice A424 n425 c426,.int .u64 ((g3.Ack:Nat):Int),.int .u64 ((g3.Safe:Nat):Int)],((hle24.trans hg60).trans hg88),rfl,⟨A415,n416,c417,A420,n421,c422,A424,n425,c426,rfl,b402,⟨b403,b404⟩,b405,⟨b406,b407⟩,b408,b409,⟨b410,b411⟩,b412,⟨b413,b414⟩,hl418,b419,hl423,hl427,b428,b429⟩,hs483.drop.drop.drop⟩
end Go.Proofs.Ytlfihfmmhhcigaa

set_option linter.unusedVariables false
set_option linter.unusedSimpArgs false
namespace Go.Proofs.Ytlfihfmmhhcigaa
open Go Go.FM Go.Proofs
attribute [local irreducible] wpList wpQuiet wpS Code.wp Calls
theorem ruint_r {H:Hp} {w:World} {L:List Res} {g:Nat} {A:Option Addr} {n c:Nat} {bs cur:List Nat} {bad:Bool} (hs:St H w (obj g 88 [.slice A n c,.int .i64 (atOf n cur bad)]::L)) (hp:Bs H A n c bs) (hsuf:Suf bs cur) (hn:n ≤ 140737488355320):Calls Try.prog 51 #[(.pointer (some ⟨g,0,none⟩))] w (fun e w' => ∃ (q:Nat × List Nat × Bool),q = rdU cur bad∧q.1 < 18446744073709551616∧Suf bs q.2.1∧e = .returned (.int .u64 ((q.1:Nat):Int))∧St H w' (obj g 88 [.slice A n c,.int .i64 (atOf n q.2.1 q.2.2)]::L)) :=
  (ruint_own hs hp hsuf hn).mono fun e w' h => ⟨_,rfl,rdU_lt _ _,hsuf.rdU bad,h.1,h.2⟩
theorem rint_r {H:Hp} {w:World} {L:List Res} {g:Nat} {A:Option Addr} {n c:Nat} {bs cur:List Nat} {bad:Bool} (hs:St H w (obj g 88 [.slice A n c,.int .i64 (atOf n cur bad)]::L)) (hp:Bs H A n c bs) (hsuf:Suf bs cur) (hn:n ≤ 140737488355320) (most:Int) (hm1:0 ≤ most) (hm2:most ≤ 9223372036854775807):Calls Try.prog 48 #[(.pointer (some ⟨g,0,none⟩)),.int .i64 most] w (fun e w' => ∃ (q:Nat × List Nat × Bool),q = rdI cur bad most∧((q.1:Nat):Int) ≤ most∧Suf bs q.2.1∧e = .returned (.int .i64 ((q.1:Nat):Int))∧St H w' (obj g 88 [.slice A n c,.int .i64 (atOf n q.2.1 q.2.2)]::L)) :=
  (rint_own hs hp hsuf hn most (by omega) hm2).mono fun e w' h => ⟨_,rfl,rdI_most _ _ _ hm1,hsuf.rdI bad most,h.1,h.2⟩
theorem rbytes_r {H:Hp} {w:World} {L:List Res} {g:Nat} {A:Option Addr} {n c:Nat} {bs cur:List Nat} {bad:Bool} (hs:St H w (obj g 88 [.slice A n c,.int .i64 (atOf n cur bad)]::L)) (hp:Bs H A n c bs) (hsuf:Suf bs cur) (hn:n ≤ 140737488355320) (most:Int) (hm1:0 ≤ most) (hm2:most ≤ 9223372036854775807):Calls Try.prog 52 #[(.pointer (some ⟨g,0,none⟩)),.int .i64 most] w (fun e w' => ∃ (A':Option Addr) (n' c':Nat) (q:List Nat × List Nat × Bool),q = rdB cur bad most∧((q.1.length:Nat):Int) ≤ most∧Suf bs q.2.1∧e = .returned (.slice A' n' c')∧Bs H A' n' c' q.1∧St H w' (obj g 88 [.slice A n c,.int .i64 (atOf n q.2.1 q.2.2)]::L)) :=
  (rbytes_own hs hp hsuf hn most (by omega) hm2).mono fun e w' h => by
    obtain ⟨A',n',c',h1,h2,h3⟩:=h
    exact ⟨A',n',c',_,rfl,rdB_most _ _ _ hm1,hsuf.rdB bad most,h1,h2,h3⟩
set_option maxHeartbeats 8000000 in
theorem rvdec_spec {H:Hp} {w:World} {L:List Res} {g_r:Nat} {A_r:Option Addr} {n_r c_r:Nat} {p_r r:List Nat} {b_r:Bool} (hs:St H w (obj g_r 88 [.slice A_r n_r c_r,.int .i64 (atOf n_r r b_r)]::L)) (hp_r:Bs H A_r n_r c_r p_r) (hf_r:Suf p_r r) (hn_r:n_r ≤ 140737488355320):Calls Try.prog 49 #[.pointer (some ⟨g_r,0,none⟩)] w (fun e w' => ∃ (cs0:List Value) (q_r:GViewID × List Nat × Bool),e = .returned (.agg cs0.toArray)∧kViewID.rep H (q_r.1) cs0∧q_r = rdVok r b_r∧Suf p_r q_r.2.1∧St H w' (obj g_r 88 [.slice A_r n_r c_r,.int .i64 (atOf n_r q_r.2.1 q_r.2.2)]::L)):=by
 have:=hp_r.len
 have:=hp_r.le
 have hl1:r.length ≤ n_r:=by have h1:=Suf.len hf_r; have h2:=hp_r.len; omega
 have:=atOf_bound (n:=n_r) (cur:=r) (bad:=b_r) hl1
 refine enter (args:=[.pointer (some ⟨g_r,0,none⟩)]) (N:=25) Try.func49 rfl rfl rfl ?_
 refine c_seq (c_region (st_m (al24 (cs:=[.int .u64 0,.int .i64 0]) hs rfl) ?_))
 rintro _ w3 ⟨g2,rfl,hs5⟩
 refine c_nil (n_then (c_seq (c_region (st (v:=.pointer (some ⟨g_r,0,none⟩)) (x_move (.tmp rfl rfl)) ?_))))
 have hs6:=hs5.p1
 refine st_c cb51 .func (evs1 (.tmp rfl rfl)) (ruint_r hs6 hp_r hf_r hn_r) ?_
 rintro e w7 ⟨q9,hq10,hb11,hf12,rfl,hs8⟩
 refine ⟨_,rfl,?_⟩
 have hl14:q9.2.1.length ≤ n_r:=by have h1:=Suf.len hf12; have h2:=hp_r.len; omega
 have:=atOf_bound (n:=n_r) (cur:=q9.2.1) (bad:=q9.2.2) hl14
 refine st (v:=.agg #[.int .u64 ((q9.1:Nat):Int),.int .i64 0]) (bl24 (ps:=[(0,.int .u64 ((q9.1:Nat):Int))]) (.cons (.tmp rfl rfl) Evp.nil) rfl) ?_
 refine st_m (al24 (cs:=[.int .u64 0,.int .i64 0]) hs8 rfl) ?_
 rintro _ w16 ⟨g15,rfl,hs18⟩
 refine st_m0 (sto24 (cs':=[.int .u64 ((q9.1:Nat):Int),.int .i64 0]) (i:=0) hs18 (v:=.agg #[.int .u64 ((q9.1:Nat):Int),.int .i64 0]) (.tmp rfl rfl) (.tmp rfl rfl) rfl (Nat.le_of_ble_eq_true rfl) (oneA rfl) rfl) ?_
 rintro w19 hs21
 refine c_nil (n_then (c_seq (c_region (st (v:=.pointer (some ⟨g_r,0,none⟩)) (x_move (.tmp rfl rfl)) ?_))))
 have hs22:=hs21.p1
 refine st_c cb48 .func (evs2 (.tmp rfl rfl) .const) (rint_r hs22 hp_r hf12 hn_r 15 (by omega) (by omega)) ?_
 rintro e w23 ⟨q25,hq26,hb27,hf28,rfl,hs24⟩
 refine ⟨_,rfl,?_⟩
 have hl30:q25.2.1.length ≤ n_r:=by have h1:=Suf.len hf28; have h2:=hp_r.len; omega
 have:=atOf_bound (n:=n_r) (cur:=q25.2.1) (bad:=q25.2.2) hl30
 refine st (v:=.pointer (some ⟨g15,0 + 1,none⟩)) (fa24_1 (.tmp rfl rfl)) ?_
 have hs31:=hs24.p1
 refine st_m0 (sto3 (cs':=[.int .u64 ((q9.1:Nat):Int),.int .i64 ((q25.1:Nat):Int)]) (i:=0 + 1) hs31 (v:=.int .i64 ((q25.1:Nat):Int)) (.tmp rfl rfl) (.tmp rfl rfl) rfl (Nat.le_of_ble_eq_true rfl) one1 rfl) ?_
 rintro w32 hs34
 refine c_nil (n_then (c_seq (c_seq (c_region (st (v:=.pointer (some ⟨g_r,0,none⟩)) (x_move (.tmp rfl rfl)) ?_)))))
 refine st (v:=.pointer (some ⟨g_r,0,none⟩)) (x_nilCheck (.tmp rfl rfl)) ?_
 refine st (v:=.pointer (some ⟨g_r,0 + 1,none⟩)) (fa88_1 (.tmp rfl rfl)) ?_
 refine st (v:=.int .i64 (atOf n_r q25.2.1 q25.2.2)) (ld3 (.tmp rfl rfl) (hs34.cell 1 rfl (0 + 1) rfl)) ?_
 refine st (v:=.bool (decide (((atOf n_r q25.2.1 q25.2.2):Int) < 0))) (x_lss (k:=.i64) (a:=(atOf n_r q25.2.1 q25.2.2)) (b:=0) (.tmp rfl rfl) .const) ?_
 refine st (v:=.bool (decide (((atOf n_r q25.2.1 q25.2.2):Int) < 0))) (x_move (.tmp rfl rfl)) ?_
 rcases Bool.eq_false_or_eq_true (decide (((atOf n_r q25.2.1 q25.2.2):Int) < 0)) with hc35 | hc35
 have hp35:((atOf n_r q25.2.1 q25.2.2):Int) < 0:=of_decide_eq_true hc35
 refine g_no (yk 15 true rfl rfl hc35) rfl ?_
 refine g_no (yk 15 true rfl rfl hc35) rfl ?_
 refine g_no (yk 15 true rfl rfl hc35) rfl ?_
 refine st (v:=.bool true) (x_pick_t (.tmp rfl (cVb hc35)) .const) ?_
 refine c_nil (n_then (c_cond_t (t:=true) (.tmp rfl rfl) rfl ?_))
 refine c_seq (c_region (st (v:=.pointer (some ⟨g_r,0,none⟩)) (x_move (.tmp rfl rfl)) ?_))
 refine st (v:=.pointer (some ⟨g_r,0,none⟩)) (x_nilCheck (.tmp rfl rfl)) ?_
 refine st (v:=.pointer (some ⟨g_r,0 + 1,none⟩)) (fa88_1 (.tmp rfl rfl)) ?_
 have hs36:=hs34.p1
 refine st_m0 (sto3 (cs':=[.slice A_r n_r c_r,.int .i64 (-1)]) (i:=0 + 1) hs36 (v:=.int .i64 (-1)) (.tmp rfl rfl) .const rfl (Nat.le_of_ble_eq_true rfl) one1 rfl) ?_
 rintro w37 hs39
 refine c_nil (n_then (c_seq (c_region (st (v:=.agg #[.int .u64 0,.int .i64 0]) (bl24 (ps:=[]) Evp.nil rfl) ?_))))
 have hs40:=hs39.p2
 refine st_m0 (sto24 (cs':=[.int .u64 0,.int .i64 0]) (i:=0) hs40 (v:=.agg #[.int .u64 0,.int .i64 0]) (.tmp rfl rfl) (.tmp rfl rfl) rfl (Nat.le_of_ble_eq_true rfl) (oneA rfl) rfl) ?_
 rintro w41 hs43
 refine c_nil (n_then (c_ret (r_then (leave_ret (res_one (v:=.agg #[.int .u64 0,.int .i64 0]) rfl (.mkCell rfl rfl (lv24 (cs:=[.int .u64 0,.int .i64 0]) (hs43.at_ 0 rfl 0 rfl) rfl))) ?_))))
 exact ⟨[.int .u64 0,.int .i64 0],((GViewID.mk 0 0,q25.2.1,true)),rfl,⟨rfl,(show 0 < 18446744073709551616 from by omega),(show IB 0 from ⟨by omega,by omega⟩)⟩,(vok_no hq10 hq26 (.inl (at_bad hl30 hp35))),hf28,(hs43.drop.p1).drop⟩
 have hp35:¬ (((atOf n_r q25.2.1 q25.2.2):Int) < 0):=of_decide_eq_false hc35
 refine g_yes (yk 15 false rfl rfl hc35) ?_
 refine st (v:=.agg #[.int .u64 ((q9.1:Nat):Int),.int .i64 ((q25.1:Nat):Int)]) (ld24 (cs:=[.int .u64 ((q9.1:Nat):Int),.int .i64 ((q25.1:Nat):Int)]) (.tmp rfl rfl) (hs34.at_ 0 rfl (0) rfl) rfl) ?_
 refine g_yes (yk 15 false rfl rfl hc35) ?_
 refine st_c cb19 .func (evs1 (.tmp rfl rfl)) (rform_spec hs34 q9.1 ((q25.1:Nat):Int)) ?_
 rintro e w44 ⟨rfl,hs45⟩
 refine ⟨_,rfl,?_⟩
 refine g_yes (yk 15 false rfl rfl hc35) ?_
 refine st (v:=.bool (!(formV q9.1 ((q25.1:Nat):Int)))) (x_not (.tmp rfl rfl)) ?_
 refine st (v:=.bool (!(formV q9.1 ((q25.1:Nat):Int)))) (x_pick_f (.tmp rfl (cVb hc35)) (.tmp rfl rfl)) ?_
 refine c_nil (n_then ?_)
 rcases Bool.eq_false_or_eq_true (formV q9.1 ((q25.1:Nat):Int)) with hc46 | hc46
 refine c_cond_f (t:=false) (.tmp rfl (cVb (by rw [hc46]; rfl))) rfl ?_
 refine c_skip (n_then (c_seq (c_region (st (v:=.agg #[.int .u64 ((q9.1:Nat):Int),.int .i64 ((q25.1:Nat):Int)]) (ld24 (cs:=[.int .u64 ((q9.1:Nat):Int),.int .i64 ((q25.1:Nat):Int)]) (.tmp rfl rfl) (hs45.at_ 0 rfl (0) rfl) rfl) ?_))))
 have hs47:=hs45.p2
 refine st_m0 (sto24 (cs':=[.int .u64 ((q9.1:Nat):Int),.int .i64 ((q25.1:Nat):Int)]) (i:=0) hs47 (v:=.agg #[.int .u64 ((q9.1:Nat):Int),.int .i64 ((q25.1:Nat):Int)]) (.tmp rfl rfl) (.tmp rfl rfl) rfl (Nat.le_of_ble_eq_true rfl) (oneA rfl) rfl) ?_
 rintro w48 hs50
 refine c_nil (n_then (c_ret (leave_ret (res_one (v:=.agg #[.int .u64 ((q9.1:Nat):Int),.int .i64 ((q25.1:Nat):Int)]) rfl (.mkCell rfl rfl (lv24 (cs:=[.int .u64 ((q9.1:Nat):Int),.int .i64 ((q25.1:Nat):Int)]) (hs50.at_ 0 rfl 0 rfl) rfl))) ?_)))
 exact ⟨[.int .u64 ((q9.1:Nat):Int),.int .i64 ((q25.1:Nat):Int)],((GViewID.mk q9.1 ((q25.1:Nat):Int),q25.2)),rfl,⟨rfl,hb11,(show IB ((q25.1:Nat):Int) from ⟨by omega,by omega⟩)⟩,(vok_yes hq10 hq26 (at_good hl30 hp35) hc46),hf28,hs50.drop.drop⟩
 refine c_cond_t (t:=true) (.tmp rfl (cVb (by rw [hc46]; rfl))) rfl ?_
 refine c_seq (c_region (st (v:=.pointer (some ⟨g_r,0,none⟩)) (x_move (.tmp rfl rfl)) ?_))
 refine st (v:=.pointer (some ⟨g_r,0,none⟩)) (x_nilCheck (.tmp rfl rfl)) ?_
 refine st (v:=.pointer (some ⟨g_r,0 + 1,none⟩)) (fa88_1 (.tmp rfl rfl)) ?_
 have hs51:=hs45.p1
 refine st_m0 (sto3 (cs':=[.slice A_r n_r c_r,.int .i64 (-1)]) (i:=0 + 1) hs51 (v:=.int .i64 (-1)) (.tmp rfl rfl) .const rfl (Nat.le_of_ble_eq_true rfl) one1 rfl) ?_
 rintro w52 hs54
 refine c_nil (n_then (c_seq (c_region (st (v:=.agg #[.int .u64 0,.int .i64 0]) (bl24 (ps:=[]) Evp.nil rfl) ?_))))
 have hs55:=hs54.p2
 refine st_m0 (sto24 (cs':=[.int .u64 0,.int .i64 0]) (i:=0) hs55 (v:=.agg #[.int .u64 0,.int .i64 0]) (.tmp rfl rfl) (.tmp rfl rfl) rfl (Nat.le_of_ble_eq_true rfl) (oneA rfl) rfl) ?_
 rintro w56 hs58
 refine c_nil (n_then (c_ret (r_then (leave_ret (res_one (v:=.agg #[.int .u64 0,.int .i64 0]) rfl (.mkCell rfl rfl (lv24 (cs:=[.int .u64 0,.int .i64 0]) (hs58.at_ 0 rfl 0 rfl) rfl))) ?_))))
 exact ⟨[.int .u64 0,.int .i64 0],((GViewID.mk 0 0,q25.2.1,true)),rfl,⟨rfl,(show 0 < 18446744073709551616 from by omega),(show IB 0 from ⟨by omega,by omega⟩)⟩,(vok_no hq10 hq26 (.inr hc46)),hf28,(hs58.drop.p1).drop⟩
end Go.Proofs.Ytlfihfmmhhcigaa

set_option linter.unusedVariables false
set_option linter.unusedSimpArgs false
namespace Go.Proofs.Ytlfihfmmhhcigaa
open Go Go.FM Go.Proofs
attribute [local irreducible] wpList wpQuiet wpS Code.wp Calls
set_option maxHeartbeats 8000000 in
theorem unitems_spec {H:Hp} {w:World} {L:List Res} {g_r:Nat} {A_r:Option Addr} {n_r c_r:Nat} {p_r r:List Nat} {b_r:Bool} (hs:St H w (obj g_r 88 [.slice A_r n_r c_r,.int .i64 (atOf n_r r b_r)]::L)) (hp_r:Bs H A_r n_r c_r p_r) (hf_r:Suf p_r r) (hn_r:n_r ≤ 140737488355320):Calls Try.prog 53 #[.pointer (some ⟨g_r,0,none⟩)] w (fun e w' => ∃ (H':Hp) (A0:Option Addr) (n0 c0:Nat) (q_r:List GItem × List Nat × Bool),H.le H'∧e = .returned (.slice A0 n0 c0)∧Sl kItem H' A0 n0 c0 (q_r.1)∧q_r = rdItems r b_r∧Suf p_r q_r.2.1∧St H' w' (obj g_r 88 [.slice A_r n_r c_r,.int .i64 (atOf n_r q_r.2.1 q_r.2.2)]::L)):=by
 have:=hp_r.len
 have:=hp_r.le
 have hl1:r.length ≤ n_r:=by have h1:=Suf.len hf_r; have h2:=hp_r.len; omega
 have:=atOf_bound (n:=n_r) (cur:=r) (bad:=b_r) hl1
 refine enter (args:=[.pointer (some ⟨g_r,0,none⟩)]) (N:=32) Try.func53 rfl rfl rfl ?_
 refine c_seq (c_region (st (v:=.slice none 0 0) (x_assign .const) ?_))
 refine c_nil (n_then (c_seq (c_region (st (v:=.slice none 0 0) (x_assign .const) ?_))))
 refine c_nil (n_then (c_seq (c_region (st (v:=.pointer (some ⟨g_r,0,none⟩)) (x_move (.tmp rfl rfl)) ?_))))
 refine st_c cb48 .func (evs2 (.tmp rfl rfl) .const) (rint_r hs hp_r hf_r hn_r 4096 (by omega) (by omega)) ?_
 rintro e w2 ⟨q4,hq5,hb6,hf7,rfl,hs3⟩
 refine ⟨_,rfl,?_⟩
 have hl9:q4.2.1.length ≤ n_r:=by have h1:=Suf.len hf7; have h2:=hp_r.len; omega
 have:=atOf_bound (n:=n_r) (cur:=q4.2.1) (bad:=q4.2.2) hl9
 refine st (v:=.int .i64 ((q4.1:Nat):Int)) (x_assign (.tmp rfl rfl)) ?_
 refine c_nil (n_then (c_seq (c_seq (c_region (st (v:=.int .i64 0) (x_assign .const) ?_)))))
 refine c_nil (n_then (c_block ?_))
 have hs12:St H _ (row 49 2 (.slice none 0 0) (([]:List GItem).length) []::obj g_r 88 [.slice A_r n_r c_r,.int .i64 (atOf n_r q4.2.1 q4.2.2)]::L):=hs3.krowNil 49 kItem
 have:([]:List GItem).length = 0:=rfl
 refine c_loop (fun ρ w mm => ∃ (H10:Hp) (i:Nat) (l:List GItem) (v_l:Value) (c_l:List Value) (cur:List Nat) (bad:Bool),ρ 0 = .pointer (some ⟨g_r,0,none⟩)∧ρ 3 = v_l∧ρ 4 = .int .i64 ((q4.1:Nat):Int)∧ρ 5 = .int .i64 ((i:Nat):Int)∧(H.le H10)∧(RowOk kItem.sz v_l l.length c_l)∧(kItem.toKn.rows H10 l c_l)∧(Bs H10 A_r n_r c_r p_r)∧(Suf p_r cur)∧(cur.length ≤ n_r)∧(i ≤ q4.1)∧(l.length ≤ i)∧(ItInv r b_r l (((q4.1:Nat):Int) - ((i:Nat):Int)) cur bad)∧St H10 w (row 49 2 v_l l.length c_l::obj g_r 88 [.slice A_r n_r c_r,.int .i64 (atOf n_r cur bad)]::L)∧mm = q4.1 - i) _ ⟨H,0,([]:List GItem),(.slice none 0 0),[],q4.2.1,q4.2.2,rfl,rfl,rfl,rfl,(Hp.le.refl _),(RowOk.knil kItem),(Kn.rows_nil _ _),hp_r,hf7,hl9,(by omega),(by omega),(it_from hq5 (by omega)),((hs12.p1).p1),rfl⟩ ?_
 rintro ρ w mm ⟨H10,i,l,v_l,c_l,cur,bad,hρ14,hρ15,hρ16,hρ17,hg11,ok_l,hk_l,hp2,hf2,hlc,hi,hl,inv,hs18,rfl⟩
 refine c_seq (c_seq (c_region ?_))
 have hab9:=atOf_bound (n:=n_r) (cur:=cur) (bad:=bad) hlc
 refine st (v:=.int .i64 ((i:Nat):Int)) (x_move (.tmp rfl hρ17)) ?_
 refine st (v:=.int .i64 ((q4.1:Nat):Int)) (x_move (.tmp rfl hρ16)) ?_
 refine st (v:=.bool (decide ((((i:Nat):Int):Int) < ((q4.1:Nat):Int)))) (x_lss (k:=.i64) (a:=((i:Nat):Int)) (b:=((q4.1:Nat):Int)) (.tmp rfl rfl) (.tmp rfl rfl)) ?_
 refine st (v:=.bool (decide ((((i:Nat):Int):Int) < ((q4.1:Nat):Int)))) (x_move (.tmp rfl rfl)) ?_
 rcases Bool.eq_false_or_eq_true (decide ((((i:Nat):Int):Int) < ((q4.1:Nat):Int))) with hc19 | hc19
 have hp19:(((i:Nat):Int):Int) < ((q4.1:Nat):Int):=of_decide_eq_true hc19
 refine g_yes (yk 12 true rfl rfl hc19) ?_
 refine st (v:=.pointer (some ⟨g_r,0,none⟩)) (x_move (.tmp rfl hρ14)) ?_
 refine g_yes (yk 12 true rfl rfl hc19) ?_
 refine st (v:=.pointer (some ⟨g_r,0,none⟩)) (x_nilCheck (.tmp rfl rfl)) ?_
 refine g_yes (yk 12 true rfl rfl hc19) ?_
 refine st (v:=.pointer (some ⟨g_r,0 + 1,none⟩)) (fa88_1 (.tmp rfl rfl)) ?_
 refine g_yes (yk 12 true rfl rfl hc19) ?_
 refine st (v:=.int .i64 (atOf n_r cur bad)) (ld3 (.tmp rfl rfl) (hs18.cell 1 rfl (0 + 1) rfl)) ?_
 refine g_yes (yk 12 true rfl rfl hc19) ?_
 refine st (v:=.bool (decide ((0:Int) ≤ (atOf n_r cur bad)))) (x_geq (k:=.i64) (a:=(atOf n_r cur bad)) (b:=0) (.tmp rfl rfl) .const) ?_
 refine st (v:=.bool (decide ((0:Int) ≤ (atOf n_r cur bad)))) (x_pick_t (.tmp rfl (cVb hc19)) (.tmp rfl rfl)) ?_
 refine c_nil (n_then ?_)
 rcases Bool.eq_false_or_eq_true (decide ((0:Int) ≤ (atOf n_r cur bad))) with hc20 | hc20
 have hp20:(0:Int) ≤ (atOf n_r cur bad):=of_decide_eq_true hc20
 refine c_cond_t (t:=true) (.tmp rfl (cVb hc20)) rfl ?_
 refine c_skip (n_then (c_seq (c_block (c_seq (c_region (st (v:=.pointer (some ⟨g_r,0,none⟩)) (x_move (.tmp rfl hρ14)) ?_))))))
 have hs21:=hs18.p1
 refine st_c cb48 .func (evs2 (.tmp rfl rfl) .const) (rint_r hs21 hp2 hf2 hn_r 15 (by omega) (by omega)) ?_
 rintro e w22 ⟨q24,hq25,hb26,hf27,rfl,hs23⟩
 refine ⟨_,rfl,?_⟩
 have hl29:q24.2.1.length ≤ n_r:=by have h1:=Suf.len hf27; have h2:=hp2.len; omega
 have:=atOf_bound (n:=n_r) (cur:=q24.2.1) (bad:=q24.2.2) hl29
 refine st (v:=.agg #[.int .i64 ((q24.1:Nat):Int),.slice none 0 0]) (bl49 (ps:=[(0,.int .i64 ((q24.1:Nat):Int))]) (.cons (.tmp rfl rfl) Evp.nil) rfl) ?_
 refine st_m (al49 (cs:=[.int .i64 0,.slice none 0 0]) hs23 rfl) ?_
 rintro _ w31 ⟨g30,rfl,hs33⟩
 refine st_m0 (sto49 (cs':=[.int .i64 ((q24.1:Nat):Int),.slice none 0 0]) (i:=0) hs33 (v:=.agg #[.int .i64 ((q24.1:Nat):Int),.slice none 0 0]) (.tmp rfl rfl) (.tmp rfl rfl) rfl (Nat.le_of_ble_eq_true rfl) (oneA rfl) rfl) ?_
 rintro w34 hs36
 refine c_nil (n_then (c_seq (c_region (st (v:=.pointer (some ⟨g_r,0,none⟩)) (x_move (.tmp rfl hρ14)) ?_))))
 have hs37:=hs36.p1
 refine st_c cb52 .func (evs2 (.tmp rfl rfl) .const) (rbytes_r hs37 hp2 hf27 hn_r 1048576 (by omega) (by omega)) ?_
 rintro e w38 ⟨A45,n46,c47,q40,hq41,hb42,hf43,rfl,hp48,hs39⟩
 refine ⟨_,rfl,?_⟩
 have hl50:q40.2.1.length ≤ n_r:=by have h1:=Suf.len hf43; have h2:=hp2.len; omega
 have:=atOf_bound (n:=n_r) (cur:=q40.2.1) (bad:=q40.2.2) hl50
 have:=hp48.len
 have hy49:By H10 A45 n46 c47 q40.1:=⟨hp48,by omega⟩
 have:=hy49.le
 refine st (v:=.pointer (some ⟨g30,0 + 1,none⟩)) (fa49_1 (.tmp rfl rfl)) ?_
 have hs51:=hs39.p1
 refine st_m0 (sto33 (cs':=[.int .i64 ((q24.1:Nat):Int),.slice A45 n46 c47]) (i:=0 + 1) hs51 (v:=.slice A45 n46 c47) (.tmp rfl rfl) (.tmp rfl rfl) rfl (Nat.le_of_ble_eq_true rfl) one1 rfl) ?_
 rintro w52 hs54
 refine c_nil (n_then (c_region (st (v:=v_l) (x_move (.tmp rfl hρ15)) ?_)))
 refine st (v:=.agg #[.int .i64 ((q24.1:Nat):Int),.slice A45 n46 c47]) (ld49 (cs:=[.int .i64 ((q24.1:Nat):Int),.slice A45 n46 c47]) (.tmp rfl rfl) (hs54.at_ 0 rfl (0) rfl) rfl) ?_
 refine st_m (m_lit (n:=1) (ps:=[(0,.agg #[.int .i64 ((q24.1:Nat):Int),.slice A45 n46 c47])]) (cs:=[.int .i64 ((q24.1:Nat):Int),.slice A45 n46 c47]) Try.underlying28 inf49 (.cons (.tmp rfl rfl) Evp.nil) (by decide) (by decide) rfl rfl hs54) ?_
 rintro _ w56 ⟨g55,rfl,hs58⟩
 have hs59:=hs58.p3
 have hr67:kItem.rep H10 (GItem.mk ((q24.1:Nat):Int) q40.1) [.int .i64 ((q24.1:Nat):Int),.slice A45 n46 c47]:=⟨A45,n46,c47,rfl,(show IB ((q24.1:Nat):Int) from ⟨by omega,by omega⟩),hy49⟩
 refine st_m (m_appK (d:=kItem) (ys:=[(GItem.mk ((q24.1:Nat):Int) q40.1)]) (news:=[.int .i64 ((q24.1:Nat):Int),.slice A45 n46 c47]) Try.underlying28 inf49 rfl hs59 ok_l hk_l (.tmp rfl rfl) (.tmp rfl rfl) (Kn.rows_one hr67) rfl (hs59.at_ 1 rfl 0 rfl) (by have:([(GItem.mk ((q24.1:Nat):Int) q40.1)]:List GItem).length = 1:=rfl; omega) (by decide)) ?_
 rintro v60 w61 ⟨cs62,ok63,hk64,hs65⟩
 have hn66:(l ++ [(GItem.mk ((q24.1:Nat):Int) q40.1)]).length = l.length + 1:=by simp
 refine st (v:=v60) (x_assign (.tmp rfl rfl)) ?_
 refine c_nil (n_block (n_then (c_region (st (v:=.int .i64 ((i:Nat):Int)) (x_move (.tmp rfl hρ17)) ?_))))
 refine st (v:=.int .i64 (((i + 1):Nat):Int)) (x_add (k:=.i64) (a:=((i:Nat):Int)) (b:=1) (.tmp rfl rfl) .const ((w64 (by omega) (by omega)).trans (by omega))) ?_
 refine st (v:=.int .i64 (((i + 1):Nat):Int)) (x_assign (.tmp rfl rfl)) ?_
 refine c_nil ?_
 refine n_then ⟨_,_,rfl,?_,H10,(i + 1),(l ++ [(GItem.mk ((q24.1:Nat):Int) q40.1)]),v60,cs62,q40.2.1,q40.2.2,hρ14,rfl,hρ16,rfl,hg11,ok63,hk64,hp2,hf43,(hl50),(by omega),(by omega),(it_up inv (by omega) (at_good hlc (by omega)) hq25 hq41 (by omega)),((((hs65.p1).drop.p1).drop.p1).p1),rfl⟩
 omega
 have hp20:¬ ((0:Int) ≤ (atOf n_r cur bad)):=of_decide_eq_false hc20
 refine c_cond_f (t:=false) (.tmp rfl (cVb hc20)) rfl ?_
 refine c_exit (x_then (x_then (x_here (n_then (c_seq (c_region (st (v:=v_l) (x_move (.tmp rfl hρ15)) ?_)))))))
 refine st (v:=v_l) (x_assign (.tmp rfl rfl)) ?_
 refine c_nil (n_then (c_ret (leave_ret (res_one (v:=v_l) rfl (.mk rfl rfl)) ?_)))
 have:l.length * 32 ≤ 140737488351232:=by omega
 obtain ⟨H68,A69,c70,hle71,hs72,rfl,sp73⟩:=hs18.freezeSl (d:=kItem) ok_l hk_l this
 have:=sp73.len; have:=sp73.le
 exact ⟨H68,A69,l.length,c70,(l,cur,bad),(hg11.trans hle71),rfl,sp73,(it_done inv (.inr (at_bad hlc (by omega)))),hf2,hs72⟩
 have hp19:¬ ((((i:Nat):Int):Int) < ((q4.1:Nat):Int)):=of_decide_eq_false hc19
 refine g_no (yk 12 false rfl rfl hc19) rfl ?_
 refine g_no (yk 12 false rfl rfl hc19) rfl ?_
 refine g_no (yk 12 false rfl rfl hc19) rfl ?_
 refine g_no (yk 12 false rfl rfl hc19) rfl ?_
 refine g_no (yk 12 false rfl rfl hc19) rfl ?_
 refine st (v:=.bool false) (x_pick_f (.tmp rfl (cVb hc19)) .const) ?_
 refine c_nil (n_then (c_cond_f (t:=false) (.tmp rfl rfl) rfl ?_))
 refine c_exit (x_then (x_then (x_here (n_then (c_seq (c_region (st (v:=v_l) (x_move (.tmp rfl hρ15)) ?_)))))))
 refine st (v:=v_l) (x_assign (.tmp rfl rfl)) ?_
 refine c_nil (n_then (c_ret (leave_ret (res_one (v:=v_l) rfl (.mk rfl rfl)) ?_)))
 have:l.length * 32 ≤ 140737488351232:=by omega
 obtain ⟨H74,A75,c76,hle77,hs78,rfl,sp79⟩:=hs18.freezeSl (d:=kItem) ok_l hk_l this
 have:=sp79.len; have:=sp79.le
 exact ⟨H74,A75,l.length,c76,(l,cur,bad),(hg11.trans hle77),rfl,sp79,(it_done inv (.inl (by omega))),hf2,hs78⟩
set_option maxHeartbeats 8000000 in
theorem unstates_spec {H:Hp} {w:World} {L:List Res} {g_r:Nat} {A_r:Option Addr} {n_r c_r:Nat} {p_r r:List Nat} {b_r:Bool} (hs:St H w (obj g_r 88 [.slice A_r n_r c_r,.int .i64 (atOf n_r r b_r)]::L)) (hp_r:Bs H A_r n_r c_r p_r) (hf_r:Suf p_r r) (hn_r:n_r ≤ 140737488355320):Calls Try.prog 50 #[.pointer (some ⟨g_r,0,none⟩)] w (fun e w' => ∃ (H':Hp) (A0:Option Addr) (n0 c0:Nat) (q_r:List GState × List Nat × Bool),H.le H'∧e = .returned (.slice A0 n0 c0)∧Sl kState H' A0 n0 c0 (q_r.1)∧q_r = (rcount rdStR 4096) r b_r∧Suf p_r q_r.2.1∧St H' w' (obj g_r 88 [.slice A_r n_r c_r,.int .i64 (atOf n_r q_r.2.1 q_r.2.2)]::L)):=by
 have:=hp_r.len
 have:=hp_r.le
 have hl1:r.length ≤ n_r:=by have h1:=Suf.len hf_r; have h2:=hp_r.len; omega
 have:=atOf_bound (n:=n_r) (cur:=r) (bad:=b_r) hl1
 refine enter (args:=[.pointer (some ⟨g_r,0,none⟩)]) (N:=35) Try.func50 rfl rfl rfl ?_
 refine c_seq (c_region (st (v:=.slice none 0 0) (x_assign .const) ?_))
 refine c_nil (n_then (c_seq (c_region (st (v:=.slice none 0 0) (x_assign .const) ?_))))
 refine c_nil (n_then (c_seq (c_region (st (v:=.pointer (some ⟨g_r,0,none⟩)) (x_move (.tmp rfl rfl)) ?_))))
 refine st_c cb48 .func (evs2 (.tmp rfl rfl) .const) (rint_r hs hp_r hf_r hn_r 4096 (by omega) (by omega)) ?_
 rintro e w2 ⟨q4,hq5,hb6,hf7,rfl,hs3⟩
 refine ⟨_,rfl,?_⟩
 have hl9:q4.2.1.length ≤ n_r:=by have h1:=Suf.len hf7; have h2:=hp_r.len; omega
 have:=atOf_bound (n:=n_r) (cur:=q4.2.1) (bad:=q4.2.2) hl9
 refine st (v:=.int .i64 ((q4.1:Nat):Int)) (x_assign (.tmp rfl rfl)) ?_
 refine c_nil (n_then (c_seq (c_seq (c_region (st (v:=.int .i64 0) (x_assign .const) ?_)))))
 refine c_nil (n_then (c_block ?_))
 have hs12:St H _ (row 52 4 (.slice none 0 0) (([]:List GState).length) []::obj g_r 88 [.slice A_r n_r c_r,.int .i64 (atOf n_r q4.2.1 q4.2.2)]::L):=hs3.krowNil 52 kState
 have:([]:List GState).length = 0:=rfl
 refine c_loop (fun ρ w mm => ∃ (H10:Hp) (i:Nat) (l:List GState) (v_l:Value) (c_l:List Value) (cur:List Nat) (bad:Bool),ρ 0 = .pointer (some ⟨g_r,0,none⟩)∧ρ 3 = v_l∧ρ 4 = .int .i64 ((q4.1:Nat):Int)∧ρ 5 = .int .i64 ((i:Nat):Int)∧(H.le H10)∧(RowOk kState.sz v_l l.length c_l)∧(kState.toKn.rows H10 l c_l)∧(Bs H10 A_r n_r c_r p_r)∧(Suf p_r cur)∧(cur.length ≤ n_r)∧(i ≤ q4.1)∧(l.length ≤ i)∧(SrInv r b_r l (((q4.1:Nat):Int) - ((i:Nat):Int)) cur bad)∧St H10 w (row 52 4 v_l l.length c_l::obj g_r 88 [.slice A_r n_r c_r,.int .i64 (atOf n_r cur bad)]::L)∧mm = q4.1 - i) _ ⟨H,0,([]:List GState),(.slice none 0 0),[],q4.2.1,q4.2.2,rfl,rfl,rfl,rfl,(Hp.le.refl _),(RowOk.knil kState),(Kn.rows_nil _ _),hp_r,hf7,hl9,(by omega),(by omega),(sr_from hq5 (by omega)),((hs12.p1).p1),rfl⟩ ?_
 rintro ρ w mm ⟨H10,i,l,v_l,c_l,cur,bad,hρ14,hρ15,hρ16,hρ17,hg11,ok_l,hk_l,hp2,hf2,hlc,hi,hl,inv,hs18,rfl⟩
 refine c_seq (c_seq (c_region ?_))
 have hab9:=atOf_bound (n:=n_r) (cur:=cur) (bad:=bad) hlc
 refine st (v:=.int .i64 ((i:Nat):Int)) (x_move (.tmp rfl hρ17)) ?_
 refine st (v:=.int .i64 ((q4.1:Nat):Int)) (x_move (.tmp rfl hρ16)) ?_
 refine st (v:=.bool (decide ((((i:Nat):Int):Int) < ((q4.1:Nat):Int)))) (x_lss (k:=.i64) (a:=((i:Nat):Int)) (b:=((q4.1:Nat):Int)) (.tmp rfl rfl) (.tmp rfl rfl)) ?_
 refine st (v:=.bool (decide ((((i:Nat):Int):Int) < ((q4.1:Nat):Int)))) (x_move (.tmp rfl rfl)) ?_
 rcases Bool.eq_false_or_eq_true (decide ((((i:Nat):Int):Int) < ((q4.1:Nat):Int))) with hc19 | hc19
 have hp19:(((i:Nat):Int):Int) < ((q4.1:Nat):Int):=of_decide_eq_true hc19
 refine g_yes (yk 12 true rfl rfl hc19) ?_
 refine st (v:=.pointer (some ⟨g_r,0,none⟩)) (x_move (.tmp rfl hρ14)) ?_
 refine g_yes (yk 12 true rfl rfl hc19) ?_
 refine st (v:=.pointer (some ⟨g_r,0,none⟩)) (x_nilCheck (.tmp rfl rfl)) ?_
 refine g_yes (yk 12 true rfl rfl hc19) ?_
 refine st (v:=.pointer (some ⟨g_r,0 + 1,none⟩)) (fa88_1 (.tmp rfl rfl)) ?_
 refine g_yes (yk 12 true rfl rfl hc19) ?_
 refine st (v:=.int .i64 (atOf n_r cur bad)) (ld3 (.tmp rfl rfl) (hs18.cell 1 rfl (0 + 1) rfl)) ?_
 refine g_yes (yk 12 true rfl rfl hc19) ?_
 refine st (v:=.bool (decide ((0:Int) ≤ (atOf n_r cur bad)))) (x_geq (k:=.i64) (a:=(atOf n_r cur bad)) (b:=0) (.tmp rfl rfl) .const) ?_
 refine st (v:=.bool (decide ((0:Int) ≤ (atOf n_r cur bad)))) (x_pick_t (.tmp rfl (cVb hc19)) (.tmp rfl rfl)) ?_
 refine c_nil (n_then ?_)
 rcases Bool.eq_false_or_eq_true (decide ((0:Int) ≤ (atOf n_r cur bad))) with hc20 | hc20
 have hp20:(0:Int) ≤ (atOf n_r cur bad):=of_decide_eq_true hc20
 refine c_cond_t (t:=true) (.tmp rfl (cVb hc20)) rfl ?_
 refine c_skip (n_then (c_seq (c_block (c_seq (c_region (st (v:=.pointer (some ⟨g_r,0,none⟩)) (x_move (.tmp rfl hρ14)) ?_))))))
 have hs21:=hs18.p1
 refine st_c cb49 .func (evs1 (.tmp rfl rfl)) (rvdec_spec hs21 hp2 hf2 (by omega) ) ?_
 rintro e w23 ⟨cs25,q22,rfl,hr26,hq27,hf28,hs24⟩
 obtain ⟨rfl,b29,⟨b30,b31⟩⟩:=hr26
 refine ⟨_,rfl,?_⟩
 have hl32:q22.2.1.length ≤ n_r:=by have h1:=Suf.len hf28; have h2:=hp2.len; omega
 have:=atOf_bound (n:=n_r) (cur:=q22.2.1) (bad:=q22.2.2) hl32
 refine st (v:=.agg #[.int .u64 ((q22.1.N:Nat):Int),.int .i64 q22.1.P,.int .i64 0,.slice none 0 0]) (bl52 (ps:=[(0,.agg #[.int .u64 ((q22.1.N:Nat):Int),.int .i64 q22.1.P])]) (.cons (.tmp rfl rfl) Evp.nil) rfl) ?_
 refine st_m (al52 (cs:=[.int .u64 0,.int .i64 0,.int .i64 0,.slice none 0 0]) hs24 rfl) ?_
 rintro _ w34 ⟨g33,rfl,hs36⟩
 refine st_m0 (sto52 (cs':=[.int .u64 ((q22.1.N:Nat):Int),.int .i64 q22.1.P,.int .i64 0,.slice none 0 0]) (i:=0) hs36 (v:=.agg #[.int .u64 ((q22.1.N:Nat):Int),.int .i64 q22.1.P,.int .i64 0,.slice none 0 0]) (.tmp rfl rfl) (.tmp rfl rfl) rfl (Nat.le_of_ble_eq_true rfl) (oneA rfl) rfl) ?_
 rintro w37 hs39
 refine c_nil (n_then (c_seq (c_region (st (v:=.pointer (some ⟨g_r,0,none⟩)) (x_move (.tmp rfl hρ14)) ?_))))
 have hs40:=hs39.p1
 refine st_c cb48 .func (evs2 (.tmp rfl rfl) .const) (rint_r hs40 hp2 hf28 hn_r 1073741824 (by omega) (by omega)) ?_
 rintro e w41 ⟨q43,hq44,hb45,hf46,rfl,hs42⟩
 refine ⟨_,rfl,?_⟩
 have hl48:q43.2.1.length ≤ n_r:=by have h1:=Suf.len hf46; have h2:=hp2.len; omega
 have:=atOf_bound (n:=n_r) (cur:=q43.2.1) (bad:=q43.2.2) hl48
 refine st (v:=.pointer (some ⟨g33,0 + 2,none⟩)) (fa52_1 (.tmp rfl rfl)) ?_
 have hs49:=hs42.p1
 refine st_m0 (sto3 (cs':=[.int .u64 ((q22.1.N:Nat):Int),.int .i64 q22.1.P,.int .i64 ((q43.1:Nat):Int),.slice none 0 0]) (i:=0 + 2) hs49 (v:=.int .i64 ((q43.1:Nat):Int)) (.tmp rfl rfl) (.tmp rfl rfl) rfl (Nat.le_of_ble_eq_true rfl) one1 rfl) ?_
 rintro w50 hs52
 refine c_nil (n_then (c_seq (c_region (st (v:=.pointer (some ⟨g_r,0,none⟩)) (x_move (.tmp rfl hρ14)) ?_))))
 have hs53:=hs52.p1
 refine st_c cb53 .func (evs1 (.tmp rfl rfl)) (unitems_spec hs53 hp2 hf46 (by omega) ) ?_
 rintro e w55 ⟨H57,A59,n60,c61,q54,hle58,rfl,sp62,hq63,hf64,hs56⟩
 have:=sp62.len; have:=sp62.le; have:n60 * 32 ≤ 140737488351232:=sp62.bnd
 refine ⟨_,rfl,?_⟩
 have hl65:q54.2.1.length ≤ n_r:=by have h1:=Suf.len hf64; have h2:=(hp2.mono hle58).len; omega
 have:=atOf_bound (n:=n_r) (cur:=q54.2.1) (bad:=q54.2.2) hl65
 refine st (v:=.pointer (some ⟨g33,0 + 3,none⟩)) (fa52_2 (.tmp rfl rfl)) ?_
 have hs66:=hs56.p1
 refine st_m0 (sto28 (cs':=[.int .u64 ((q22.1.N:Nat):Int),.int .i64 q22.1.P,.int .i64 ((q43.1:Nat):Int),.slice A59 n60 c61]) (i:=0 + 3) hs66 (v:=.slice A59 n60 c61) (.tmp rfl rfl) (.tmp rfl rfl) rfl (Nat.le_of_ble_eq_true rfl) one1 rfl) ?_
 rintro w67 hs69
 refine c_nil (n_then (c_region (st (v:=v_l) (x_move (.tmp rfl hρ15)) ?_)))
 refine st (v:=.agg #[.int .u64 ((q22.1.N:Nat):Int),.int .i64 q22.1.P,.int .i64 ((q43.1:Nat):Int),.slice A59 n60 c61]) (ld52 (cs:=[.int .u64 ((q22.1.N:Nat):Int),.int .i64 q22.1.P,.int .i64 ((q43.1:Nat):Int),.slice A59 n60 c61]) (.tmp rfl rfl) (hs69.at_ 0 rfl (0) rfl) rfl) ?_
 refine st_m (m_lit (n:=1) (ps:=[(0,.agg #[.int .u64 ((q22.1.N:Nat):Int),.int .i64 q22.1.P,.int .i64 ((q43.1:Nat):Int),.slice A59 n60 c61])]) (cs:=[.int .u64 ((q22.1.N:Nat):Int),.int .i64 q22.1.P,.int .i64 ((q43.1:Nat):Int),.slice A59 n60 c61]) Try.underlying26 inf52 (.cons (.tmp rfl rfl) Evp.nil) (by decide) (by decide) rfl rfl hs69) ?_
 rintro _ w71 ⟨g70,rfl,hs73⟩
 have hs74:=hs73.p3
 have hr82:kState.rep H57 (GState.mk q22.1 ((q43.1:Nat):Int) q54.1) [.int .u64 ((q22.1.N:Nat):Int),.int .i64 q22.1.P,.int .i64 ((q43.1:Nat):Int),.slice A59 n60 c61]:=⟨A59,n60,c61,rfl,b29,⟨b30,b31⟩,(show IB ((q43.1:Nat):Int) from ⟨by omega,by omega⟩),sp62⟩
 refine st_m (m_appK (d:=kState) (ys:=[(GState.mk q22.1 ((q43.1:Nat):Int) q54.1)]) (news:=[.int .u64 ((q22.1.N:Nat):Int),.int .i64 q22.1.P,.int .i64 ((q43.1:Nat):Int),.slice A59 n60 c61]) Try.underlying26 inf52 rfl hs74 ok_l (Kn.rows_mono hk_l hle58) (.tmp rfl rfl) (.tmp rfl rfl) (Kn.rows_one hr82) rfl (hs74.at_ 1 rfl 0 rfl) (by have:([(GState.mk q22.1 ((q43.1:Nat):Int) q54.1)]:List GState).length = 1:=rfl; omega) (by decide)) ?_
 rintro v75 w76 ⟨cs77,ok78,hk79,hs80⟩
 have hn81:(l ++ [(GState.mk q22.1 ((q43.1:Nat):Int) q54.1)]).length = l.length + 1:=by simp
 refine st (v:=v75) (x_assign (.tmp rfl rfl)) ?_
 refine c_nil (n_block (n_then (c_region (st (v:=.int .i64 ((i:Nat):Int)) (x_move (.tmp rfl hρ17)) ?_))))
 refine st (v:=.int .i64 (((i + 1):Nat):Int)) (x_add (k:=.i64) (a:=((i:Nat):Int)) (b:=1) (.tmp rfl rfl) .const ((w64 (by omega) (by omega)).trans (by omega))) ?_
 refine st (v:=.int .i64 (((i + 1):Nat):Int)) (x_assign (.tmp rfl rfl)) ?_
 refine c_nil ?_
 refine n_then ⟨_,_,rfl,?_,H57,(i + 1),(l ++ [(GState.mk q22.1 ((q43.1:Nat):Int) q54.1)]),v75,cs77,q54.2.1,q54.2.2,hρ14,rfl,hρ16,rfl,(hg11.trans hle58),ok78,hk79,(hp2.mono hle58),hf64,(hl65),(by omega),(by omega),(sr_up inv (by omega) (at_good hlc (by omega)) hq27 hq44 hq63 (by omega)),((((hs80.p1).drop.p1).drop.p1).p1),rfl⟩
 omega
 have hp20:¬ ((0:Int) ≤ (atOf n_r cur bad)):=of_decide_eq_false hc20
 refine c_cond_f (t:=false) (.tmp rfl (cVb hc20)) rfl ?_
 refine c_exit (x_then (x_then (x_here (n_then (c_seq (c_region (st (v:=v_l) (x_move (.tmp rfl hρ15)) ?_)))))))
 refine st (v:=v_l) (x_assign (.tmp rfl rfl)) ?_
 refine c_nil (n_then (c_ret (leave_ret (res_one (v:=v_l) rfl (.mk rfl rfl)) ?_)))
 have:l.length * 48 ≤ 140737488351232:=by omega
 obtain ⟨H83,A84,c85,hle86,hs87,rfl,sp88⟩:=hs18.freezeSl (d:=kState) ok_l hk_l this
 have:=sp88.len; have:=sp88.le
 exact ⟨H83,A84,l.length,c85,(l,cur,bad),(hg11.trans hle86),rfl,sp88,(sr_done inv (.inr (at_bad hlc (by omega)))),hf2,hs87⟩
 have hp19:¬ ((((i:Nat):Int):Int) < ((q4.1:Nat):Int)):=of_decide_eq_false hc19
 refine g_no (yk 12 false rfl rfl hc19) rfl ?_
 refine g_no (yk 12 false rfl rfl hc19) rfl ?_
 refine g_no (yk 12 false rfl rfl hc19) rfl ?_
 refine g_no (yk 12 false rfl rfl hc19) rfl ?_
 refine g_no (yk 12 false rfl rfl hc19) rfl ?_
 refine st (v:=.bool false) (x_pick_f (.tmp rfl (cVb hc19)) .const) ?_
 refine c_nil (n_then (c_cond_f (t:=false) (.tmp rfl rfl) rfl ?_))
 refine c_exit (x_then (x_then (x_here (n_then (c_seq (c_region (st (v:=v_l) (x_move (.tmp rfl hρ15)) ?_)))))))
 refine st (v:=v_l) (x_assign (.tmp rfl rfl)) ?_
 refine c_nil (n_then (c_ret (leave_ret (res_one (v:=v_l) rfl (.mk rfl rfl)) ?_)))
 have:l.length * 48 ≤ 140737488351232:=by omega
 obtain ⟨H89,A90,c91,hle92,hs93,rfl,sp94⟩:=hs18.freezeSl (d:=kState) ok_l hk_l this
 have:=sp94.len; have:=sp94.le
 exact ⟨H89,A90,l.length,c91,(l,cur,bad),(hg11.trans hle92),rfl,sp94,(sr_done inv (.inl (by omega))),hf2,hs93⟩
end Go.Proofs.Ytlfihfmmhhcigaa
