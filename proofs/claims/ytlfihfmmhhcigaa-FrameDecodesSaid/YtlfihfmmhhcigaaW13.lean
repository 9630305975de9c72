/- Steps of the proofs over the functions of this seat, printed by a program (gen.py) and checked by Lean. -/
import Derived.Test.YtlfihfmmhhcigaaW01
import Derived.Test.YtlfihfmmhhcigaaW00
import Derived.Test.YtlfihfmmhhcigaaW12
import Derived.Test.YtlfihfmmhhcigaaW02
set_option linter.unusedVariables false
set_option linter.unusedSimpArgs false
namespace Go.Proofs.Ytlfihfmmhhcigaa
open Go Go.FM Go.Proofs
attribute [local irreducible] wpList wpQuiet wpS Code.wp Calls
set_option maxHeartbeats 8000000 in
theorem rdecode_spec {H:Hp} {w:World} {L:List Res} (hs:St H w (L)) {A_b:Option Addr} {n_b c_b:Nat} (b:List Nat) (h_b:By H A_b n_b c_b b):Calls Try.prog 18 #[.slice A_b n_b c_b] w (fun e w' => ∃ (H':Hp) (cs0:List Value),H.le H'∧e = .returned (.tuple #[.agg cs0.toArray,.int .i64 ((refA b).2)])∧kFrame.rep H' ((refA b).1) cs0∧St H' w' (L)):=by
 have:=h_b.len; have:=h_b.le; have:=h_b.bnd
 refine enter (args:=[.slice A_b n_b c_b]) (N:=139) Try.func18 rfl rfl rfl ?_
 refine c_seq (c_region (st_m (al30 (cs:=[.int .u8 0,.int .i64 0,.int .u64 0,.int .i64 0,.int .u16 0,.int .u64 0,.int .i64 0,.int .u64 0,.int .i64 0,.slice none 0 0,.int .u64 0,.slice none 0 0,.slice none 0 0,.int .u64 0,.int .u64 0]) hs rfl) ?_))
 rintro _ w2 ⟨g1,rfl,hs4⟩
 refine st (v:=.int .i64 0) (x_assign .const) ?_
 refine c_nil (n_then (c_seq (c_seq (c_region (st (v:=.slice A_b n_b c_b) (x_move (.tmp rfl rfl)) ?_)))))
 refine st (v:=.int .i64 ((n_b:Nat):Int)) (x_len (n:=n_b) Try.underlying33 (.tmp rfl rfl)) ?_
 refine st (v:=.bool (decide ((1048576:Int) < ((n_b:Nat):Int)))) (x_gtr (k:=.i64) (a:=((n_b:Nat):Int)) (b:=1048576) (.tmp rfl rfl) .const) ?_
 refine c_nil (n_then ?_)
 rcases Bool.eq_false_or_eq_true (decide ((1048576:Int) < ((n_b:Nat):Int))) with hc5 | hc5
 have hp5:(1048576:Int) < ((n_b:Nat):Int):=of_decide_eq_true hc5
 refine c_cond_t (t:=true) (.tmp rfl (congrArg Value.bool hc5)) rfl ?_
 refine c_seq (c_region (st (v:=.agg #[.int .u8 0,.int .i64 0,.int .u64 0,.int .i64 0,.int .u16 0,.int .u64 0,.int .i64 0,.int .u64 0,.int .i64 0,.slice none 0 0,.int .u64 0,.slice none 0 0,.slice none 0 0,.int .u64 0,.int .u64 0]) (bl30 (ps:=[]) Evp.nil rfl) ?_))
 refine st_m0 (sto30 (cs':=[.int .u8 0,.int .i64 0,.int .u64 0,.int .i64 0,.int .u16 0,.int .u64 0,.int .i64 0,.int .u64 0,.int .i64 0,.slice none 0 0,.int .u64 0,.slice none 0 0,.slice none 0 0,.int .u64 0,.int .u64 0]) (i:=0) hs4 (v:=.agg #[.int .u8 0,.int .i64 0,.int .u64 0,.int .i64 0,.int .u16 0,.int .u64 0,.int .i64 0,.int .u64 0,.int .i64 0,.slice none 0 0,.int .u64 0,.slice none 0 0,.slice none 0 0,.int .u64 0,.int .u64 0]) (.tmp rfl rfl) (.tmp rfl rfl) rfl (Nat.le_of_ble_eq_true rfl) (oneA rfl) rfl) ?_
 rintro w6 hs8
 refine st (v:=.int .i64 2) (x_assign .const) ?_
 refine c_nil (n_then (c_ret (r_then (leave_ret (res_two (v:=.agg #[.int .u8 0,.int .i64 0,.int .u64 0,.int .i64 0,.int .u16 0,.int .u64 0,.int .i64 0,.int .u64 0,.int .i64 0,.slice none 0 0,.int .u64 0,.slice none 0 0,.slice none 0 0,.int .u64 0,.int .u64 0]) (u:=.int .i64 2) rfl (.mkCell rfl rfl (lv30 (cs:=[.int .u8 0,.int .i64 0,.int .u64 0,.int .i64 0,.int .u16 0,.int .u64 0,.int .i64 0,.int .u64 0,.int .i64 0,.slice none 0 0,.int .u64 0,.slice none 0 0,.slice none 0 0,.int .u64 0,.int .u64 0]) (hs8.at_ 0 rfl 0 rfl) rfl)) (.mk rfl rfl)) ?_))))
 have hans9:refA b = (zF,2):=refA_long (by omega)
 rw [hans9]
 exact ⟨H,[.int .u8 0,.int .i64 0,.int .u64 0,.int .i64 0,.int .u16 0,.int .u64 0,.int .i64 0,.int .u64 0,.int .i64 0,.slice none 0 0,.int .u64 0,.slice none 0 0,.slice none 0 0,.int .u64 0,.int .u64 0],(Hp.le.refl _),rfl,⟨none,0,0,none,0,0,none,0,0,rfl,(show 0 < 256 from by omega),(show IB 0 from ⟨by omega,by omega⟩),(show 0 < 18446744073709551616 from by omega),(show IB 0 from ⟨by omega,by omega⟩),(show 0 < 65536 from by omega),(show 0 < 18446744073709551616 from by omega),(show IB 0 from ⟨by omega,by omega⟩),(show 0 < 18446744073709551616 from by omega),(show IB 0 from ⟨by omega,by omega⟩),(Sl.nil _ _ none),(show 0 < 18446744073709551616 from by omega),(Sl.nil _ _ none),(Sl.nil _ _ none),(show 0 < 18446744073709551616 from by omega),(show 0 < 18446744073709551616 from by omega)⟩,hs8.drop⟩
 have hp5:¬ ((1048576:Int) < ((n_b:Nat):Int)):=of_decide_eq_false hc5
 refine c_cond_f (t:=false) (.tmp rfl (congrArg Value.bool hc5)) rfl ?_
 refine c_skip (n_then (c_seq (c_region (st (v:=.slice A_b n_b c_b) (x_move (.tmp rfl rfl)) ?_))))
 refine st_c cb47 .func (evs1 (.tmp rfl rfl)) (ropen_spec hs4 h_b.toBs (by omega)) ?_
 rintro e w13 ⟨A10,n11,c12,rfl,hp14,hs15⟩
 refine ⟨_,rfl,?_⟩
 refine st (v:=.tuple #[.slice A10 n11 c12,.int .i64 ((openL b).2)]) (x_move (.tmp rfl rfl)) ?_
 refine st (v:=.slice A10 n11 c12) (x_extract (.tmp rfl rfl) (i:=0) rfl) ?_
 refine st (v:=.int .i64 ((openL b).2)) (x_extract (.tmp rfl rfl) (i:=1) rfl) ?_
 refine st (v:=.slice A10 n11 c12) (x_assign (.tmp rfl rfl)) ?_
 refine st (v:=.int .i64 ((openL b).2)) (x_assign (.tmp rfl rfl)) ?_
 refine c_nil (n_then (c_seq (c_seq (c_region (st (v:=.int .i64 ((openL b).2)) (x_move (.tmp rfl rfl)) ?_)))))
 refine st (v:=.bool (decide ((((openL b).2):Int) ≠ 0))) (x_neq (k:=.i64) (a:=((openL b).2)) (b:=0) (.tmp rfl rfl) .const) ?_
 refine c_nil (n_then ?_)
 rcases Bool.eq_false_or_eq_true (decide ((((openL b).2):Int) ≠ 0)) with hc16 | hc16
 have hp16:(((openL b).2):Int) ≠ 0:=of_decide_eq_true hc16
 refine c_cond_t (t:=true) (.tmp rfl (congrArg Value.bool hc16)) rfl ?_
 refine c_seq (c_region (st (v:=.agg #[.int .u8 0,.int .i64 0,.int .u64 0,.int .i64 0,.int .u16 0,.int .u64 0,.int .i64 0,.int .u64 0,.int .i64 0,.slice none 0 0,.int .u64 0,.slice none 0 0,.slice none 0 0,.int .u64 0,.int .u64 0]) (bl30 (ps:=[]) Evp.nil rfl) ?_))
 refine st (v:=.int .i64 ((openL b).2)) (x_move (.tmp rfl rfl)) ?_
 refine st_m0 (sto30 (cs':=[.int .u8 0,.int .i64 0,.int .u64 0,.int .i64 0,.int .u16 0,.int .u64 0,.int .i64 0,.int .u64 0,.int .i64 0,.slice none 0 0,.int .u64 0,.slice none 0 0,.slice none 0 0,.int .u64 0,.int .u64 0]) (i:=0) hs15 (v:=.agg #[.int .u8 0,.int .i64 0,.int .u64 0,.int .i64 0,.int .u16 0,.int .u64 0,.int .i64 0,.int .u64 0,.int .i64 0,.slice none 0 0,.int .u64 0,.slice none 0 0,.slice none 0 0,.int .u64 0,.int .u64 0]) (.tmp rfl rfl) (.tmp rfl rfl) rfl (Nat.le_of_ble_eq_true rfl) (oneA rfl) rfl) ?_
 rintro w17 hs19
 refine st (v:=.int .i64 ((openL b).2)) (x_assign (.tmp rfl rfl)) ?_
 refine c_nil (n_then (c_ret (r_then (leave_ret (res_two (v:=.agg #[.int .u8 0,.int .i64 0,.int .u64 0,.int .i64 0,.int .u16 0,.int .u64 0,.int .i64 0,.int .u64 0,.int .i64 0,.slice none 0 0,.int .u64 0,.slice none 0 0,.slice none 0 0,.int .u64 0,.int .u64 0]) (u:=.int .i64 ((openL b).2)) rfl (.mkCell rfl rfl (lv30 (cs:=[.int .u8 0,.int .i64 0,.int .u64 0,.int .i64 0,.int .u16 0,.int .u64 0,.int .i64 0,.int .u64 0,.int .i64 0,.slice none 0 0,.int .u64 0,.slice none 0 0,.slice none 0 0,.int .u64 0,.int .u64 0]) (hs19.at_ 0 rfl 0 rfl) rfl)) (.mk rfl rfl)) ?_))))
 have hans20:refA b = (zF,(openL b).2):=refA_open (by omega) hp16
 rw [hans20]
 exact ⟨H,[.int .u8 0,.int .i64 0,.int .u64 0,.int .i64 0,.int .u16 0,.int .u64 0,.int .i64 0,.int .u64 0,.int .i64 0,.slice none 0 0,.int .u64 0,.slice none 0 0,.slice none 0 0,.int .u64 0,.int .u64 0],(Hp.le.refl _),rfl,⟨none,0,0,none,0,0,none,0,0,rfl,(show 0 < 256 from by omega),(show IB 0 from ⟨by omega,by omega⟩),(show 0 < 18446744073709551616 from by omega),(show IB 0 from ⟨by omega,by omega⟩),(show 0 < 65536 from by omega),(show 0 < 18446744073709551616 from by omega),(show IB 0 from ⟨by omega,by omega⟩),(show 0 < 18446744073709551616 from by omega),(show IB 0 from ⟨by omega,by omega⟩),(Sl.nil _ _ none),(show 0 < 18446744073709551616 from by omega),(Sl.nil _ _ none),(Sl.nil _ _ none),(show 0 < 18446744073709551616 from by omega),(show 0 < 18446744073709551616 from by omega)⟩,hs19.drop⟩
 have hp16:¬ ((((openL b).2):Int) ≠ 0):=of_decide_eq_false hc16
 refine c_cond_f (t:=false) (.tmp rfl (congrArg Value.bool hc16)) rfl ?_
 refine c_skip (n_then (c_seq (c_region (st (v:=.slice A10 n11 c12) (x_move (.tmp rfl rfl)) ?_))))
 refine st (v:=.agg #[.slice A10 n11 c12,.int .i64 0]) (bl88 (ps:=[(0,.slice A10 n11 c12)]) (.cons (.tmp rfl rfl) Evp.nil) rfl) ?_
 refine st_m (m_box (cs:=[.slice A10 n11 c12,.int .i64 0]) hs15 (v:=.agg #[.slice A10 n11 c12,.int .i64 0]) (.tmp rfl rfl) rfl) ?_
 rintro _ w22 ⟨g21,rfl,hs24⟩
 refine st (v:=.pointer (some ⟨g21,0,none⟩)) (x_assign (.tmp rfl rfl)) ?_
 refine c_nil (n_then (c_seq (c_region ?_)))
 have:=hp14.len; have hol:=openL_le b; have hbl9:b.length = n_b:=h_b.len
 have ha25:atOf n11 (openL b).1 false = 0:=by rw [atOf_false]; omega
 have hs26:=(show ∀ {w:World},St H w (obj g21 88 [.slice A10 n11 c12,.int .i64 0]::obj g1 30 [.int .u8 0,.int .i64 0,.int .u64 0,.int .i64 0,.int .u16 0,.int .u64 0,.int .i64 0,.int .u64 0,.int .i64 0,.slice none 0 0,.int .u64 0,.slice none 0 0,.slice none 0 0,.int .u64 0,.int .u64 0]::L) → St H w (obj g21 88 [.slice A10 n11 c12,.int .i64 (atOf n11 (openL b).1 false)]::obj g1 30 [.int .u8 0,.int .i64 0,.int .u64 0,.int .i64 0,.int .u16 0,.int .u64 0,.int .i64 0,.int .u64 0,.int .i64 0,.slice none 0 0,.int .u64 0,.slice none 0 0,.slice none 0 0,.int .u64 0,.int .u64 0]::L) from fun h9 => by rw [ha25]; exact h9) hs24
 skip
 refine st (v:=.pointer (some ⟨g21,0,none⟩)) (x_move (.tmp rfl rfl)) ?_
 refine st_c cb48 .func (evs2 (.tmp rfl rfl) .const) (rint_r hs26 hp14 (Suf.refl _) (by omega) 7 (by omega) (by omega)) ?_
 rintro e w27 ⟨q29,hq30,hb31,hf32,rfl,hs28⟩
 refine ⟨_,rfl,?_⟩
 have hl34:q29.2.1.length ≤ n11:=by have h1:=Suf.len hf32; have h2:=hp14.len; omega
 have:=atOf_bound (n:=n11) (cur:=q29.2.1) (bad:=q29.2.2) hl34
 have hb35:q29.1 < 256:=by omega
 refine st (v:=.int .u8 ((q29.1:Nat):Int)) (x_conv (k:=.i64) (a:=((q29.1:Nat):Int)) Try.underlying3 Try.underlying5 (.tmp rfl rfl) (wU rfl rfl hb35)) ?_
 refine st (v:=.agg #[.int .u8 ((q29.1:Nat):Int),.int .i64 0,.int .u64 0,.int .i64 0,.int .u16 0,.int .u64 0,.int .i64 0,.int .u64 0,.int .i64 0,.slice none 0 0,.int .u64 0,.slice none 0 0,.slice none 0 0,.int .u64 0,.int .u64 0]) (bl30 (ps:=[(0,.int .u8 ((q29.1:Nat):Int))]) (.cons (.tmp rfl rfl) Evp.nil) rfl) ?_
 refine st_m (al30 (cs:=[.int .u8 0,.int .i64 0,.int .u64 0,.int .i64 0,.int .u16 0,.int .u64 0,.int .i64 0,.int .u64 0,.int .i64 0,.slice none 0 0,.int .u64 0,.slice none 0 0,.slice none 0 0,.int .u64 0,.int .u64 0]) hs28 rfl) ?_
 rintro _ w37 ⟨g36,rfl,hs39⟩
 refine st_m0 (sto30 (cs':=[.int .u8 ((q29.1:Nat):Int),.int .i64 0,.int .u64 0,.int .i64 0,.int .u16 0,.int .u64 0,.int .i64 0,.int .u64 0,.int .i64 0,.slice none 0 0,.int .u64 0,.slice none 0 0,.slice none 0 0,.int .u64 0,.int .u64 0]) (i:=0) hs39 (v:=.agg #[.int .u8 ((q29.1:Nat):Int),.int .i64 0,.int .u64 0,.int .i64 0,.int .u16 0,.int .u64 0,.int .i64 0,.int .u64 0,.int .i64 0,.slice none 0 0,.int .u64 0,.slice none 0 0,.slice none 0 0,.int .u64 0,.int .u64 0]) (.tmp rfl rfl) (.tmp rfl rfl) rfl (Nat.le_of_ble_eq_true rfl) (oneA rfl) rfl) ?_
 rintro w40 hs42
 refine c_nil (n_then (c_seq (c_region (st (v:=.pointer (some ⟨g21,0,none⟩)) (x_move (.tmp rfl rfl)) ?_))))
 have hs43:=hs42.p1
 refine st_c cb48 .func (evs2 (.tmp rfl rfl) .const) (rint_r hs43 hp14 hf32 (by omega) 15 (by omega) (by omega)) ?_
 rintro e w44 ⟨q46,hq47,hb48,hf49,rfl,hs45⟩
 refine ⟨_,rfl,?_⟩
 have hl51:q46.2.1.length ≤ n11:=by have h1:=Suf.len hf49; have h2:=hp14.len; omega
 have:=atOf_bound (n:=n11) (cur:=q46.2.1) (bad:=q46.2.2) hl51
 refine st (v:=.pointer (some ⟨g36,0 + 1,none⟩)) (fa30_1 (.tmp rfl rfl)) ?_
 have hs52:=hs45.p1
 refine st_m0 (sto3 (cs':=[.int .u8 ((q29.1:Nat):Int),.int .i64 ((q46.1:Nat):Int),.int .u64 0,.int .i64 0,.int .u16 0,.int .u64 0,.int .i64 0,.int .u64 0,.int .i64 0,.slice none 0 0,.int .u64 0,.slice none 0 0,.slice none 0 0,.int .u64 0,.int .u64 0]) (i:=0 + 1) hs52 (v:=.int .i64 ((q46.1:Nat):Int)) (.tmp rfl rfl) (.tmp rfl rfl) rfl (Nat.le_of_ble_eq_true rfl) one1 rfl) ?_
 rintro w53 hs55
 refine c_nil (n_then (c_seq (c_seq (c_region (st (v:=.pointer (some ⟨g36,0 + 0,none⟩)) (fa30_0 (.tmp rfl rfl)) ?_)))))
 refine st (v:=.int .u8 ((q29.1:Nat):Int)) (ld5 (.tmp rfl rfl) (hs55.cell 0 rfl (0 + 0) rfl)) ?_
 refine st (v:=.bool (decide ((((q29.1:Nat):Int):Int) ≠ 1))) (x_neq (k:=.u8) (a:=((q29.1:Nat):Int)) (b:=1) (.tmp rfl rfl) .const) ?_
 refine c_nil (n_then ?_)
 rcases Bool.eq_false_or_eq_true (decide ((((q29.1:Nat):Int):Int) ≠ 1)) with hc56 | hc56
 have hp56:(((q29.1:Nat):Int):Int) ≠ 1:=of_decide_eq_true hc56
 refine c_cond_t (t:=true) (.tmp rfl (congrArg Value.bool hc56)) rfl ?_
 refine c_region (st (v:=.pointer (some ⟨g21,0,none⟩)) (x_move (.tmp rfl rfl)) ?_)
 have hs57:=hs55.p1
 refine st_c cb49 .func (evs1 (.tmp rfl rfl)) (rvdec_spec hs57 hp14 hf49 (by omega) ) ?_
 rintro e w59 ⟨cs61,q58,rfl,hr62,hq63,hf64,hs60⟩
 obtain ⟨rfl,b65,⟨b66,b67⟩⟩:=hr62
 refine ⟨_,rfl,?_⟩
 have hl68:q58.2.1.length ≤ n11:=by have h1:=Suf.len hf64; have h2:=hp14.len; omega
 have:=atOf_bound (n:=n11) (cur:=q58.2.1) (bad:=q58.2.2) hl68
 refine st (v:=.pointer (some ⟨g36,0 + 2,none⟩)) (fa30_2 (.tmp rfl rfl)) ?_
 have hs69:=hs60.p1
 refine st_m0 (sto24 (cs':=[.int .u8 ((q29.1:Nat):Int),.int .i64 ((q46.1:Nat):Int),.int .u64 ((q58.1.N:Nat):Int),.int .i64 q58.1.P,.int .u16 0,.int .u64 0,.int .i64 0,.int .u64 0,.int .i64 0,.slice none 0 0,.int .u64 0,.slice none 0 0,.slice none 0 0,.int .u64 0,.int .u64 0]) (i:=0 + 2) hs69 (v:=.agg #[.int .u64 ((q58.1.N:Nat):Int),.int .i64 q58.1.P]) (.tmp rfl rfl) (.tmp rfl rfl) rfl (Nat.le_of_ble_eq_true rfl) (oneA rfl) rfl) ?_
 rintro w70 hs72
 refine c_nil (n_then ?_)
 refine c_cut (fun ρ w => ∃ (H73:Hp) (g3:GFrame) (cs3:List Value) (cur3:List Nat) (bad3:Bool),ρ 0 = .slice A_b n_b c_b∧ρ 2 = .pointer (some ⟨g1,0,none⟩)∧ρ 4 = .slice A10 n11 c12∧ρ 6 = .pointer (some ⟨g21,0,none⟩)∧ρ 7 = .pointer (some ⟨g36,0,none⟩)∧(H.le H73)∧(Bs H73 A10 n11 c12 (openL b).1)∧(Suf (openL b).1 cur3)∧(cur3.length ≤ n11)∧(kFrame.rep H73 g3 cs3)∧(rdP (openL b).1 = (g3,(cur3,bad3)))∧St H73 w (obj g21 88 [.slice A10 n11 c12,.int .i64 (atOf n11 cur3 bad3)]::obj g36 30 cs3::obj g1 30 [.int .u8 0,.int .i64 0,.int .u64 0,.int .i64 0,.int .u16 0,.int .u64 0,.int .i64 0,.int .u64 0,.int .i64 0,.slice none 0 0,.int .u64 0,.slice none 0 0,.slice none 0 0,.int .u64 0,.int .u64 0]::L)) ?_ ?_
 refine c_seq (c_region (st (v:=.pointer (some ⟨g36,0 + 0,none⟩)) (fa30_0 (.tmp rfl rfl)) ?_))
 refine st (v:=.int .u8 ((q29.1:Nat):Int)) (ld5 (.tmp rfl rfl) (hs72.cell 0 rfl (0 + 0) rfl)) ?_
 refine c_nil (n_then (c_block (c_seq (c_region (st (v:=.bool (decide ((((q29.1:Nat):Int):Int) = 1))) (x_eql (k:=.u8) (a:=((q29.1:Nat):Int)) (b:=1) (.tmp rfl rfl) .const) ?_)))))
 refine st (v:=.bool (decide ((((q29.1:Nat):Int):Int) = 1))) (x_assign (.tmp rfl rfl)) ?_
 refine c_nil (n_then ?_)
 have hc75:(decide ((((q29.1:Nat):Int):Int) = 1)) = false:=(decide_eq_false (by omega))
 refine c_cond_f (t:=false) (.tmp rfl (congrArg Value.bool hc75)) rfl ?_
 refine c_seq (c_region (st (v:=.bool (decide ((((q29.1:Nat):Int):Int) = 2))) (x_eql (k:=.u8) (a:=((q29.1:Nat):Int)) (b:=2) (.tmp rfl rfl) .const) ?_))
 refine st (v:=.bool (decide ((((q29.1:Nat):Int):Int) = 2))) (x_assign (.tmp rfl rfl)) ?_
 refine c_nil (n_then ?_)
 rcases Bool.eq_false_or_eq_true (decide ((((q29.1:Nat):Int):Int) = 2)) with hc76 | hc76
 have hp76:(((q29.1:Nat):Int):Int) = 2:=of_decide_eq_true hc76
 refine c_cond_t (t:=true) (.tmp rfl (congrArg Value.bool hc76)) rfl ?_
 refine c_region (st (v:=.pointer (some ⟨g21,0,none⟩)) (x_move (.tmp rfl rfl)) ?_)
 have hs77:=hs72.p1
 refine st_c cb48 .func (evs2 (.tmp rfl rfl) .const) (rint_r hs77 hp14 hf64 (by omega) 65535 (by omega) (by omega)) ?_
 rintro e w78 ⟨q80,hq81,hb82,hf83,rfl,hs79⟩
 refine ⟨_,rfl,?_⟩
 have hl85:q80.2.1.length ≤ n11:=by have h1:=Suf.len hf83; have h2:=hp14.len; omega
 have:=atOf_bound (n:=n11) (cur:=q80.2.1) (bad:=q80.2.2) hl85
 have hb86:q80.1 < 65536:=by omega
 refine st (v:=.int .u16 ((q80.1:Nat):Int)) (x_conv (k:=.i64) (a:=((q80.1:Nat):Int)) Try.underlying3 Try.underlying25 (.tmp rfl rfl) (wU rfl rfl hb86)) ?_
 refine st (v:=.pointer (some ⟨g36,0 + 4,none⟩)) (fa30_3 (.tmp rfl rfl)) ?_
 have hs87:=hs79.p1
 refine st_m0 (sto25 (cs':=[.int .u8 ((q29.1:Nat):Int),.int .i64 ((q46.1:Nat):Int),.int .u64 ((q58.1.N:Nat):Int),.int .i64 q58.1.P,.int .u16 ((q80.1:Nat):Int),.int .u64 0,.int .i64 0,.int .u64 0,.int .i64 0,.slice none 0 0,.int .u64 0,.slice none 0 0,.slice none 0 0,.int .u64 0,.int .u64 0]) (i:=0 + 4) hs87 (v:=.int .u16 ((q80.1:Nat):Int)) (.tmp rfl rfl) (.tmp rfl rfl) rfl (Nat.le_of_ble_eq_true rfl) one1 rfl) ?_
 rintro w88 hs90
 refine c_nil (n_block ?_)
 have hd1:=ref_head hq30 hq47
 have hd2:=ref_i hd1 (by omega) hq63
 have hd:=ref_2 hd2 (by omega) hq81
 exact n_then ⟨_,rfl,H,(GFrame.mk q29.1 ((q46.1:Nat):Int) q58.1 q80.1 (GViewID.mk 0 0) (GViewID.mk 0 0) [] 0 [] [] 0 0),[.int .u8 ((q29.1:Nat):Int),.int .i64 ((q46.1:Nat):Int),.int .u64 ((q58.1.N:Nat):Int),.int .i64 q58.1.P,.int .u16 ((q80.1:Nat):Int),.int .u64 0,.int .i64 0,.int .u64 0,.int .i64 0,.slice none 0 0,.int .u64 0,.slice none 0 0,.slice none 0 0,.int .u64 0,.int .u64 0],q80.2.1,q80.2.2,rfl,rfl,rfl,rfl,rfl,(Hp.le.refl _),hp14,hf83,hl85,⟨none,0,0,none,0,0,none,0,0,rfl,hb35,(show IB ((q46.1:Nat):Int) from ⟨by omega,by omega⟩),b65,⟨b66,b67⟩,hb86,(show 0 < 18446744073709551616 from by omega),(show IB 0 from ⟨by omega,by omega⟩),(show 0 < 18446744073709551616 from by omega),(show IB 0 from ⟨by omega,by omega⟩),(Sl.nil _ _ none),(show 0 < 18446744073709551616 from by omega),(Sl.nil _ _ none),(Sl.nil _ _ none),(show 0 < 18446744073709551616 from by omega),(show 0 < 18446744073709551616 from by omega)⟩,hd,(((hs90.p2).p1).p2)⟩
 have hp76:¬ ((((q29.1:Nat):Int):Int) = 2):=of_decide_eq_false hc76
 refine c_cond_f (t:=false) (.tmp rfl (congrArg Value.bool hc76)) rfl ?_
 refine c_seq (c_region (st (v:=.bool (decide ((((q29.1:Nat):Int):Int) = 3))) (x_eql (k:=.u8) (a:=((q29.1:Nat):Int)) (b:=3) (.tmp rfl rfl) .const) ?_))
 refine st (v:=.bool (decide ((((q29.1:Nat):Int):Int) = 3))) (x_assign (.tmp rfl rfl)) ?_
 refine c_nil (n_then ?_)
 rcases Bool.eq_false_or_eq_true (decide ((((q29.1:Nat):Int):Int) = 3)) with hc91 | hc91
 have hp91:(((q29.1:Nat):Int):Int) = 3:=of_decide_eq_true hc91
 refine c_cond_t (t:=true) (.tmp rfl (congrArg Value.bool hc91)) rfl ?_
 refine c_region (st (v:=.pointer (some ⟨g21,0,none⟩)) (x_move (.tmp rfl rfl)) ?_)
 have hs92:=hs72.p1
 refine st_c cb50 .func (evs1 (.tmp rfl rfl)) (unstates_spec hs92 hp14 hf64 (by omega) ) ?_
 rintro e w94 ⟨H96,A98,n99,c100,q93,hle97,rfl,sp101,hq102,hf103,hs95⟩
 have:=sp101.len; have:=sp101.le; have:n99 * 48 ≤ 140737488351232:=sp101.bnd
 refine ⟨_,rfl,?_⟩
 have hl104:q93.2.1.length ≤ n11:=by have h1:=Suf.len hf103; have h2:=(hp14.mono hle97).len; omega
 have:=atOf_bound (n:=n11) (cur:=q93.2.1) (bad:=q93.2.2) hl104
 refine st (v:=.pointer (some ⟨g36,0 + 9,none⟩)) (fa30_6 (.tmp rfl rfl)) ?_
 have hs105:=hs95.p1
 refine st_m0 (sto26 (cs':=[.int .u8 ((q29.1:Nat):Int),.int .i64 ((q46.1:Nat):Int),.int .u64 ((q58.1.N:Nat):Int),.int .i64 q58.1.P,.int .u16 0,.int .u64 0,.int .i64 0,.int .u64 0,.int .i64 0,.slice A98 n99 c100,.int .u64 0,.slice none 0 0,.slice none 0 0,.int .u64 0,.int .u64 0]) (i:=0 + 9) hs105 (v:=.slice A98 n99 c100) (.tmp rfl rfl) (.tmp rfl rfl) rfl (Nat.le_of_ble_eq_true rfl) one1 rfl) ?_
 rintro w106 hs108
 refine c_nil (n_block ?_)
 have hd1:=ref_head hq30 hq47
 have hd2:=ref_i hd1 (by omega) hq63
 have hd:=ref_3 hd2 (by omega) hq102
 exact n_then ⟨_,rfl,H96,(GFrame.mk q29.1 ((q46.1:Nat):Int) q58.1 0 (GViewID.mk 0 0) (GViewID.mk 0 0) q93.1 0 [] [] 0 0),[.int .u8 ((q29.1:Nat):Int),.int .i64 ((q46.1:Nat):Int),.int .u64 ((q58.1.N:Nat):Int),.int .i64 q58.1.P,.int .u16 0,.int .u64 0,.int .i64 0,.int .u64 0,.int .i64 0,.slice A98 n99 c100,.int .u64 0,.slice none 0 0,.slice none 0 0,.int .u64 0,.int .u64 0],q93.2.1,q93.2.2,rfl,rfl,rfl,rfl,rfl,hle97,(hp14.mono hle97),hf103,hl104,⟨A98,n99,c100,none,0,0,none,0,0,rfl,hb35,(show IB ((q46.1:Nat):Int) from ⟨by omega,by omega⟩),b65,⟨b66,b67⟩,(show 0 < 65536 from by omega),(show 0 < 18446744073709551616 from by omega),(show IB 0 from ⟨by omega,by omega⟩),(show 0 < 18446744073709551616 from by omega),(show IB 0 from ⟨by omega,by omega⟩),sp101,(show 0 < 18446744073709551616 from by omega),(Sl.nil _ _ none),(Sl.nil _ _ none),(show 0 < 18446744073709551616 from by omega),(show 0 < 18446744073709551616 from by omega)⟩,hd,(((hs108.p2).p1).p2)⟩
 have hp91:¬ ((((q29.1:Nat):Int):Int) = 3):=of_decide_eq_false hc91
 refine c_cond_f (t:=false) (.tmp rfl (congrArg Value.bool hc91)) rfl ?_
 refine c_seq (c_region (st (v:=.bool (decide ((((q29.1:Nat):Int):Int) = 4))) (x_eql (k:=.u8) (a:=((q29.1:Nat):Int)) (b:=4) (.tmp rfl rfl) .const) ?_))
 refine st (v:=.bool (decide ((((q29.1:Nat):Int):Int) = 4))) (x_assign (.tmp rfl rfl)) ?_
 refine c_nil (n_then ?_)
 rcases Bool.eq_false_or_eq_true (decide ((((q29.1:Nat):Int):Int) = 4)) with hc109 | hc109
 have hp109:(((q29.1:Nat):Int):Int) = 4:=of_decide_eq_true hc109
 refine c_cond_t (t:=true) (.tmp rfl (congrArg Value.bool hc109)) rfl ?_
 refine c_region (st (v:=.pointer (some ⟨g21,0,none⟩)) (x_move (.tmp rfl rfl)) ?_)
 have hs110:=hs72.p1
 refine st_c cb49 .func (evs1 (.tmp rfl rfl)) (rvdec_spec hs110 hp14 hf64 (by omega) ) ?_
 rintro e w112 ⟨cs114,q111,rfl,hr115,hq116,hf117,hs113⟩
 obtain ⟨rfl,b118,⟨b119,b120⟩⟩:=hr115
 refine ⟨_,rfl,?_⟩
 have hl121:q111.2.1.length ≤ n11:=by have h1:=Suf.len hf117; have h2:=hp14.len; omega
 have:=atOf_bound (n:=n11) (cur:=q111.2.1) (bad:=q111.2.2) hl121
 refine st (v:=.pointer (some ⟨g36,0 + 7,none⟩)) (fa30_5 (.tmp rfl rfl)) ?_
 have hs122:=hs113.p1
 refine st_m0 (sto24 (cs':=[.int .u8 ((q29.1:Nat):Int),.int .i64 ((q46.1:Nat):Int),.int .u64 ((q58.1.N:Nat):Int),.int .i64 q58.1.P,.int .u16 0,.int .u64 0,.int .i64 0,.int .u64 ((q111.1.N:Nat):Int),.int .i64 q111.1.P,.slice none 0 0,.int .u64 0,.slice none 0 0,.slice none 0 0,.int .u64 0,.int .u64 0]) (i:=0 + 7) hs122 (v:=.agg #[.int .u64 ((q111.1.N:Nat):Int),.int .i64 q111.1.P]) (.tmp rfl rfl) (.tmp rfl rfl) rfl (Nat.le_of_ble_eq_true rfl) (oneA rfl) rfl) ?_
 rintro w123 hs125
 refine c_nil (n_block ?_)
 have hd1:=ref_head hq30 hq47
 have hd2:=ref_i hd1 (by omega) hq63
 have hd:=ref_4 hd2 (by omega) hq116
 exact n_then ⟨_,rfl,H,(GFrame.mk q29.1 ((q46.1:Nat):Int) q58.1 0 (GViewID.mk 0 0) q111.1 [] 0 [] [] 0 0),[.int .u8 ((q29.1:Nat):Int),.int .i64 ((q46.1:Nat):Int),.int .u64 ((q58.1.N:Nat):Int),.int .i64 q58.1.P,.int .u16 0,.int .u64 0,.int .i64 0,.int .u64 ((q111.1.N:Nat):Int),.int .i64 q111.1.P,.slice none 0 0,.int .u64 0,.slice none 0 0,.slice none 0 0,.int .u64 0,.int .u64 0],q111.2.1,q111.2.2,rfl,rfl,rfl,rfl,rfl,(Hp.le.refl _),hp14,hf117,hl121,⟨none,0,0,none,0,0,none,0,0,rfl,hb35,(show IB ((q46.1:Nat):Int) from ⟨by omega,by omega⟩),b65,⟨b66,b67⟩,(show 0 < 65536 from by omega),(show 0 < 18446744073709551616 from by omega),(show IB 0 from ⟨by omega,by omega⟩),b118,⟨b119,b120⟩,(Sl.nil _ _ none),(show 0 < 18446744073709551616 from by omega),(Sl.nil _ _ none),(Sl.nil _ _ none),(show 0 < 18446744073709551616 from by omega),(show 0 < 18446744073709551616 from by omega)⟩,hd,(((hs125.p2).p1).p2)⟩
 have hp109:¬ ((((q29.1:Nat):Int):Int) = 4):=of_decide_eq_false hc109
 refine c_cond_f (t:=false) (.tmp rfl (congrArg Value.bool hc109)) rfl ?_
 refine c_seq (c_region (st (v:=.bool (decide ((((q29.1:Nat):Int):Int) = 5))) (x_eql (k:=.u8) (a:=((q29.1:Nat):Int)) (b:=5) (.tmp rfl rfl) .const) ?_))
 refine st (v:=.bool (decide ((((q29.1:Nat):Int):Int) = 5))) (x_assign (.tmp rfl rfl)) ?_
 refine c_nil (n_then ?_)
 rcases Bool.eq_false_or_eq_true (decide ((((q29.1:Nat):Int):Int) = 5)) with hc126 | hc126
 have hp126:(((q29.1:Nat):Int):Int) = 5:=of_decide_eq_true hc126
 refine c_cond_t (t:=true) (.tmp rfl (congrArg Value.bool hc126)) rfl ?_
 refine c_seq (c_region (st (v:=.pointer (some ⟨g21,0,none⟩)) (x_move (.tmp rfl rfl)) ?_))
 have hs127:=hs72.p1
 refine st_c cb48 .func (evs2 (.tmp rfl rfl) .const) (rint_r hs127 hp14 hf64 (by omega) 65535 (by omega) (by omega)) ?_
 rintro e w128 ⟨q130,hq131,hb132,hf133,rfl,hs129⟩
 refine ⟨_,rfl,?_⟩
 have hl135:q130.2.1.length ≤ n11:=by have h1:=Suf.len hf133; have h2:=hp14.len; omega
 have:=atOf_bound (n:=n11) (cur:=q130.2.1) (bad:=q130.2.2) hl135
 have hb136:q130.1 < 65536:=by omega
 refine st (v:=.int .u16 ((q130.1:Nat):Int)) (x_conv (k:=.i64) (a:=((q130.1:Nat):Int)) Try.underlying3 Try.underlying25 (.tmp rfl rfl) (wU rfl rfl hb136)) ?_
 refine st (v:=.pointer (some ⟨g36,0 + 4,none⟩)) (fa30_3 (.tmp rfl rfl)) ?_
 have hs137:=hs129.p1
 refine st_m0 (sto25 (cs':=[.int .u8 ((q29.1:Nat):Int),.int .i64 ((q46.1:Nat):Int),.int .u64 ((q58.1.N:Nat):Int),.int .i64 q58.1.P,.int .u16 ((q130.1:Nat):Int),.int .u64 0,.int .i64 0,.int .u64 0,.int .i64 0,.slice none 0 0,.int .u64 0,.slice none 0 0,.slice none 0 0,.int .u64 0,.int .u64 0]) (i:=0 + 4) hs137 (v:=.int .u16 ((q130.1:Nat):Int)) (.tmp rfl rfl) (.tmp rfl rfl) rfl (Nat.le_of_ble_eq_true rfl) one1 rfl) ?_
 rintro w138 hs140
 refine c_nil (n_then (c_region (st (v:=.pointer (some ⟨g21,0,none⟩)) (x_move (.tmp rfl rfl)) ?_)))
 have hs141:=hs140.p1
 refine st_c cb50 .func (evs1 (.tmp rfl rfl)) (unstates_spec hs141 hp14 hf133 (by omega) ) ?_
 rintro e w143 ⟨H145,A147,n148,c149,q142,hle146,rfl,sp150,hq151,hf152,hs144⟩
 have:=sp150.len; have:=sp150.le; have:n148 * 48 ≤ 140737488351232:=sp150.bnd
 refine ⟨_,rfl,?_⟩
 have hl153:q142.2.1.length ≤ n11:=by have h1:=Suf.len hf152; have h2:=(hp14.mono hle146).len; omega
 have:=atOf_bound (n:=n11) (cur:=q142.2.1) (bad:=q142.2.2) hl153
 refine st (v:=.pointer (some ⟨g36,0 + 9,none⟩)) (fa30_6 (.tmp rfl rfl)) ?_
 have hs154:=hs144.p1
 refine st_m0 (sto26 (cs':=[.int .u8 ((q29.1:Nat):Int),.int .i64 ((q46.1:Nat):Int),.int .u64 ((q58.1.N:Nat):Int),.int .i64 q58.1.P,.int .u16 ((q130.1:Nat):Int),.int .u64 0,.int .i64 0,.int .u64 0,.int .i64 0,.slice A147 n148 c149,.int .u64 0,.slice none 0 0,.slice none 0 0,.int .u64 0,.int .u64 0]) (i:=0 + 9) hs154 (v:=.slice A147 n148 c149) (.tmp rfl rfl) (.tmp rfl rfl) rfl (Nat.le_of_ble_eq_true rfl) one1 rfl) ?_
 rintro w155 hs157
 refine c_nil (n_block ?_)
 have hd1:=ref_head hq30 hq47
 have hd2:=ref_i hd1 (by omega) hq63
 have hd:=ref_5 hd2 (by omega) hq131 hq151
 exact n_then ⟨_,rfl,H145,(GFrame.mk q29.1 ((q46.1:Nat):Int) q58.1 q130.1 (GViewID.mk 0 0) (GViewID.mk 0 0) q142.1 0 [] [] 0 0),[.int .u8 ((q29.1:Nat):Int),.int .i64 ((q46.1:Nat):Int),.int .u64 ((q58.1.N:Nat):Int),.int .i64 q58.1.P,.int .u16 ((q130.1:Nat):Int),.int .u64 0,.int .i64 0,.int .u64 0,.int .i64 0,.slice A147 n148 c149,.int .u64 0,.slice none 0 0,.slice none 0 0,.int .u64 0,.int .u64 0],q142.2.1,q142.2.2,rfl,rfl,rfl,rfl,rfl,hle146,(hp14.mono hle146),hf152,hl153,⟨A147,n148,c149,none,0,0,none,0,0,rfl,hb35,(show IB ((q46.1:Nat):Int) from ⟨by omega,by omega⟩),b65,⟨b66,b67⟩,hb136,(show 0 < 18446744073709551616 from by omega),(show IB 0 from ⟨by omega,by omega⟩),(show 0 < 18446744073709551616 from by omega),(show IB 0 from ⟨by omega,by omega⟩),sp150,(show 0 < 18446744073709551616 from by omega),(Sl.nil _ _ none),(Sl.nil _ _ none),(show 0 < 18446744073709551616 from by omega),(show 0 < 18446744073709551616 from by omega)⟩,hd,(((hs157.p2).p1).p2)⟩
 have hp126:¬ ((((q29.1:Nat):Int):Int) = 5):=of_decide_eq_false hc126
 refine c_cond_f (t:=false) (.tmp rfl (congrArg Value.bool hc126)) rfl ?_
 refine c_seq (c_region (st (v:=.bool (decide ((((q29.1:Nat):Int):Int) = 6))) (x_eql (k:=.u8) (a:=((q29.1:Nat):Int)) (b:=6) (.tmp rfl rfl) .const) ?_))
 refine st (v:=.bool (decide ((((q29.1:Nat):Int):Int) = 6))) (x_assign (.tmp rfl rfl)) ?_
 refine c_nil (n_then ?_)
 rcases Bool.eq_false_or_eq_true (decide ((((q29.1:Nat):Int):Int) = 6)) with hc158 | hc158
 have hp158:(((q29.1:Nat):Int):Int) = 6:=of_decide_eq_true hc158
 refine c_cond_t (t:=true) (.tmp rfl (congrArg Value.bool hc158)) rfl ?_
 refine c_seq (c_region (st (v:=.pointer (some ⟨g21,0,none⟩)) (x_move (.tmp rfl rfl)) ?_))
 have hs159:=hs72.p1
 refine st_c cb51 .func (evs1 (.tmp rfl rfl)) (ruint_r hs159 hp14 hf64 (by omega)) ?_
 rintro e w160 ⟨q162,hq163,hb164,hf165,rfl,hs161⟩
 refine ⟨_,rfl,?_⟩
 have hl167:q162.2.1.length ≤ n11:=by have h1:=Suf.len hf165; have h2:=hp14.len; omega
 have:=atOf_bound (n:=n11) (cur:=q162.2.1) (bad:=q162.2.2) hl167
 refine st (v:=.pointer (some ⟨g36,0 + 10,none⟩)) (fa30_7 (.tmp rfl rfl)) ?_
 have hs168:=hs161.p1
 refine st_m0 (sto22 (cs':=[.int .u8 ((q29.1:Nat):Int),.int .i64 ((q46.1:Nat):Int),.int .u64 ((q58.1.N:Nat):Int),.int .i64 q58.1.P,.int .u16 0,.int .u64 0,.int .i64 0,.int .u64 0,.int .i64 0,.slice none 0 0,.int .u64 ((q162.1:Nat):Int),.slice none 0 0,.slice none 0 0,.int .u64 0,.int .u64 0]) (i:=0 + 10) hs168 (v:=.int .u64 ((q162.1:Nat):Int)) (.tmp rfl rfl) (.tmp rfl rfl) rfl (Nat.le_of_ble_eq_true rfl) one1 rfl) ?_
 rintro w169 hs171
 refine c_nil (n_then (c_seq (c_region (st (v:=.pointer (some ⟨g21,0,none⟩)) (x_move (.tmp rfl rfl)) ?_))))
 have hs172:=hs171.p1
 refine st_c cb51 .func (evs1 (.tmp rfl rfl)) (ruint_r hs172 hp14 hf165 (by omega)) ?_
 rintro e w173 ⟨q175,hq176,hb177,hf178,rfl,hs174⟩
 refine ⟨_,rfl,?_⟩
 have hl180:q175.2.1.length ≤ n11:=by have h1:=Suf.len hf178; have h2:=hp14.len; omega
 have:=atOf_bound (n:=n11) (cur:=q175.2.1) (bad:=q175.2.2) hl180
 refine st (v:=.pointer (some ⟨g36,0 + 13,none⟩)) (fa30_10 (.tmp rfl rfl)) ?_
 have hs181:=hs174.p1
 refine st_m0 (sto22 (cs':=[.int .u8 ((q29.1:Nat):Int),.int .i64 ((q46.1:Nat):Int),.int .u64 ((q58.1.N:Nat):Int),.int .i64 q58.1.P,.int .u16 0,.int .u64 0,.int .i64 0,.int .u64 0,.int .i64 0,.slice none 0 0,.int .u64 ((q162.1:Nat):Int),.slice none 0 0,.slice none 0 0,.int .u64 ((q175.1:Nat):Int),.int .u64 0]) (i:=0 + 13) hs181 (v:=.int .u64 ((q175.1:Nat):Int)) (.tmp rfl rfl) (.tmp rfl rfl) rfl (Nat.le_of_ble_eq_true rfl) one1 rfl) ?_
 rintro w182 hs184
 refine c_nil (n_then (c_seq (c_region ?_)))
 skip
 refine st (v:=.pointer (some ⟨g21,0,none⟩)) (x_move (.tmp rfl rfl)) ?_
 have hs185:=hs184.p1
 refine st_c cb48 .func (evs2 (.tmp rfl rfl) .const) (rint_r hs185 hp14 hf178 (by omega) 4096 (by omega) (by omega)) ?_
 rintro e w186 ⟨q188,hq189,hb190,hf191,rfl,hs187⟩
 refine ⟨_,rfl,?_⟩
 have hl193:q188.2.1.length ≤ n11:=by have h1:=Suf.len hf191; have h2:=hp14.len; omega
 have:=atOf_bound (n:=n11) (cur:=q188.2.1) (bad:=q188.2.2) hl193
 refine st (v:=.int .i64 ((q188.1:Nat):Int)) (x_assign (.tmp rfl rfl)) ?_
 refine c_nil (n_then (c_seq (c_region (st (v:=.int .i64 0) (x_assign .const) ?_))))
 refine c_nil (n_then (c_block ?_))
 have hs195:St H _ (row 33 1 (.slice none 0 0) (([]:List (List Nat)).length) []::obj g21 88 [.slice A10 n11 c12,.int .i64 (atOf n11 q188.2.1 q188.2.2)]::obj g36 30 [.int .u8 ((q29.1:Nat):Int),.int .i64 ((q46.1:Nat):Int),.int .u64 ((q58.1.N:Nat):Int),.int .i64 q58.1.P,.int .u16 0,.int .u64 0,.int .i64 0,.int .u64 0,.int .i64 0,.slice none 0 0,.int .u64 ((q162.1:Nat):Int),.slice none 0 0,.slice none 0 0,.int .u64 ((q175.1:Nat):Int),.int .u64 0]::obj g1 30 [.int .u8 0,.int .i64 0,.int .u64 0,.int .i64 0,.int .u16 0,.int .u64 0,.int .i64 0,.int .u64 0,.int .i64 0,.slice none 0 0,.int .u64 0,.slice none 0 0,.slice none 0 0,.int .u64 0,.int .u64 0]::L):=hs187.krowNil 33 kBs
 have:([]:List (List Nat)).length = 0:=rfl
 refine c_loop (fun ρ w mm => ∃ (H196:Hp) (i:Nat) (cur:List Nat) (bad:Bool) (v2:Value) (c9:List Value) (l:List (List Nat)),ρ 0 = .slice A_b n_b c_b∧ρ 2 = .pointer (some ⟨g1,0,none⟩)∧ρ 4 = .slice A10 n11 c12∧ρ 6 = .pointer (some ⟨g21,0,none⟩)∧ρ 7 = .pointer (some ⟨g36,0,none⟩)∧ρ 8 = .int .i64 ((q188.1:Nat):Int)∧ρ 9 = .int .i64 ((i:Nat):Int)∧(H.le H196)∧(Bs H196 A10 n11 c12 (openL b).1)∧(Suf (openL b).1 cur)∧(cur.length ≤ n11)∧(i ≤ q188.1)∧(l.length ≤ i)∧(RowOk kBs.sz v2 l.length c9)∧(kBs.toKn.rows H196 l c9)∧(MsInv q175.2.1 q175.2.2 l (((q188.1:Nat):Int) - ((i:Nat):Int)) cur bad)∧St H196 w (obj g21 88 [.slice A10 n11 c12,.int .i64 (atOf n11 cur bad)]::obj g36 30 [.int .u8 ((q29.1:Nat):Int),.int .i64 ((q46.1:Nat):Int),.int .u64 ((q58.1.N:Nat):Int),.int .i64 q58.1.P,.int .u16 0,.int .u64 0,.int .i64 0,.int .u64 0,.int .i64 0,.slice none 0 0,.int .u64 ((q162.1:Nat):Int),v2,.slice none 0 0,.int .u64 ((q175.1:Nat):Int),.int .u64 0]::row 33 1 v2 l.length c9::obj g1 30 [.int .u8 0,.int .i64 0,.int .u64 0,.int .i64 0,.int .u16 0,.int .u64 0,.int .i64 0,.int .u64 0,.int .i64 0,.slice none 0 0,.int .u64 0,.slice none 0 0,.slice none 0 0,.int .u64 0,.int .u64 0]::L)∧mm = q188.1 - i) _ ⟨H,0,q188.2.1,q188.2.2,(.slice none 0 0),[],[],rfl,rfl,rfl,rfl,rfl,rfl,rfl,(Hp.le.refl _),hp14,hf191,hl193,(by omega),(by omega),(RowOk.knil kBs),(Kn.rows_nil _ _),(ms_from hq189 (by omega)),((((hs195.p3).p1).p3).p3),rfl⟩ ?_
 rintro ρ w mm ⟨H196,i,cur,bad,v2,c9,l,hρ198,hρ199,hρ200,hρ201,hρ202,hρ203,hρ204,hg197,hp2,hf2,hlc,hi,hl,okv,hkv,inv,hs205,rfl⟩
 refine c_seq (c_seq (c_region ?_))
 have hab9:=atOf_bound (n:=n11) (cur:=cur) (bad:=bad) hlc
 refine st (v:=.int .i64 ((i:Nat):Int)) (x_move (.tmp rfl hρ204)) ?_
 refine st (v:=.int .i64 ((q188.1:Nat):Int)) (x_move (.tmp rfl hρ203)) ?_
 refine st (v:=.bool (decide ((((i:Nat):Int):Int) < ((q188.1:Nat):Int)))) (x_lss (k:=.i64) (a:=((i:Nat):Int)) (b:=((q188.1:Nat):Int)) (.tmp rfl rfl) (.tmp rfl rfl)) ?_
 refine st (v:=.bool (decide ((((i:Nat):Int):Int) < ((q188.1:Nat):Int)))) (x_move (.tmp rfl rfl)) ?_
 rcases Bool.eq_false_or_eq_true (decide ((((i:Nat):Int):Int) < ((q188.1:Nat):Int))) with hc206 | hc206
 have hp206:(((i:Nat):Int):Int) < ((q188.1:Nat):Int):=of_decide_eq_true hc206
 refine g_yes (yk 87 true rfl rfl hc206) ?_
 refine st (v:=.pointer (some ⟨g21,0,none⟩)) (x_move (.tmp rfl hρ201)) ?_
 refine g_yes (yk 87 true rfl rfl hc206) ?_
 refine st (v:=.pointer (some ⟨g21,0,none⟩)) (x_nilCheck (.tmp rfl rfl)) ?_
 refine g_yes (yk 87 true rfl rfl hc206) ?_
 refine st (v:=.pointer (some ⟨g21,0 + 1,none⟩)) (fa88_1 (.tmp rfl rfl)) ?_
 refine g_yes (yk 87 true rfl rfl hc206) ?_
 refine st (v:=.int .i64 (atOf n11 cur bad)) (ld3 (.tmp rfl rfl) (hs205.cell 0 rfl (0 + 1) rfl)) ?_
 refine g_yes (yk 87 true rfl rfl hc206) ?_
 refine st (v:=.bool (decide ((0:Int) ≤ (atOf n11 cur bad)))) (x_geq (k:=.i64) (a:=(atOf n11 cur bad)) (b:=0) (.tmp rfl rfl) .const) ?_
 refine st (v:=.bool (decide ((0:Int) ≤ (atOf n11 cur bad)))) (x_pick_t (.tmp rfl (congrArg Value.bool hc206)) (.tmp rfl rfl)) ?_
 refine c_nil (n_then ?_)
 rcases Bool.eq_false_or_eq_true (decide ((0:Int) ≤ (atOf n11 cur bad))) with hc207 | hc207
 have hp207:(0:Int) ≤ (atOf n11 cur bad):=of_decide_eq_true hc207
 refine c_cond_t (t:=true) (.tmp rfl (congrArg Value.bool hc207)) rfl ?_
 refine c_skip (n_then (c_seq (c_block (t_region (L:=obj g21 88 [.slice A10 n11 c12,.int .i64 (atOf n11 cur bad)]::obj g36 30 [.int .u8 ((q29.1:Nat):Int),.int .i64 ((q46.1:Nat):Int),.int .u64 ((q58.1.N:Nat):Int),.int .i64 q58.1.P,.int .u16 0,.int .u64 0,.int .i64 0,.int .u64 0,.int .i64 0,.slice none 0 0,.int .u64 ((q162.1:Nat):Int),v2,.slice none 0 0,.int .u64 ((q175.1:Nat):Int),.int .u64 0]::row 33 1 v2 l.length c9::obj g1 30 [.int .u8 0,.int .i64 0,.int .u64 0,.int .i64 0,.int .u16 0,.int .u64 0,.int .i64 0,.int .u64 0,.int .i64 0,.slice none 0 0,.int .u64 0,.slice none 0 0,.slice none 0 0,.int .u64 0,.int .u64 0]::L) (L':=obj g36 30 [.int .u8 ((q29.1:Nat):Int),.int .i64 ((q46.1:Nat):Int),.int .u64 ((q58.1.N:Nat):Int),.int .i64 q58.1.P,.int .u16 0,.int .u64 0,.int .i64 0,.int .u64 0,.int .i64 0,.slice none 0 0,.int .u64 ((q162.1:Nat):Int),v2,.slice none 0 0,.int .u64 ((q175.1:Nat):Int),.int .u64 0]::row 33 1 v2 l.length c9::obj g1 30 [.int .u8 0,.int .i64 0,.int .u64 0,.int .i64 0,.int .u16 0,.int .u64 0,.int .i64 0,.int .u64 0,.int .i64 0,.slice none 0 0,.int .u64 0,.slice none 0 0,.slice none 0 0,.int .u64 0,.int .u64 0]::L) (Z:=[5,7]) (F:=[]) (pl:=(.q 0 (.q 1 (.q 2 (.e 3 (.e 4 (.e 5 (.q 6 (.e 7 .done))))))))) mixed hs205 (fun u hu => hu.drop) (by kernel_rfl) ?_))))
 intro w208 hs209
 refine t_st (k:=0) (v:=.pointer (some ⟨g36,0 + 11,none⟩)) rfl rfl (fun w hs => (fa30_8 (.tmp rfl hρ202))) ?_
 refine t_st (k:=1) (v:=v2) rfl rfl (fun w hs => (ld27 (.tmp rfl rfl) (hs.cell 0 rfl (0 + 11) rfl))) ?_
 refine t_st (k:=2) (v:=.pointer (some ⟨g21,0,none⟩)) rfl rfl (fun w hs => (x_move (.tmp rfl hρ201))) ?_
 refine t_eff (k:=3) rfl ?_
 refine st_c cb52 .func (evs2 (.tmp rfl rfl) .const) (rbytes_r hs209 hp2 hf2 (by omega) 1048576 (by omega) (by omega)) ?_
 rintro e w210 ⟨A217,n218,c219,q212,hq213,hb214,hf215,rfl,hp220,hs211⟩
 refine ⟨_,rfl,?_⟩
 have hl222:q212.2.1.length ≤ n11:=by have h1:=Suf.len hf215; have h2:=hp2.len; omega
 have:=atOf_bound (n:=n11) (cur:=q212.2.1) (bad:=q212.2.2) hl222
 have:=hp220.len
 have hy221:By H196 A217 n218 c219 q212.1:=⟨hp220,by omega⟩
 have:=hy221.le
 refine t_on (S':=fun u => St H196 u (obj g36 30 [.int .u8 ((q29.1:Nat):Int),.int .i64 ((q46.1:Nat):Int),.int .u64 ((q58.1.N:Nat):Int),.int .i64 q58.1.P,.int .u16 0,.int .u64 0,.int .i64 0,.int .u64 0,.int .i64 0,.slice none 0 0,.int .u64 ((q162.1:Nat):Int),v2,.slice none 0 0,.int .u64 ((q175.1:Nat):Int),.int .u64 0]::row 33 1 v2 l.length c9::obj g1 30 [.int .u8 0,.int .i64 0,.int .u64 0,.int .i64 0,.int .u16 0,.int .u64 0,.int .i64 0,.int .u64 0,.int .i64 0,.slice none 0 0,.int .u64 0,.slice none 0 0,.slice none 0 0,.int .u64 0,.int .u64 0]::L)) (fun u hu => hu) hs211.drop ?_
 refine t_eff (k:=4) rfl ?_
 refine st_m (m_lit (n:=1) (ps:=[(0,.slice A217 n218 c219)]) (cs:=[.slice A217 n218 c219]) Try.underlying27 inf33 (.cons (.tmp rfl rfl) Evp.nil) (by decide) (by decide) rfl rfl hs211) ?_
 rintro _ w224 ⟨g223,rfl,hs226⟩
 refine t_on (S':=fun u => St H196 u (obj g223 33 [.slice A217 n218 c219]::obj g36 30 [.int .u8 ((q29.1:Nat):Int),.int .i64 ((q46.1:Nat):Int),.int .u64 ((q58.1.N:Nat):Int),.int .i64 q58.1.P,.int .u16 0,.int .u64 0,.int .i64 0,.int .u64 0,.int .i64 0,.slice none 0 0,.int .u64 ((q162.1:Nat):Int),v2,.slice none 0 0,.int .u64 ((q175.1:Nat):Int),.int .u64 0]::row 33 1 v2 l.length c9::obj g1 30 [.int .u8 0,.int .i64 0,.int .u64 0,.int .i64 0,.int .u16 0,.int .u64 0,.int .i64 0,.int .u64 0,.int .i64 0,.slice none 0 0,.int .u64 0,.slice none 0 0,.slice none 0 0,.int .u64 0,.int .u64 0]::L)) (fun u hu => hu.drop) (hs226.p1).drop ?_
 refine t_eff (k:=5) rfl ?_
 have hs227:=hs226.p3
 have hr235:kBs.rep H196 q212.1 [.slice A217 n218 c219]:=⟨A217,n218,c219,rfl,hy221⟩
 refine st_m (m_appK (d:=kBs) (ys:=[q212.1]) (news:=[.slice A217 n218 c219]) Try.underlying27 inf33 rfl hs227 okv hkv (.tmp rfl rfl) (.tmp rfl rfl) (Kn.rows_one hr235) rfl (hs227.at_ 1 rfl 0 rfl) (by have:([q212.1]:List (List Nat)).length = 1:=rfl; omega) (by decide)) ?_
 rintro v228 w229 ⟨cs230,ok231,hk232,hs233⟩
 have hn234:(l ++ [q212.1]).length = l.length + 1:=by simp
 refine t_new (S':=fun u => St H196 u (row 33 1 v228 ((l ++ [q212.1]).length) cs230::obj g223 33 [.slice A217 n218 c219]::obj g21 88 [.slice A10 n11 c12,.int .i64 (atOf n11 q212.2.1 q212.2.2)]::obj g36 30 [.int .u8 ((q29.1:Nat):Int),.int .i64 ((q46.1:Nat):Int),.int .u64 ((q58.1.N:Nat):Int),.int .i64 q58.1.P,.int .u16 0,.int .u64 0,.int .i64 0,.int .u64 0,.int .i64 0,.slice none 0 0,.int .u64 ((q162.1:Nat):Int),v2,.slice none 0 0,.int .u64 ((q175.1:Nat):Int),.int .u64 0]::obj g1 30 [.int .u8 0,.int .i64 0,.int .u64 0,.int .i64 0,.int .u16 0,.int .u64 0,.int .i64 0,.int .u64 0,.int .i64 0,.slice none 0 0,.int .u64 0,.slice none 0 0,.slice none 0 0,.int .u64 0,.int .u64 0]::L)) rfl hs233 ?_
 refine t_st (k:=6) (v:=.pointer (some ⟨g36,0 + 11,none⟩)) rfl rfl (fun w hs => (fa30_8 (.tmp rfl hρ202))) ?_
 refine t_eff (k:=7) rfl ?_
 obtain ⟨A236,c237,rfl,hc238⟩:=ok231.slice
 have hs239:=hs233.p3
 refine st_m0 (sto27 (cs':=[.int .u8 ((q29.1:Nat):Int),.int .i64 ((q46.1:Nat):Int),.int .u64 ((q58.1.N:Nat):Int),.int .i64 q58.1.P,.int .u16 0,.int .u64 0,.int .i64 0,.int .u64 0,.int .i64 0,.slice none 0 0,.int .u64 ((q162.1:Nat):Int),.slice A236 ((l ++ [q212.1]).length) c237,.slice none 0 0,.int .u64 ((q175.1:Nat):Int),.int .u64 0]) (i:=0 + 11) hs239 (v:=.slice A236 ((l ++ [q212.1]).length) c237) (.tmp rfl rfl) (.tmp rfl rfl) rfl (Nat.le_of_ble_eq_true rfl) one1 rfl) ?_
 rintro w240 hs242
 refine t_new (S':=fun u => St H196 u (obj g36 30 [.int .u8 ((q29.1:Nat):Int),.int .i64 ((q46.1:Nat):Int),.int .u64 ((q58.1.N:Nat):Int),.int .i64 q58.1.P,.int .u16 0,.int .u64 0,.int .i64 0,.int .u64 0,.int .i64 0,.slice none 0 0,.int .u64 ((q162.1:Nat):Int),.slice A236 ((l ++ [q212.1]).length) c237,.slice none 0 0,.int .u64 ((q175.1:Nat):Int),.int .u64 0]::row 33 1 (.slice A236 ((l ++ [q212.1]).length) c237) ((l ++ [q212.1]).length) cs230::obj g223 33 [.slice A217 n218 c219]::obj g21 88 [.slice A10 n11 c12,.int .i64 (atOf n11 q212.2.1 q212.2.2)]::obj g1 30 [.int .u8 0,.int .i64 0,.int .u64 0,.int .i64 0,.int .u16 0,.int .u64 0,.int .i64 0,.int .u64 0,.int .i64 0,.slice none 0 0,.int .u64 0,.slice none 0 0,.slice none 0 0,.int .u64 0,.int .u64 0]::L)) rfl hs242 ?_
 refine t_nil ?_
 refine n_block (n_then (c_region (st (v:=.int .i64 ((i:Nat):Int)) (x_move (.tmp rfl hρ204)) ?_)))
 refine st (v:=.int .i64 (((i + 1):Nat):Int)) (x_add (k:=.i64) (a:=((i:Nat):Int)) (b:=1) (.tmp rfl rfl) .const ((w64 (by omega) (by omega)).trans (by omega))) ?_
 refine st (v:=.int .i64 (((i + 1):Nat):Int)) (x_assign (.tmp rfl rfl)) ?_
 refine c_nil ?_
 refine n_then ⟨_,_,rfl,?_,H196,(i + 1),q212.2.1,q212.2.2,(.slice A236 ((l ++ [q212.1]).length) c237),cs230,(l ++ [q212.1]),hρ198,hρ199,hρ200,hρ201,hρ202,hρ203,rfl,hg197,hp2,hf215,(hl222),(by omega),(by omega),ok231,hk232,(ms_up inv (by omega) (at_good hlc (by omega)) hq213 (by omega)),(((((hs242.p2).drop.p3).p2).p2).p3),rfl⟩
 omega
 have hp207:¬ ((0:Int) ≤ (atOf n11 cur bad)):=of_decide_eq_false hc207
 refine c_cond_f (t:=false) (.tmp rfl (congrArg Value.bool hc207)) rfl ?_
 refine c_exit (x_then (x_then (x_here (n_block ?_))))
 have hs243:=hs205.p2
 have:l.length * 24 ≤ 140737488351232:=by omega
 obtain ⟨H244,A245,c246,hle247,hs248,rfl,sp249⟩:=hs243.freezeSl (d:=kBs) okv hkv this
 have:=sp249.len; have:=sp249.le
 have hd1:=ref_head hq30 hq47
 have hd2:=ref_i hd1 (by omega) hq63
 have hms:=ms_done inv (.inr (at_bad hlc (by omega)))
 have hd:=ref_6 hd2 (by omega) hq163 hq176 hms
 exact n_then ⟨_,rfl,H244,(GFrame.mk q29.1 ((q46.1:Nat):Int) q58.1 0 (GViewID.mk 0 0) (GViewID.mk 0 0) [] q162.1 l [] q175.1 0),[.int .u8 ((q29.1:Nat):Int),.int .i64 ((q46.1:Nat):Int),.int .u64 ((q58.1.N:Nat):Int),.int .i64 q58.1.P,.int .u16 0,.int .u64 0,.int .i64 0,.int .u64 0,.int .i64 0,.slice none 0 0,.int .u64 ((q162.1:Nat):Int),.slice A245 l.length c246,.slice none 0 0,.int .u64 ((q175.1:Nat):Int),.int .u64 0],cur,bad,hρ198,hρ199,hρ200,hρ201,hρ202,(hg197.trans hle247),(hp2.mono hle247),hf2,hlc,⟨none,0,0,A245,l.length,c246,none,0,0,rfl,hb35,(show IB ((q46.1:Nat):Int) from ⟨by omega,by omega⟩),b65,⟨b66,b67⟩,(show 0 < 65536 from by omega),(show 0 < 18446744073709551616 from by omega),(show IB 0 from ⟨by omega,by omega⟩),(show 0 < 18446744073709551616 from by omega),(show IB 0 from ⟨by omega,by omega⟩),(Sl.nil _ _ none),hb164,sp249,(Sl.nil _ _ none),hb177,(show 0 < 18446744073709551616 from by omega)⟩,hd,(((hs248.p2).p2).p2)⟩
 have hp206:¬ ((((i:Nat):Int):Int) < ((q188.1:Nat):Int)):=of_decide_eq_false hc206
 refine g_no (yk 87 false rfl rfl hc206) rfl ?_
 refine g_no (yk 87 false rfl rfl hc206) rfl ?_
 refine g_no (yk 87 false rfl rfl hc206) rfl ?_
 refine g_no (yk 87 false rfl rfl hc206) rfl ?_
 refine g_no (yk 87 false rfl rfl hc206) rfl ?_
 refine st (v:=.bool false) (x_pick_f (.tmp rfl (congrArg Value.bool hc206)) .const) ?_
 refine c_nil (n_then (c_cond_f (t:=false) (.tmp rfl rfl) rfl ?_))
 refine c_exit (x_then (x_then (x_here (n_block ?_))))
 have hs250:=hs205.p2
 have:l.length * 24 ≤ 140737488351232:=by omega
 obtain ⟨H251,A252,c253,hle254,hs255,rfl,sp256⟩:=hs250.freezeSl (d:=kBs) okv hkv this
 have:=sp256.len; have:=sp256.le
 have hd1:=ref_head hq30 hq47
 have hd2:=ref_i hd1 (by omega) hq63
 have hms:=ms_done inv (.inl (by omega))
 have hd:=ref_6 hd2 (by omega) hq163 hq176 hms
 exact n_then ⟨_,rfl,H251,(GFrame.mk q29.1 ((q46.1:Nat):Int) q58.1 0 (GViewID.mk 0 0) (GViewID.mk 0 0) [] q162.1 l [] q175.1 0),[.int .u8 ((q29.1:Nat):Int),.int .i64 ((q46.1:Nat):Int),.int .u64 ((q58.1.N:Nat):Int),.int .i64 q58.1.P,.int .u16 0,.int .u64 0,.int .i64 0,.int .u64 0,.int .i64 0,.slice none 0 0,.int .u64 ((q162.1:Nat):Int),.slice A252 l.length c253,.slice none 0 0,.int .u64 ((q175.1:Nat):Int),.int .u64 0],cur,bad,hρ198,hρ199,hρ200,hρ201,hρ202,(hg197.trans hle254),(hp2.mono hle254),hf2,hlc,⟨none,0,0,A252,l.length,c253,none,0,0,rfl,hb35,(show IB ((q46.1:Nat):Int) from ⟨by omega,by omega⟩),b65,⟨b66,b67⟩,(show 0 < 65536 from by omega),(show 0 < 18446744073709551616 from by omega),(show IB 0 from ⟨by omega,by omega⟩),(show 0 < 18446744073709551616 from by omega),(show IB 0 from ⟨by omega,by omega⟩),(Sl.nil _ _ none),hb164,sp256,(Sl.nil _ _ none),hb177,(show 0 < 18446744073709551616 from by omega)⟩,hd,(((hs255.p2).p2).p2)⟩
 have hp158:¬ ((((q29.1:Nat):Int):Int) = 6):=of_decide_eq_false hc158
 refine c_cond_f (t:=false) (.tmp rfl (congrArg Value.bool hc158)) rfl ?_
 refine c_seq (c_region (st (v:=.bool (decide ((((q29.1:Nat):Int):Int) = 7))) (x_eql (k:=.u8) (a:=((q29.1:Nat):Int)) (b:=7) (.tmp rfl rfl) .const) ?_))
 refine st (v:=.bool (decide ((((q29.1:Nat):Int):Int) = 7))) (x_assign (.tmp rfl rfl)) ?_
 refine c_nil (n_then ?_)
 rcases Bool.eq_false_or_eq_true (decide ((((q29.1:Nat):Int):Int) = 7)) with hc257 | hc257
 have hp257:(((q29.1:Nat):Int):Int) = 7:=of_decide_eq_true hc257
 refine c_cond_t (t:=true) (.tmp rfl (congrArg Value.bool hc257)) rfl ?_
 refine c_seq (c_region (st (v:=.pointer (some ⟨g21,0,none⟩)) (x_move (.tmp rfl rfl)) ?_))
 have hs258:=hs72.p1
 refine st_c cb51 .func (evs1 (.tmp rfl rfl)) (ruint_r hs258 hp14 hf64 (by omega)) ?_
 rintro e w259 ⟨q261,hq262,hb263,hf264,rfl,hs260⟩
 refine ⟨_,rfl,?_⟩
 have hl266:q261.2.1.length ≤ n11:=by have h1:=Suf.len hf264; have h2:=hp14.len; omega
 have:=atOf_bound (n:=n11) (cur:=q261.2.1) (bad:=q261.2.2) hl266
 refine st (v:=.pointer (some ⟨g36,0 + 10,none⟩)) (fa30_7 (.tmp rfl rfl)) ?_
 have hs267:=hs260.p1
 refine st_m0 (sto22 (cs':=[.int .u8 ((q29.1:Nat):Int),.int .i64 ((q46.1:Nat):Int),.int .u64 ((q58.1.N:Nat):Int),.int .i64 q58.1.P,.int .u16 0,.int .u64 0,.int .i64 0,.int .u64 0,.int .i64 0,.slice none 0 0,.int .u64 ((q261.1:Nat):Int),.slice none 0 0,.slice none 0 0,.int .u64 0,.int .u64 0]) (i:=0 + 10) hs267 (v:=.int .u64 ((q261.1:Nat):Int)) (.tmp rfl rfl) (.tmp rfl rfl) rfl (Nat.le_of_ble_eq_true rfl) one1 rfl) ?_
 rintro w268 hs270
 refine c_nil (n_then (c_seq (c_region (st (v:=.pointer (some ⟨g21,0,none⟩)) (x_move (.tmp rfl rfl)) ?_))))
 have hs271:=hs270.p1
 refine st_c cb51 .func (evs1 (.tmp rfl rfl)) (ruint_r hs271 hp14 hf264 (by omega)) ?_
 rintro e w272 ⟨q274,hq275,hb276,hf277,rfl,hs273⟩
 refine ⟨_,rfl,?_⟩
 have hl279:q274.2.1.length ≤ n11:=by have h1:=Suf.len hf277; have h2:=hp14.len; omega
 have:=atOf_bound (n:=n11) (cur:=q274.2.1) (bad:=q274.2.2) hl279
 refine st (v:=.pointer (some ⟨g36,0 + 13,none⟩)) (fa30_10 (.tmp rfl rfl)) ?_
 have hs280:=hs273.p1
 refine st_m0 (sto22 (cs':=[.int .u8 ((q29.1:Nat):Int),.int .i64 ((q46.1:Nat):Int),.int .u64 ((q58.1.N:Nat):Int),.int .i64 q58.1.P,.int .u16 0,.int .u64 0,.int .i64 0,.int .u64 0,.int .i64 0,.slice none 0 0,.int .u64 ((q261.1:Nat):Int),.slice none 0 0,.slice none 0 0,.int .u64 ((q274.1:Nat):Int),.int .u64 0]) (i:=0 + 13) hs280 (v:=.int .u64 ((q274.1:Nat):Int)) (.tmp rfl rfl) (.tmp rfl rfl) rfl (Nat.le_of_ble_eq_true rfl) one1 rfl) ?_
 rintro w281 hs283
 refine c_nil (n_then (c_seq (c_region (st (v:=.pointer (some ⟨g21,0,none⟩)) (x_move (.tmp rfl rfl)) ?_))))
 have hs284:=hs283.p1
 refine st_c cb51 .func (evs1 (.tmp rfl rfl)) (ruint_r hs284 hp14 hf277 (by omega)) ?_
 rintro e w285 ⟨q287,hq288,hb289,hf290,rfl,hs286⟩
 refine ⟨_,rfl,?_⟩
 have hl292:q287.2.1.length ≤ n11:=by have h1:=Suf.len hf290; have h2:=hp14.len; omega
 have:=atOf_bound (n:=n11) (cur:=q287.2.1) (bad:=q287.2.2) hl292
 refine st (v:=.pointer (some ⟨g36,0 + 14,none⟩)) (fa30_11 (.tmp rfl rfl)) ?_
 have hs293:=hs286.p1
 refine st_m0 (sto22 (cs':=[.int .u8 ((q29.1:Nat):Int),.int .i64 ((q46.1:Nat):Int),.int .u64 ((q58.1.N:Nat):Int),.int .i64 q58.1.P,.int .u16 0,.int .u64 0,.int .i64 0,.int .u64 0,.int .i64 0,.slice none 0 0,.int .u64 ((q261.1:Nat):Int),.slice none 0 0,.slice none 0 0,.int .u64 ((q274.1:Nat):Int),.int .u64 ((q287.1:Nat):Int)]) (i:=0 + 14) hs293 (v:=.int .u64 ((q287.1:Nat):Int)) (.tmp rfl rfl) (.tmp rfl rfl) rfl (Nat.le_of_ble_eq_true rfl) one1 rfl) ?_
 rintro w294 hs296
 refine c_nil (n_then (c_region (st (v:=.pointer (some ⟨g21,0,none⟩)) (x_move (.tmp rfl rfl)) ?_)))
 have hs297:=hs296.p1
 refine st_c cb53 .func (evs1 (.tmp rfl rfl)) (unitems_spec hs297 hp14 hf290 (by omega) ) ?_
 rintro e w299 ⟨H301,A303,n304,c305,q298,hle302,rfl,sp306,hq307,hf308,hs300⟩
 have:=sp306.len; have:=sp306.le; have:n304 * 32 ≤ 140737488351232:=sp306.bnd
 refine ⟨_,rfl,?_⟩
 have hl309:q298.2.1.length ≤ n11:=by have h1:=Suf.len hf308; have h2:=(hp14.mono hle302).len; omega
 have:=atOf_bound (n:=n11) (cur:=q298.2.1) (bad:=q298.2.2) hl309
 refine st (v:=.pointer (some ⟨g36,0 + 12,none⟩)) (fa30_9 (.tmp rfl rfl)) ?_
 have hs310:=hs300.p1
 refine st_m0 (sto28 (cs':=[.int .u8 ((q29.1:Nat):Int),.int .i64 ((q46.1:Nat):Int),.int .u64 ((q58.1.N:Nat):Int),.int .i64 q58.1.P,.int .u16 0,.int .u64 0,.int .i64 0,.int .u64 0,.int .i64 0,.slice none 0 0,.int .u64 ((q261.1:Nat):Int),.slice none 0 0,.slice A303 n304 c305,.int .u64 ((q274.1:Nat):Int),.int .u64 ((q287.1:Nat):Int)]) (i:=0 + 12) hs310 (v:=.slice A303 n304 c305) (.tmp rfl rfl) (.tmp rfl rfl) rfl (Nat.le_of_ble_eq_true rfl) one1 rfl) ?_
 rintro w311 hs313
 refine c_nil (n_block ?_)
 have hd1:=ref_head hq30 hq47
 have hd2:=ref_i hd1 (by omega) hq63
 have hd:=ref_7 hd2 (by omega) hq262 hq275 hq288 hq307
 exact n_then ⟨_,rfl,H301,(GFrame.mk q29.1 ((q46.1:Nat):Int) q58.1 0 (GViewID.mk 0 0) (GViewID.mk 0 0) [] q261.1 [] q298.1 q274.1 q287.1),[.int .u8 ((q29.1:Nat):Int),.int .i64 ((q46.1:Nat):Int),.int .u64 ((q58.1.N:Nat):Int),.int .i64 q58.1.P,.int .u16 0,.int .u64 0,.int .i64 0,.int .u64 0,.int .i64 0,.slice none 0 0,.int .u64 ((q261.1:Nat):Int),.slice none 0 0,.slice A303 n304 c305,.int .u64 ((q274.1:Nat):Int),.int .u64 ((q287.1:Nat):Int)],q298.2.1,q298.2.2,rfl,rfl,rfl,rfl,rfl,hle302,(hp14.mono hle302),hf308,hl309,⟨none,0,0,none,0,0,A303,n304,c305,rfl,hb35,(show IB ((q46.1:Nat):Int) from ⟨by omega,by omega⟩),b65,⟨b66,b67⟩,(show 0 < 65536 from by omega),(show 0 < 18446744073709551616 from by omega),(show IB 0 from ⟨by omega,by omega⟩),(show 0 < 18446744073709551616 from by omega),(show IB 0 from ⟨by omega,by omega⟩),(Sl.nil _ _ none),hb263,(Sl.nil _ _ none),sp306,hb276,hb289⟩,hd,(((hs313.p2).p1).p2)⟩
 have hp257:¬ ((((q29.1:Nat):Int):Int) = 7):=of_decide_eq_false hc257
 refine c_cond_f (t:=false) (.tmp rfl (congrArg Value.bool hc257)) rfl ?_
 refine c_skip (n_block ?_)
 have hd1:=ref_head hq30 hq47
 have hd2:=ref_i hd1 (by omega) hq63
 have hd:=ref_0 hd2 (by omega) (by omega) (by omega) (by omega) (by omega) (by omega)
 exact n_then ⟨_,rfl,H,(GFrame.mk q29.1 ((q46.1:Nat):Int) q58.1 0 (GViewID.mk 0 0) (GViewID.mk 0 0) [] 0 [] [] 0 0),[.int .u8 ((q29.1:Nat):Int),.int .i64 ((q46.1:Nat):Int),.int .u64 ((q58.1.N:Nat):Int),.int .i64 q58.1.P,.int .u16 0,.int .u64 0,.int .i64 0,.int .u64 0,.int .i64 0,.slice none 0 0,.int .u64 0,.slice none 0 0,.slice none 0 0,.int .u64 0,.int .u64 0],q58.2.1,q58.2.2,rfl,rfl,rfl,rfl,rfl,(Hp.le.refl _),hp14,hf64,hl68,⟨none,0,0,none,0,0,none,0,0,rfl,hb35,(show IB ((q46.1:Nat):Int) from ⟨by omega,by omega⟩),b65,⟨b66,b67⟩,(show 0 < 65536 from by omega),(show 0 < 18446744073709551616 from by omega),(show IB 0 from ⟨by omega,by omega⟩),(show 0 < 18446744073709551616 from by omega),(show IB 0 from ⟨by omega,by omega⟩),(Sl.nil _ _ none),(show 0 < 18446744073709551616 from by omega),(Sl.nil _ _ none),(Sl.nil _ _ none),(show 0 < 18446744073709551616 from by omega),(show 0 < 18446744073709551616 from by omega)⟩,hd,(((hs72.p2).p1).p2)⟩
 rintro ρ w ⟨H73,g3,cs3,cur3,bad3,hρ314,hρ315,hρ316,hρ317,hρ318,hg74,hp3,hf3,hl3,hr3,hd3,hs319⟩
 obtain ⟨A333,n334,c335,A338,n339,c340,A342,n343,c344,rfl,b320,⟨b321,b322⟩,b323,⟨b324,b325⟩,b326,b327,⟨b328,b329⟩,b330,⟨b331,b332⟩,hl336,b337,hl341,hl345,b346,b347⟩:=hr3
 have:=hl336.len; have:n334 * 48 ≤ 140737488351232:=hl336.bnd; have:=hl336.le
 have:=hl341.len; have:n339 * 24 ≤ 140737488351232:=hl341.bnd; have:=hl341.le
 have:=hl345.len; have:n343 * 32 ≤ 140737488351232:=hl345.bnd; have:=hl345.le
 have hbl:=openL_le b; have hbl9:b.length = n_b:=h_b.len
 refine c_seq (c_seq (t_region (L:=obj g21 88 [.slice A10 n11 c12,.int .i64 (atOf n11 cur3 bad3)]::obj g36 30 [.int .u8 ((g3.Kind:Nat):Int),.int .i64 g3.From,.int .u64 ((g3.ID.N:Nat):Int),.int .i64 g3.ID.P,.int .u16 ((g3.Set:Nat):Int),.int .u64 ((g3.Cur.N:Nat):Int),.int .i64 g3.Cur.P,.int .u64 ((g3.Prom.N:Nat):Int),.int .i64 g3.Prom.P,.slice A333 n334 c335,.int .u64 ((g3.Base:Nat):Int),.slice A338 n339 c340,.slice A342 n343 c344,.int .u64 ((g3.Ack:Nat):Int),.int .u64 ((g3.Safe:Nat):Int)]::obj g1 30 [.int .u8 0,.int .i64 0,.int .u64 0,.int .i64 0,.int .u16 0,.int .u64 0,.int .i64 0,.int .u64 0,.int .i64 0,.slice none 0 0,.int .u64 0,.slice none 0 0,.slice none 0 0,.int .u64 0,.int .u64 0]::L) (L':=obj g21 88 [.slice A10 n11 c12,.int .i64 (atOf n11 cur3 bad3)]::obj g36 30 [.int .u8 ((g3.Kind:Nat):Int),.int .i64 g3.From,.int .u64 ((g3.ID.N:Nat):Int),.int .i64 g3.ID.P,.int .u16 ((g3.Set:Nat):Int),.int .u64 ((g3.Cur.N:Nat):Int),.int .i64 g3.Cur.P,.int .u64 ((g3.Prom.N:Nat):Int),.int .i64 g3.Prom.P,.slice A333 n334 c335,.int .u64 ((g3.Base:Nat):Int),.slice A338 n339 c340,.slice A342 n343 c344,.int .u64 ((g3.Ack:Nat):Int),.int .u64 ((g3.Safe:Nat):Int)]::obj g1 30 [.int .u8 0,.int .i64 0,.int .u64 0,.int .i64 0,.int .u16 0,.int .u64 0,.int .i64 0,.int .u64 0,.int .i64 0,.slice none 0 0,.int .u64 0,.slice none 0 0,.slice none 0 0,.int .u64 0,.int .u64 0]::L) (Z:=[9]) (F:=[0,1]) (pl:=(.q 0 (.q 1 (.q 2 (.q 3 (.q 4 (.q 5 (.q 6 (.q 7 (.q 8 (.e 9 (.q 10 (.q 11 (.q 12 (.q 13 (.q 16 (.q 17 (.e 14 (.q 15 (.q 18 (.q 19 .done))))))))))))))))))))) mixed hs319 (fun u hu => hu) (by kernel_rfl) ?_))
 intro w348 hs349
 refine t_fr (k:=0) (v:=.pointer (some ⟨g21,0,none⟩)) rfl (fun w _ => (x_move (.tmp rfl hρ317))) ?_
 refine t_fr (k:=1) (v:=.pointer (some ⟨g21,0,none⟩)) rfl (fun w _ => (x_nilCheck (.tmp rfl rfl))) ?_
 refine t_st (k:=2) (v:=.pointer (some ⟨g21,0 + 1,none⟩)) rfl rfl (fun w hs => (fa88_1 (.tmp rfl rfl))) ?_
 refine t_st (k:=3) (v:=.int .i64 (atOf n11 cur3 bad3)) rfl rfl (fun w hs => (ld3 (.tmp rfl rfl) (hs.cell 0 rfl (0 + 1) rfl))) ?_
 refine t_st (k:=4) (v:=.slice A10 n11 c12) rfl rfl (fun w hs => (x_move (.tmp rfl hρ316))) ?_
 refine t_st (k:=5) (v:=.int .i64 ((n11:Nat):Int)) rfl rfl (fun w hs => (x_len (n:=n11) Try.underlying33 (.tmp rfl rfl))) ?_
 refine t_st (k:=6) (v:=.bool (decide (((atOf n11 cur3 bad3):Int) ≠ ((n11:Nat):Int)))) rfl rfl (fun w hs => (x_neq (k:=.i64) (a:=(atOf n11 cur3 bad3)) (b:=((n11:Nat):Int)) (.tmp rfl rfl) (.tmp rfl rfl))) ?_
 refine t_st (k:=7) (v:=.bool (decide (((atOf n11 cur3 bad3):Int) ≠ ((n11:Nat):Int)))) rfl rfl (fun w hs => (x_move (.tmp rfl rfl))) ?_
 rcases Bool.eq_false_or_eq_true (decide (((atOf n11 cur3 bad3):Int) ≠ ((n11:Nat):Int))) with hc350 | hc350
 have hp350:((atOf n11 cur3 bad3):Int) ≠ ((n11:Nat):Int):=of_decide_eq_true hc350
 refine t_no (k:=8) rfl (yk 124 true rfl rfl hc350) rfl ?_
 refine t_eff (k:=9) rfl ?_
 refine g_no (yk 124 true rfl rfl hc350) rfl ?_
 refine t_new (S':=fun u => St H73 u (obj g21 88 [.slice A10 n11 c12,.int .i64 (atOf n11 cur3 bad3)]::obj g36 30 [.int .u8 ((g3.Kind:Nat):Int),.int .i64 g3.From,.int .u64 ((g3.ID.N:Nat):Int),.int .i64 g3.ID.P,.int .u16 ((g3.Set:Nat):Int),.int .u64 ((g3.Cur.N:Nat):Int),.int .i64 g3.Cur.P,.int .u64 ((g3.Prom.N:Nat):Int),.int .i64 g3.Prom.P,.slice A333 n334 c335,.int .u64 ((g3.Base:Nat):Int),.slice A338 n339 c340,.slice A342 n343 c344,.int .u64 ((g3.Ack:Nat):Int),.int .u64 ((g3.Safe:Nat):Int)]::obj g1 30 [.int .u8 0,.int .i64 0,.int .u64 0,.int .i64 0,.int .u16 0,.int .u64 0,.int .i64 0,.int .u64 0,.int .i64 0,.slice none 0 0,.int .u64 0,.slice none 0 0,.slice none 0 0,.int .u64 0,.int .u64 0]::L)) rfl hs349 ?_
 refine t_no (k:=10) rfl (yk 124 true rfl rfl hc350) rfl ?_
 refine t_st (k:=11) (v:=.bool true) rfl rfl (fun w hs => (x_pick_t (.tmp rfl (congrArg Value.bool hc350)) .const)) ?_
 refine t_st (k:=12) (v:=.bool true) rfl rfl (fun w hs => (x_move (.tmp rfl rfl))) ?_
 refine t_no (k:=13) rfl (yl (dj:=129) (b:=true) rfl rfl rfl) rfl ?_
 refine t_no (k:=16) rfl (yl (dj:=129) (b:=true) rfl rfl rfl) rfl ?_
 refine t_no (k:=17) rfl (yl (dj:=129) (b:=true) rfl rfl rfl) rfl ?_
 refine t_eff (k:=14) rfl ?_
 refine g_no (yl (dj:=129) (b:=true) rfl rfl rfl) rfl ?_
 refine t_on (S':=fun u => St H73 u (obj g21 88 [.slice A10 n11 c12,.int .i64 (atOf n11 cur3 bad3)]::obj g36 30 [.int .u8 ((g3.Kind:Nat):Int),.int .i64 g3.From,.int .u64 ((g3.ID.N:Nat):Int),.int .i64 g3.ID.P,.int .u16 ((g3.Set:Nat):Int),.int .u64 ((g3.Cur.N:Nat):Int),.int .i64 g3.Cur.P,.int .u64 ((g3.Prom.N:Nat):Int),.int .i64 g3.Prom.P,.slice A333 n334 c335,.int .u64 ((g3.Base:Nat):Int),.slice A338 n339 c340,.slice A342 n343 c344,.int .u64 ((g3.Ack:Nat):Int),.int .u64 ((g3.Safe:Nat):Int)]::obj g1 30 [.int .u8 0,.int .i64 0,.int .u64 0,.int .i64 0,.int .u16 0,.int .u64 0,.int .i64 0,.int .u64 0,.int .i64 0,.slice none 0 0,.int .u64 0,.slice none 0 0,.slice none 0 0,.int .u64 0,.int .u64 0]::L)) (fun u hu => hu) hs349 ?_
 refine t_no (k:=15) rfl (yl (dj:=129) (b:=true) rfl rfl rfl) rfl ?_
 refine t_no (k:=18) rfl (yl (dj:=129) (b:=true) rfl rfl rfl) rfl ?_
 refine t_st (k:=19) (v:=.bool true) rfl rfl (fun w hs => (x_pick_t (.tmp rfl rfl) .const)) ?_
 refine t_nil ?_
 refine n_then (c_cond_t (t:=true) (.tmp rfl rfl) rfl ?_)
 refine c_seq (c_region (st (v:=.agg #[.int .u8 0,.int .i64 0,.int .u64 0,.int .i64 0,.int .u16 0,.int .u64 0,.int .i64 0,.int .u64 0,.int .i64 0,.slice none 0 0,.int .u64 0,.slice none 0 0,.slice none 0 0,.int .u64 0,.int .u64 0]) (bl30 (ps:=[]) Evp.nil rfl) ?_))
 have hs351:=hs349.p2
 refine st_m0 (sto30 (cs':=[.int .u8 0,.int .i64 0,.int .u64 0,.int .i64 0,.int .u16 0,.int .u64 0,.int .i64 0,.int .u64 0,.int .i64 0,.slice none 0 0,.int .u64 0,.slice none 0 0,.slice none 0 0,.int .u64 0,.int .u64 0]) (i:=0) hs351 (v:=.agg #[.int .u8 0,.int .i64 0,.int .u64 0,.int .i64 0,.int .u16 0,.int .u64 0,.int .i64 0,.int .u64 0,.int .i64 0,.slice none 0 0,.int .u64 0,.slice none 0 0,.slice none 0 0,.int .u64 0,.int .u64 0]) (.tmp rfl hρ315) (.tmp rfl rfl) rfl (Nat.le_of_ble_eq_true rfl) (oneA rfl) rfl) ?_
 rintro w352 hs354
 refine st (v:=.int .i64 3) (x_assign .const) ?_
 refine c_nil (n_then (c_ret (r_then (leave_ret (res_two (v:=.agg #[.int .u8 0,.int .i64 0,.int .u64 0,.int .i64 0,.int .u16 0,.int .u64 0,.int .i64 0,.int .u64 0,.int .i64 0,.slice none 0 0,.int .u64 0,.slice none 0 0,.slice none 0 0,.int .u64 0,.int .u64 0]) (u:=.int .i64 3) rfl (.mkCell rfl hρ315 (lv30 (cs:=[.int .u8 0,.int .i64 0,.int .u64 0,.int .i64 0,.int .u16 0,.int .u64 0,.int .i64 0,.int .u64 0,.int .i64 0,.slice none 0 0,.int .u64 0,.slice none 0 0,.slice none 0 0,.int .u64 0,.int .u64 0]) (hs354.at_ 0 rfl 0 rfl) rfl)) (.mk rfl rfl)) ?_))))
 have hre:=refA_read (by omega) (Classical.not_not.1 hp16) hd3
 have hans355:refA b = (zF,3):=hre.trans (refF_at (at_not hl3 hp350))
 rw [hans355]
 exact ⟨H73,[.int .u8 0,.int .i64 0,.int .u64 0,.int .i64 0,.int .u16 0,.int .u64 0,.int .i64 0,.int .u64 0,.int .i64 0,.slice none 0 0,.int .u64 0,.slice none 0 0,.slice none 0 0,.int .u64 0,.int .u64 0],hg74,rfl,⟨none,0,0,none,0,0,none,0,0,rfl,(show 0 < 256 from by omega),(show IB 0 from ⟨by omega,by omega⟩),(show 0 < 18446744073709551616 from by omega),(show IB 0 from ⟨by omega,by omega⟩),(show 0 < 65536 from by omega),(show 0 < 18446744073709551616 from by omega),(show IB 0 from ⟨by omega,by omega⟩),(show 0 < 18446744073709551616 from by omega),(show IB 0 from ⟨by omega,by omega⟩),(Sl.nil _ _ none),(show 0 < 18446744073709551616 from by omega),(Sl.nil _ _ none),(Sl.nil _ _ none),(show 0 < 18446744073709551616 from by omega),(show 0 < 18446744073709551616 from by omega)⟩,hs354.drop.drop.drop⟩
 have hp350:¬ (((atOf n11 cur3 bad3):Int) ≠ ((n11:Nat):Int)):=of_decide_eq_false hc350
 refine t_yes (k:=8) (v:=.agg #[.int .u8 ((g3.Kind:Nat):Int),.int .i64 g3.From,.int .u64 ((g3.ID.N:Nat):Int),.int .i64 g3.ID.P,.int .u16 ((g3.Set:Nat):Int),.int .u64 ((g3.Cur.N:Nat):Int),.int .i64 g3.Cur.P,.int .u64 ((g3.Prom.N:Nat):Int),.int .i64 g3.Prom.P,.slice A333 n334 c335,.int .u64 ((g3.Base:Nat):Int),.slice A338 n339 c340,.slice A342 n343 c344,.int .u64 ((g3.Ack:Nat):Int),.int .u64 ((g3.Safe:Nat):Int)]) rfl rfl (yk 124 false rfl rfl hc350) (fun w hs => (ld30 (cs:=[.int .u8 ((g3.Kind:Nat):Int),.int .i64 g3.From,.int .u64 ((g3.ID.N:Nat):Int),.int .i64 g3.ID.P,.int .u16 ((g3.Set:Nat):Int),.int .u64 ((g3.Cur.N:Nat):Int),.int .i64 g3.Cur.P,.int .u64 ((g3.Prom.N:Nat):Int),.int .i64 g3.Prom.P,.slice A333 n334 c335,.int .u64 ((g3.Base:Nat):Int),.slice A338 n339 c340,.slice A342 n343 c344,.int .u64 ((g3.Ack:Nat):Int),.int .u64 ((g3.Safe:Nat):Int)]) (.tmp rfl hρ318) (hs.at_ 1 rfl (0) rfl) rfl)) ?_
 refine t_eff (k:=9) rfl ?_
 refine g_yes (yk 124 false rfl rfl hc350) ?_
 have hr356:kFrame.rep H73 g3 [.int .u8 ((g3.Kind:Nat):Int),.int .i64 g3.From,.int .u64 ((g3.ID.N:Nat):Int),.int .i64 g3.ID.P,.int .u16 ((g3.Set:Nat):Int),.int .u64 ((g3.Cur.N:Nat):Int),.int .i64 g3.Cur.P,.int .u64 ((g3.Prom.N:Nat):Int),.int .i64 g3.Prom.P,.slice A333 n334 c335,.int .u64 ((g3.Base:Nat):Int),.slice A338 n339 c340,.slice A342 n343 c344,.int .u64 ((g3.Ack:Nat):Int),.int .u64 ((g3.Safe:Nat):Int)]:=⟨A333,n334,c335,A338,n339,c340,A342,n343,c344,rfl,b320,⟨b321,b322⟩,b323,⟨b324,b325⟩,b326,b327,⟨b328,b329⟩,b330,⟨b331,b332⟩,hl336,b337,hl341,hl345,b346,b347⟩
 refine st_c cb12 .func (evs1 (.tmp rfl rfl)) (rform_frame hs349 g3 hr356 ) ?_
 rintro e w357 ⟨rfl,hs358⟩
 refine ⟨_,rfl,?_⟩
 refine t_new (S':=fun u => St H73 u (obj g21 88 [.slice A10 n11 c12,.int .i64 (atOf n11 cur3 bad3)]::obj g36 30 [.int .u8 ((g3.Kind:Nat):Int),.int .i64 g3.From,.int .u64 ((g3.ID.N:Nat):Int),.int .i64 g3.ID.P,.int .u16 ((g3.Set:Nat):Int),.int .u64 ((g3.Cur.N:Nat):Int),.int .i64 g3.Cur.P,.int .u64 ((g3.Prom.N:Nat):Int),.int .i64 g3.Prom.P,.slice A333 n334 c335,.int .u64 ((g3.Base:Nat):Int),.slice A338 n339 c340,.slice A342 n343 c344,.int .u64 ((g3.Ack:Nat):Int),.int .u64 ((g3.Safe:Nat):Int)]::obj g1 30 [.int .u8 0,.int .i64 0,.int .u64 0,.int .i64 0,.int .u16 0,.int .u64 0,.int .i64 0,.int .u64 0,.int .i64 0,.slice none 0 0,.int .u64 0,.slice none 0 0,.slice none 0 0,.int .u64 0,.int .u64 0]::L)) rfl hs358 ?_
 refine t_yes (k:=10) (v:=.bool (!(formC g3))) rfl rfl (yk 124 false rfl rfl hc350) (fun w hs => (x_not (.tmp rfl rfl))) ?_
 refine t_st (k:=11) (v:=.bool (!(formC g3))) rfl rfl (fun w hs => (x_pick_f (.tmp rfl (congrArg Value.bool hc350)) (.tmp rfl rfl))) ?_
 refine t_st (k:=12) (v:=.bool (!(formC g3))) rfl rfl (fun w hs => (x_move (.tmp rfl rfl))) ?_
 rcases Bool.eq_false_or_eq_true (formC g3) with hc359 | hc359
 refine t_yes (k:=13) (v:=.agg #[.int .u8 ((g3.Kind:Nat):Int),.int .i64 g3.From,.int .u64 ((g3.ID.N:Nat):Int),.int .i64 g3.ID.P,.int .u16 ((g3.Set:Nat):Int),.int .u64 ((g3.Cur.N:Nat):Int),.int .i64 g3.Cur.P,.int .u64 ((g3.Prom.N:Nat):Int),.int .i64 g3.Prom.P,.slice A333 n334 c335,.int .u64 ((g3.Base:Nat):Int),.slice A338 n339 c340,.slice A342 n343 c344,.int .u64 ((g3.Ack:Nat):Int),.int .u64 ((g3.Safe:Nat):Int)]) rfl rfl (yl (dj:=129) (b:=false) rfl rfl (congrArg Value.bool (by rw [hc359]; rfl))) (fun w hs => (ld30 (cs:=[.int .u8 ((g3.Kind:Nat):Int),.int .i64 g3.From,.int .u64 ((g3.ID.N:Nat):Int),.int .i64 g3.ID.P,.int .u16 ((g3.Set:Nat):Int),.int .u64 ((g3.Cur.N:Nat):Int),.int .i64 g3.Cur.P,.int .u64 ((g3.Prom.N:Nat):Int),.int .i64 g3.Prom.P,.slice A333 n334 c335,.int .u64 ((g3.Base:Nat):Int),.slice A338 n339 c340,.slice A342 n343 c344,.int .u64 ((g3.Ack:Nat):Int),.int .u64 ((g3.Safe:Nat):Int)]) (.tmp rfl hρ318) (hs.at_ 1 rfl (0) rfl) rfl)) ?_
 refine t_yes (k:=16) (v:=.slice A_b n_b c_b) rfl rfl (yl (dj:=129) (b:=false) rfl rfl (congrArg Value.bool (by rw [hc359]; rfl))) (fun w hs => (x_move (.tmp rfl hρ314))) ?_
 refine t_yes (k:=17) (v:=.string (bstr b)) rfl rfl (yl (dj:=129) (b:=false) rfl rfl (congrArg Value.bool (by rw [hc359]; rfl))) (fun w hs => ((h_b.toBs.mono hg74).str Try.underlying33 Try.underlying5 Try.underlying9 hs (.tmp rfl rfl))) ?_
 refine t_eff (k:=14) rfl ?_
 refine g_yes (yl (dj:=129) (b:=false) rfl rfl (congrArg Value.bool (by rw [hc359]; rfl))) ?_
 have hr360:kFrame.rep H73 g3 [.int .u8 ((g3.Kind:Nat):Int),.int .i64 g3.From,.int .u64 ((g3.ID.N:Nat):Int),.int .i64 g3.ID.P,.int .u16 ((g3.Set:Nat):Int),.int .u64 ((g3.Cur.N:Nat):Int),.int .i64 g3.Cur.P,.int .u64 ((g3.Prom.N:Nat):Int),.int .i64 g3.Prom.P,.slice A333 n334 c335,.int .u64 ((g3.Base:Nat):Int),.slice A338 n339 c340,.slice A342 n343 c344,.int .u64 ((g3.Ack:Nat):Int),.int .u64 ((g3.Safe:Nat):Int)]:=⟨A333,n334,c335,A338,n339,c340,A342,n343,c344,rfl,b320,⟨b321,b322⟩,b323,⟨b324,b325⟩,b326,b327,⟨b328,b329⟩,b330,⟨b331,b332⟩,hl336,b337,hl341,hl345,b346,b347⟩
 have hbg:=ref_big (openL_small h_b.lt) hd3 (at_end hl3 hp350).1
 have hfk:=form_kind hc359
 have hfk:=form_kind hc359
 refine st_c cb16 .func (evs1 (.tmp rfl rfl)) (rencode_spec hs358 g3 hr360 (Nat.le_trans hbg.2 (by omega)) hfk.1 hfk.2) ?_
 rintro e w361 ⟨H363,v365,hle364,rfl,sm368,ok366,hs362⟩
 refine ⟨_,rfl,?_⟩
 refine t_on (S':=fun u => St H363 u (row 5 1 v365 ((seal_ (bodyE g3)).length) ((seal_ (bodyE g3)).map encB)::obj g21 88 [.slice A10 n11 c12,.int .i64 (atOf n11 cur3 bad3)]::obj g36 30 [.int .u8 ((g3.Kind:Nat):Int),.int .i64 g3.From,.int .u64 ((g3.ID.N:Nat):Int),.int .i64 g3.ID.P,.int .u16 ((g3.Set:Nat):Int),.int .u64 ((g3.Cur.N:Nat):Int),.int .i64 g3.Cur.P,.int .u64 ((g3.Prom.N:Nat):Int),.int .i64 g3.Prom.P,.slice A333 n334 c335,.int .u64 ((g3.Base:Nat):Int),.slice A338 n339 c340,.slice A342 n343 c344,.int .u64 ((g3.Ack:Nat):Int),.int .u64 ((g3.Safe:Nat):Int)]::obj g1 30 [.int .u8 0,.int .i64 0,.int .u64 0,.int .i64 0,.int .u16 0,.int .u64 0,.int .i64 0,.int .u64 0,.int .i64 0,.slice none 0 0,.int .u64 0,.slice none 0 0,.slice none 0 0,.int .u64 0,.int .u64 0]::L)) (fun u hu => hu.drop.weaken hle364) hs362 ?_
 refine t_yes (k:=15) (v:=.string (bstr (seal_ (bodyE g3)))) rfl rfl (yl (dj:=129) (b:=false) rfl rfl (congrArg Value.bool (by rw [hc359]; rfl))) (fun w hs => (hs.rowStr Try.underlying33 Try.underlying5 Try.underlying9 0 rfl ok366 (.tmp rfl rfl))) ?_
 refine t_yes (k:=18) (v:=.bool (!decide ((bstr (seal_ (bodyE g3))) = (bstr b)))) rfl rfl (yl (dj:=129) (b:=false) rfl rfl (congrArg Value.bool (by rw [hc359]; rfl))) (fun w hs => (x_neqS (.tmp rfl rfl) (.tmp rfl rfl))) ?_
 refine t_st (k:=19) (v:=.bool (!decide ((bstr (seal_ (bodyE g3))) = (bstr b)))) rfl rfl (fun w hs => (x_pick_f (.tmp rfl (congrArg Value.bool (by rw [hc359]; rfl))) (.tmp rfl rfl))) ?_
 refine t_nil ?_
 refine n_then ?_
 rcases Bool.eq_false_or_eq_true (decide ((bstr (seal_ (bodyE g3))) = (bstr b))) with hc369 | hc369
 have hp369:(bstr (seal_ (bodyE g3))) = (bstr b):=of_decide_eq_true hc369
 refine c_cond_f (t:=false) (.tmp rfl (congrArg Value.bool (by rw [hc369]; rfl))) rfl ?_
 refine c_skip (n_then (c_seq (c_region (st (v:=.agg #[.int .u8 ((g3.Kind:Nat):Int),.int .i64 g3.From,.int .u64 ((g3.ID.N:Nat):Int),.int .i64 g3.ID.P,.int .u16 ((g3.Set:Nat):Int),.int .u64 ((g3.Cur.N:Nat):Int),.int .i64 g3.Cur.P,.int .u64 ((g3.Prom.N:Nat):Int),.int .i64 g3.Prom.P,.slice A333 n334 c335,.int .u64 ((g3.Base:Nat):Int),.slice A338 n339 c340,.slice A342 n343 c344,.int .u64 ((g3.Ack:Nat):Int),.int .u64 ((g3.Safe:Nat):Int)]) (ld30 (cs:=[.int .u8 ((g3.Kind:Nat):Int),.int .i64 g3.From,.int .u64 ((g3.ID.N:Nat):Int),.int .i64 g3.ID.P,.int .u16 ((g3.Set:Nat):Int),.int .u64 ((g3.Cur.N:Nat):Int),.int .i64 g3.Cur.P,.int .u64 ((g3.Prom.N:Nat):Int),.int .i64 g3.Prom.P,.slice A333 n334 c335,.int .u64 ((g3.Base:Nat):Int),.slice A338 n339 c340,.slice A342 n343 c344,.int .u64 ((g3.Ack:Nat):Int),.int .u64 ((g3.Safe:Nat):Int)]) (.tmp rfl hρ318) (hs362.at_ 2 rfl (0) rfl) rfl) ?_))))
 have hs370:=hs362.p3
 refine st_m0 (sto30 (cs':=[.int .u8 ((g3.Kind:Nat):Int),.int .i64 g3.From,.int .u64 ((g3.ID.N:Nat):Int),.int .i64 g3.ID.P,.int .u16 ((g3.Set:Nat):Int),.int .u64 ((g3.Cur.N:Nat):Int),.int .i64 g3.Cur.P,.int .u64 ((g3.Prom.N:Nat):Int),.int .i64 g3.Prom.P,.slice A333 n334 c335,.int .u64 ((g3.Base:Nat):Int),.slice A338 n339 c340,.slice A342 n343 c344,.int .u64 ((g3.Ack:Nat):Int),.int .u64 ((g3.Safe:Nat):Int)]) (i:=0) hs370 (v:=.agg #[.int .u8 ((g3.Kind:Nat):Int),.int .i64 g3.From,.int .u64 ((g3.ID.N:Nat):Int),.int .i64 g3.ID.P,.int .u16 ((g3.Set:Nat):Int),.int .u64 ((g3.Cur.N:Nat):Int),.int .i64 g3.Cur.P,.int .u64 ((g3.Prom.N:Nat):Int),.int .i64 g3.Prom.P,.slice A333 n334 c335,.int .u64 ((g3.Base:Nat):Int),.slice A338 n339 c340,.slice A342 n343 c344,.int .u64 ((g3.Ack:Nat):Int),.int .u64 ((g3.Safe:Nat):Int)]) (.tmp rfl hρ315) (.tmp rfl rfl) rfl (Nat.le_of_ble_eq_true rfl) (oneA rfl) rfl) ?_
 rintro w371 hs373
 refine st (v:=.int .i64 0) (x_assign .const) ?_
 refine c_nil (n_then (c_ret (leave_ret (res_two (v:=.agg #[.int .u8 ((g3.Kind:Nat):Int),.int .i64 g3.From,.int .u64 ((g3.ID.N:Nat):Int),.int .i64 g3.ID.P,.int .u16 ((g3.Set:Nat):Int),.int .u64 ((g3.Cur.N:Nat):Int),.int .i64 g3.Cur.P,.int .u64 ((g3.Prom.N:Nat):Int),.int .i64 g3.Prom.P,.slice A333 n334 c335,.int .u64 ((g3.Base:Nat):Int),.slice A338 n339 c340,.slice A342 n343 c344,.int .u64 ((g3.Ack:Nat):Int),.int .u64 ((g3.Safe:Nat):Int)]) (u:=.int .i64 0) rfl (.mkCell rfl hρ315 (lv30 (cs:=[.int .u8 ((g3.Kind:Nat):Int),.int .i64 g3.From,.int .u64 ((g3.ID.N:Nat):Int),.int .i64 g3.ID.P,.int .u16 ((g3.Set:Nat):Int),.int .u64 ((g3.Cur.N:Nat):Int),.int .i64 g3.Cur.P,.int .u64 ((g3.Prom.N:Nat):Int),.int .i64 g3.Prom.P,.slice A333 n334 c335,.int .u64 ((g3.Base:Nat):Int),.slice A338 n339 c340,.slice A342 n343 c344,.int .u64 ((g3.Ack:Nat):Int),.int .u64 ((g3.Safe:Nat):Int)]) (hs373.at_ 0 rfl 0 rfl) rfl)) (.mk rfl rfl)) ?_)))
 have hre:=refA_read (by omega) (Classical.not_not.1 hp16) hd3
 have hans374:refA b = (g3,0):=hre.trans (refF_yes (at_end hl3 hp350) hc359 ((bstr_inj sm368 h_b.lt).1 (of_decide_eq_true hc369)))
 rw [hans374]
 exact ⟨H363,[.int .u8 ((g3.Kind:Nat):Int),.int .i64 g3.From,.int .u64 ((g3.ID.N:Nat):Int),.int .i64 g3.ID.P,.int .u16 ((g3.Set:Nat):Int),.int .u64 ((g3.Cur.N:Nat):Int),.int .i64 g3.Cur.P,.int .u64 ((g3.Prom.N:Nat):Int),.int .i64 g3.Prom.P,.slice A333 n334 c335,.int .u64 ((g3.Base:Nat):Int),.slice A338 n339 c340,.slice A342 n343 c344,.int .u64 ((g3.Ack:Nat):Int),.int .u64 ((g3.Safe:Nat):Int)],(hg74.trans hle364),rfl,⟨A333,n334,c335,A338,n339,c340,A342,n343,c344,rfl,b320,⟨b321,b322⟩,b323,⟨b324,b325⟩,b326,b327,⟨b328,b329⟩,b330,⟨b331,b332⟩,(hl336.mono hle364),b337,(hl341.mono hle364),(hl345.mono hle364),b346,b347⟩,hs373.drop.drop.drop.drop⟩
 have hp369:¬ ((bstr (seal_ (bodyE g3))) = (bstr b)):=of_decide_eq_false hc369
 refine c_cond_t (t:=true) (.tmp rfl (congrArg Value.bool (by rw [hc369]; rfl))) rfl ?_
 refine c_seq (c_region (st (v:=.agg #[.int .u8 0,.int .i64 0,.int .u64 0,.int .i64 0,.int .u16 0,.int .u64 0,.int .i64 0,.int .u64 0,.int .i64 0,.slice none 0 0,.int .u64 0,.slice none 0 0,.slice none 0 0,.int .u64 0,.int .u64 0]) (bl30 (ps:=[]) Evp.nil rfl) ?_))
 have hs375:=hs362.p3
 refine st_m0 (sto30 (cs':=[.int .u8 0,.int .i64 0,.int .u64 0,.int .i64 0,.int .u16 0,.int .u64 0,.int .i64 0,.int .u64 0,.int .i64 0,.slice none 0 0,.int .u64 0,.slice none 0 0,.slice none 0 0,.int .u64 0,.int .u64 0]) (i:=0) hs375 (v:=.agg #[.int .u8 0,.int .i64 0,.int .u64 0,.int .i64 0,.int .u16 0,.int .u64 0,.int .i64 0,.int .u64 0,.int .i64 0,.slice none 0 0,.int .u64 0,.slice none 0 0,.slice none 0 0,.int .u64 0,.int .u64 0]) (.tmp rfl hρ315) (.tmp rfl rfl) rfl (Nat.le_of_ble_eq_true rfl) (oneA rfl) rfl) ?_
 rintro w376 hs378
 refine st (v:=.int .i64 3) (x_assign .const) ?_
 refine c_nil (n_then (c_ret (r_then (leave_ret (res_two (v:=.agg #[.int .u8 0,.int .i64 0,.int .u64 0,.int .i64 0,.int .u16 0,.int .u64 0,.int .i64 0,.int .u64 0,.int .i64 0,.slice none 0 0,.int .u64 0,.slice none 0 0,.slice none 0 0,.int .u64 0,.int .u64 0]) (u:=.int .i64 3) rfl (.mkCell rfl hρ315 (lv30 (cs:=[.int .u8 0,.int .i64 0,.int .u64 0,.int .i64 0,.int .u16 0,.int .u64 0,.int .i64 0,.int .u64 0,.int .i64 0,.slice none 0 0,.int .u64 0,.slice none 0 0,.slice none 0 0,.int .u64 0,.int .u64 0]) (hs378.at_ 0 rfl 0 rfl) rfl)) (.mk rfl rfl)) ?_))))
 have hre:=refA_read (by omega) (Classical.not_not.1 hp16) hd3
 have hans379:refA b = (zF,3):=hre.trans (refF_enc (fun h9 => of_decide_eq_false hc369 (congrArg bstr h9)))
 rw [hans379]
 exact ⟨H363,[.int .u8 0,.int .i64 0,.int .u64 0,.int .i64 0,.int .u16 0,.int .u64 0,.int .i64 0,.int .u64 0,.int .i64 0,.slice none 0 0,.int .u64 0,.slice none 0 0,.slice none 0 0,.int .u64 0,.int .u64 0],(hg74.trans hle364),rfl,⟨none,0,0,none,0,0,none,0,0,rfl,(show 0 < 256 from by omega),(show IB 0 from ⟨by omega,by omega⟩),(show 0 < 18446744073709551616 from by omega),(show IB 0 from ⟨by omega,by omega⟩),(show 0 < 65536 from by omega),(show 0 < 18446744073709551616 from by omega),(show IB 0 from ⟨by omega,by omega⟩),(show 0 < 18446744073709551616 from by omega),(show IB 0 from ⟨by omega,by omega⟩),(Sl.nil _ _ none),(show 0 < 18446744073709551616 from by omega),(Sl.nil _ _ none),(Sl.nil _ _ none),(show 0 < 18446744073709551616 from by omega),(show 0 < 18446744073709551616 from by omega)⟩,hs378.drop.drop.drop.drop⟩
 refine t_no (k:=13) rfl (yl (dj:=129) (b:=true) rfl rfl (congrArg Value.bool (by rw [hc359]; rfl))) rfl ?_
 refine t_no (k:=16) rfl (yl (dj:=129) (b:=true) rfl rfl (congrArg Value.bool (by rw [hc359]; rfl))) rfl ?_
 refine t_no (k:=17) rfl (yl (dj:=129) (b:=true) rfl rfl (congrArg Value.bool (by rw [hc359]; rfl))) rfl ?_
 refine t_eff (k:=14) rfl ?_
 refine g_no (yl (dj:=129) (b:=true) rfl rfl (congrArg Value.bool (by rw [hc359]; rfl))) rfl ?_
 refine t_on (S':=fun u => St H73 u (obj g21 88 [.slice A10 n11 c12,.int .i64 (atOf n11 cur3 bad3)]::obj g36 30 [.int .u8 ((g3.Kind:Nat):Int),.int .i64 g3.From,.int .u64 ((g3.ID.N:Nat):Int),.int .i64 g3.ID.P,.int .u16 ((g3.Set:Nat):Int),.int .u64 ((g3.Cur.N:Nat):Int),.int .i64 g3.Cur.P,.int .u64 ((g3.Prom.N:Nat):Int),.int .i64 g3.Prom.P,.slice A333 n334 c335,.int .u64 ((g3.Base:Nat):Int),.slice A338 n339 c340,.slice A342 n343 c344,.int .u64 ((g3.Ack:Nat):Int),.int .u64 ((g3.Safe:Nat):Int)]::obj g1 30 [.int .u8 0,.int .i64 0,.int .u64 0,.int .i64 0,.int .u16 0,.int .u64 0,.int .i64 0,.int .u64 0,.int .i64 0,.slice none 0 0,.int .u64 0,.slice none 0 0,.slice none 0 0,.int .u64 0,.int .u64 0]::L)) (fun u hu => hu) hs358 ?_
 refine t_no (k:=15) rfl (yl (dj:=129) (b:=true) rfl rfl (congrArg Value.bool (by rw [hc359]; rfl))) rfl ?_
 refine t_no (k:=18) rfl (yl (dj:=129) (b:=true) rfl rfl (congrArg Value.bool (by rw [hc359]; rfl))) rfl ?_
 refine t_st (k:=19) (v:=.bool true) rfl rfl (fun w hs => (x_pick_t (.tmp rfl (congrArg Value.bool (by rw [hc359]; rfl))) .const)) ?_
 refine t_nil ?_
 refine n_then (c_cond_t (t:=true) (.tmp rfl rfl) rfl ?_)
 refine c_seq (c_region (st (v:=.agg #[.int .u8 0,.int .i64 0,.int .u64 0,.int .i64 0,.int .u16 0,.int .u64 0,.int .i64 0,.int .u64 0,.int .i64 0,.slice none 0 0,.int .u64 0,.slice none 0 0,.slice none 0 0,.int .u64 0,.int .u64 0]) (bl30 (ps:=[]) Evp.nil rfl) ?_))
 have hs380:=hs358.p2
 refine st_m0 (sto30 (cs':=[.int .u8 0,.int .i64 0,.int .u64 0,.int .i64 0,.int .u16 0,.int .u64 0,.int .i64 0,.int .u64 0,.int .i64 0,.slice none 0 0,.int .u64 0,.slice none 0 0,.slice none 0 0,.int .u64 0,.int .u64 0]) (i:=0) hs380 (v:=.agg #[.int .u8 0,.int .i64 0,.int .u64 0,.int .i64 0,.int .u16 0,.int .u64 0,.int .i64 0,.int .u64 0,.int .i64 0,.slice none 0 0,.int .u64 0,.slice none 0 0,.slice none 0 0,.int .u64 0,.int .u64 0]) (.tmp rfl hρ315) (.tmp rfl rfl) rfl (Nat.le_of_ble_eq_true rfl) (oneA rfl) rfl) ?_
 rintro w381 hs383
 refine st (v:=.int .i64 3) (x_assign .const) ?_
 refine c_nil (n_then (c_ret (r_then (leave_ret (res_two (v:=.agg #[.int .u8 0,.int .i64 0,.int .u64 0,.int .i64 0,.int .u16 0,.int .u64 0,.int .i64 0,.int .u64 0,.int .i64 0,.slice none 0 0,.int .u64 0,.slice none 0 0,.slice none 0 0,.int .u64 0,.int .u64 0]) (u:=.int .i64 3) rfl (.mkCell rfl hρ315 (lv30 (cs:=[.int .u8 0,.int .i64 0,.int .u64 0,.int .i64 0,.int .u16 0,.int .u64 0,.int .i64 0,.int .u64 0,.int .i64 0,.slice none 0 0,.int .u64 0,.slice none 0 0,.slice none 0 0,.int .u64 0,.int .u64 0]) (hs383.at_ 0 rfl 0 rfl) rfl)) (.mk rfl rfl)) ?_))))
 have hre:=refA_read (by omega) (Classical.not_not.1 hp16) hd3
 have hans384:refA b = (zF,3):=hre.trans (refF_form hc359)
 rw [hans384]
 exact ⟨H73,[.int .u8 0,.int .i64 0,.int .u64 0,.int .i64 0,.int .u16 0,.int .u64 0,.int .i64 0,.int .u64 0,.int .i64 0,.slice none 0 0,.int .u64 0,.slice none 0 0,.slice none 0 0,.int .u64 0,.int .u64 0],hg74,rfl,⟨none,0,0,none,0,0,none,0,0,rfl,(show 0 < 256 from by omega),(show IB 0 from ⟨by omega,by omega⟩),(show 0 < 18446744073709551616 from by omega),(show IB 0 from ⟨by omega,by omega⟩),(show 0 < 65536 from by omega),(show 0 < 18446744073709551616 from by omega),(show IB 0 from ⟨by omega,by omega⟩),(show 0 < 18446744073709551616 from by omega),(show IB 0 from ⟨by omega,by omega⟩),(Sl.nil _ _ none),(show 0 < 18446744073709551616 from by omega),(Sl.nil _ _ none),(Sl.nil _ _ none),(show 0 < 18446744073709551616 from by omega),(show 0 < 18446744073709551616 from by omega)⟩,hs383.drop.drop.drop⟩
 have hp56:¬ ((((q29.1:Nat):Int):Int) ≠ 1):=of_decide_eq_false hc56
 refine c_cond_f (t:=false) (.tmp rfl (congrArg Value.bool hc56)) rfl ?_
 refine c_skip (n_then ?_)
 refine c_cut (fun ρ w => ∃ (H385:Hp) (g3:GFrame) (cs3:List Value) (cur3:List Nat) (bad3:Bool),ρ 0 = .slice A_b n_b c_b∧ρ 2 = .pointer (some ⟨g1,0,none⟩)∧ρ 4 = .slice A10 n11 c12∧ρ 6 = .pointer (some ⟨g21,0,none⟩)∧ρ 7 = .pointer (some ⟨g36,0,none⟩)∧(H.le H385)∧(Bs H385 A10 n11 c12 (openL b).1)∧(Suf (openL b).1 cur3)∧(cur3.length ≤ n11)∧(kFrame.rep H385 g3 cs3)∧(rdP (openL b).1 = (g3,(cur3,bad3)))∧St H385 w (obj g21 88 [.slice A10 n11 c12,.int .i64 (atOf n11 cur3 bad3)]::obj g36 30 cs3::obj g1 30 [.int .u8 0,.int .i64 0,.int .u64 0,.int .i64 0,.int .u16 0,.int .u64 0,.int .i64 0,.int .u64 0,.int .i64 0,.slice none 0 0,.int .u64 0,.slice none 0 0,.slice none 0 0,.int .u64 0,.int .u64 0]::L)) ?_ ?_
 refine c_seq (c_region (st (v:=.pointer (some ⟨g36,0 + 0,none⟩)) (fa30_0 (.tmp rfl rfl)) ?_))
 refine st (v:=.int .u8 ((q29.1:Nat):Int)) (ld5 (.tmp rfl rfl) (hs55.cell 0 rfl (0 + 0) rfl)) ?_
 refine c_nil (n_then (c_block (c_seq (c_region (st (v:=.bool (decide ((((q29.1:Nat):Int):Int) = 1))) (x_eql (k:=.u8) (a:=((q29.1:Nat):Int)) (b:=1) (.tmp rfl rfl) .const) ?_)))))
 refine st (v:=.bool (decide ((((q29.1:Nat):Int):Int) = 1))) (x_assign (.tmp rfl rfl)) ?_
 refine c_nil (n_then ?_)
 have hc387:(decide ((((q29.1:Nat):Int):Int) = 1)) = true:=(decide_eq_true (by omega))
 refine c_cond_t (t:=true) (.tmp rfl (congrArg Value.bool hc387)) rfl ?_
 refine c_seq (c_region (st (v:=.pointer (some ⟨g21,0,none⟩)) (x_move (.tmp rfl rfl)) ?_))
 have hs388:=hs55.p1
 refine st_c cb49 .func (evs1 (.tmp rfl rfl)) (rvdec_spec hs388 hp14 hf49 (by omega) ) ?_
 rintro e w390 ⟨cs392,q389,rfl,hr393,hq394,hf395,hs391⟩
 obtain ⟨rfl,b396,⟨b397,b398⟩⟩:=hr393
 refine ⟨_,rfl,?_⟩
 have hl399:q389.2.1.length ≤ n11:=by have h1:=Suf.len hf395; have h2:=hp14.len; omega
 have:=atOf_bound (n:=n11) (cur:=q389.2.1) (bad:=q389.2.2) hl399
 refine st (v:=.pointer (some ⟨g36,0 + 5,none⟩)) (fa30_4 (.tmp rfl rfl)) ?_
 have hs400:=hs391.p1
 refine st_m0 (sto24 (cs':=[.int .u8 ((q29.1:Nat):Int),.int .i64 ((q46.1:Nat):Int),.int .u64 0,.int .i64 0,.int .u16 0,.int .u64 ((q389.1.N:Nat):Int),.int .i64 q389.1.P,.int .u64 0,.int .i64 0,.slice none 0 0,.int .u64 0,.slice none 0 0,.slice none 0 0,.int .u64 0,.int .u64 0]) (i:=0 + 5) hs400 (v:=.agg #[.int .u64 ((q389.1.N:Nat):Int),.int .i64 q389.1.P]) (.tmp rfl rfl) (.tmp rfl rfl) rfl (Nat.le_of_ble_eq_true rfl) (oneA rfl) rfl) ?_
 rintro w401 hs403
 refine c_nil (n_then (c_region (st (v:=.pointer (some ⟨g21,0,none⟩)) (x_move (.tmp rfl rfl)) ?_)))
 have hs404:=hs403.p1
 refine st_c cb49 .func (evs1 (.tmp rfl rfl)) (rvdec_spec hs404 hp14 hf395 (by omega) ) ?_
 rintro e w406 ⟨cs408,q405,rfl,hr409,hq410,hf411,hs407⟩
 obtain ⟨rfl,b412,⟨b413,b414⟩⟩:=hr409
 refine ⟨_,rfl,?_⟩
 have hl415:q405.2.1.length ≤ n11:=by have h1:=Suf.len hf411; have h2:=hp14.len; omega
 have:=atOf_bound (n:=n11) (cur:=q405.2.1) (bad:=q405.2.2) hl415
 refine st (v:=.pointer (some ⟨g36,0 + 7,none⟩)) (fa30_5 (.tmp rfl rfl)) ?_
 have hs416:=hs407.p1
 refine st_m0 (sto24 (cs':=[.int .u8 ((q29.1:Nat):Int),.int .i64 ((q46.1:Nat):Int),.int .u64 0,.int .i64 0,.int .u16 0,.int .u64 ((q389.1.N:Nat):Int),.int .i64 q389.1.P,.int .u64 ((q405.1.N:Nat):Int),.int .i64 q405.1.P,.slice none 0 0,.int .u64 0,.slice none 0 0,.slice none 0 0,.int .u64 0,.int .u64 0]) (i:=0 + 7) hs416 (v:=.agg #[.int .u64 ((q405.1.N:Nat):Int),.int .i64 q405.1.P]) (.tmp rfl rfl) (.tmp rfl rfl) rfl (Nat.le_of_ble_eq_true rfl) (oneA rfl) rfl) ?_
 rintro w417 hs419
 refine c_nil (n_block ?_)
 have hd1:=ref_head hq30 hq47
 have hd:=ref_1 hd1 (by omega) hq394 hq410
 exact n_then ⟨_,rfl,H,(GFrame.mk q29.1 ((q46.1:Nat):Int) (GViewID.mk 0 0) 0 q389.1 q405.1 [] 0 [] [] 0 0),[.int .u8 ((q29.1:Nat):Int),.int .i64 ((q46.1:Nat):Int),.int .u64 0,.int .i64 0,.int .u16 0,.int .u64 ((q389.1.N:Nat):Int),.int .i64 q389.1.P,.int .u64 ((q405.1.N:Nat):Int),.int .i64 q405.1.P,.slice none 0 0,.int .u64 0,.slice none 0 0,.slice none 0 0,.int .u64 0,.int .u64 0],q405.2.1,q405.2.2,rfl,rfl,rfl,rfl,rfl,(Hp.le.refl _),hp14,hf411,hl415,⟨none,0,0,none,0,0,none,0,0,rfl,hb35,(show IB ((q46.1:Nat):Int) from ⟨by omega,by omega⟩),(show 0 < 18446744073709551616 from by omega),(show IB 0 from ⟨by omega,by omega⟩),(show 0 < 65536 from by omega),b396,⟨b397,b398⟩,b412,⟨b413,b414⟩,(Sl.nil _ _ none),(show 0 < 18446744073709551616 from by omega),(Sl.nil _ _ none),(Sl.nil _ _ none),(show 0 < 18446744073709551616 from by omega),(show 0 < 18446744073709551616 from by omega)⟩,hd,(((hs419.p2).p1).p2)⟩
 rintro ρ w ⟨H385,g3,cs3,cur3,bad3,hρ420,hρ421,hρ422,hρ423,hρ424,hg386,hp3,hf3,hl3,hr3,hd3,hs425⟩
 obtain ⟨A439,n440,c441,A444,n445,c446,A448,n449,c450,rfl,b426,⟨b427,b428⟩,b429,⟨b430,b431⟩,b432,b433,⟨b434,b435⟩,b436,⟨b437,b438⟩,hl442,b443,hl447,hl451,b452,b453⟩:=hr3
 have:=hl442.len; have:n440 * 48 ≤ 140737488351232:=hl442.bnd; have:=hl442.le
 have:=hl447.len; have:n445 * 24 ≤ 140737488351232:=hl447.bnd; have:=hl447.le
 have:=hl451.len; have:n449 * 32 ≤ 140737488351232:=hl451.bnd; have:=hl451.le
 have hbl:=openL_le b; have hbl9:b.length = n_b:=h_b.len
 refine c_seq (c_seq (t_region (L:=obj g21 88 [.slice A10 n11 c12,.int .i64 (atOf n11 cur3 bad3)]::obj g36 30 [.int .u8 ((g3.Kind:Nat):Int),.int .i64 g3.From,.int .u64 ((g3.ID.N:Nat):Int),.int .i64 g3.ID.P,.int .u16 ((g3.Set:Nat):Int),.int .u64 ((g3.Cur.N:Nat):Int),.int .i64 g3.Cur.P,.int .u64 ((g3.Prom.N:Nat):Int),.int .i64 g3.Prom.P,.slice A439 n440 c441,.int .u64 ((g3.Base:Nat):Int),.slice A444 n445 c446,.slice A448 n449 c450,.int .u64 ((g3.Ack:Nat):Int),.int .u64 ((g3.Safe:Nat):Int)]::obj g1 30 [.int .u8 0,.int .i64 0,.int .u64 0,.int .i64 0,.int .u16 0,.int .u64 0,.int .i64 0,.int .u64 0,.int .i64 0,.slice none 0 0,.int .u64 0,.slice none 0 0,.slice none 0 0,.int .u64 0,.int .u64 0]::L) (L':=obj g21 88 [.slice A10 n11 c12,.int .i64 (atOf n11 cur3 bad3)]::obj g36 30 [.int .u8 ((g3.Kind:Nat):Int),.int .i64 g3.From,.int .u64 ((g3.ID.N:Nat):Int),.int .i64 g3.ID.P,.int .u16 ((g3.Set:Nat):Int),.int .u64 ((g3.Cur.N:Nat):Int),.int .i64 g3.Cur.P,.int .u64 ((g3.Prom.N:Nat):Int),.int .i64 g3.Prom.P,.slice A439 n440 c441,.int .u64 ((g3.Base:Nat):Int),.slice A444 n445 c446,.slice A448 n449 c450,.int .u64 ((g3.Ack:Nat):Int),.int .u64 ((g3.Safe:Nat):Int)]::obj g1 30 [.int .u8 0,.int .i64 0,.int .u64 0,.int .i64 0,.int .u16 0,.int .u64 0,.int .i64 0,.int .u64 0,.int .i64 0,.slice none 0 0,.int .u64 0,.slice none 0 0,.slice none 0 0,.int .u64 0,.int .u64 0]::L) (Z:=[9]) (F:=[0,1]) (pl:=(.q 0 (.q 1 (.q 2 (.q 3 (.q 4 (.q 5 (.q 6 (.q 7 (.q 8 (.e 9 (.q 10 (.q 11 (.q 12 (.q 13 (.q 16 (.q 17 (.e 14 (.q 15 (.q 18 (.q 19 .done))))))))))))))))))))) mixed hs425 (fun u hu => hu) (by kernel_rfl) ?_))
 intro w454 hs455
 refine t_fr (k:=0) (v:=.pointer (some ⟨g21,0,none⟩)) rfl (fun w _ => (x_move (.tmp rfl hρ423))) ?_
 refine t_fr (k:=1) (v:=.pointer (some ⟨g21,0,none⟩)) rfl (fun w _ => (x_nilCheck (.tmp rfl rfl))) ?_
 refine t_st (k:=2) (v:=.pointer (some ⟨g21,0 + 1,none⟩)) rfl rfl (fun w hs => (fa88_1 (.tmp rfl rfl))) ?_
 refine t_st (k:=3) (v:=.int .i64 (atOf n11 cur3 bad3)) rfl rfl (fun w hs => (ld3 (.tmp rfl rfl) (hs.cell 0 rfl (0 + 1) rfl))) ?_
 refine t_st (k:=4) (v:=.slice A10 n11 c12) rfl rfl (fun w hs => (x_move (.tmp rfl hρ422))) ?_
 refine t_st (k:=5) (v:=.int .i64 ((n11:Nat):Int)) rfl rfl (fun w hs => (x_len (n:=n11) Try.underlying33 (.tmp rfl rfl))) ?_
 refine t_st (k:=6) (v:=.bool (decide (((atOf n11 cur3 bad3):Int) ≠ ((n11:Nat):Int)))) rfl rfl (fun w hs => (x_neq (k:=.i64) (a:=(atOf n11 cur3 bad3)) (b:=((n11:Nat):Int)) (.tmp rfl rfl) (.tmp rfl rfl))) ?_
 refine t_st (k:=7) (v:=.bool (decide (((atOf n11 cur3 bad3):Int) ≠ ((n11:Nat):Int)))) rfl rfl (fun w hs => (x_move (.tmp rfl rfl))) ?_
 rcases Bool.eq_false_or_eq_true (decide (((atOf n11 cur3 bad3):Int) ≠ ((n11:Nat):Int))) with hc456 | hc456
 have hp456:((atOf n11 cur3 bad3):Int) ≠ ((n11:Nat):Int):=of_decide_eq_true hc456
 refine t_no (k:=8) rfl (yk 124 true rfl rfl hc456) rfl ?_
 refine t_eff (k:=9) rfl ?_
 refine g_no (yk 124 true rfl rfl hc456) rfl ?_
 refine t_new (S':=fun u => St H385 u (obj g21 88 [.slice A10 n11 c12,.int .i64 (atOf n11 cur3 bad3)]::obj g36 30 [.int .u8 ((g3.Kind:Nat):Int),.int .i64 g3.From,.int .u64 ((g3.ID.N:Nat):Int),.int .i64 g3.ID.P,.int .u16 ((g3.Set:Nat):Int),.int .u64 ((g3.Cur.N:Nat):Int),.int .i64 g3.Cur.P,.int .u64 ((g3.Prom.N:Nat):Int),.int .i64 g3.Prom.P,.slice A439 n440 c441,.int .u64 ((g3.Base:Nat):Int),.slice A444 n445 c446,.slice A448 n449 c450,.int .u64 ((g3.Ack:Nat):Int),.int .u64 ((g3.Safe:Nat):Int)]::obj g1 30 [.int .u8 0,.int .i64 0,.int .u64 0,.int .i64 0,.int .u16 0,.int .u64 0,.int .i64 0,.int .u64 0,.int .i64 0,.slice none 0 0,.int .u64 0,.slice none 0 0,.slice none 0 0,.int .u64 0,.int .u64 0]::L)) rfl hs455 ?_
 refine t_no (k:=10) rfl (yk 124 true rfl rfl hc456) rfl ?_
 refine t_st (k:=11) (v:=.bool true) rfl rfl (fun w hs => (x_pick_t (.tmp rfl (congrArg Value.bool hc456)) .const)) ?_
 refine t_st (k:=12) (v:=.bool true) rfl rfl (fun w hs => (x_move (.tmp rfl rfl))) ?_
 refine t_no (k:=13) rfl (yl (dj:=129) (b:=true) rfl rfl rfl) rfl ?_
 refine t_no (k:=16) rfl (yl (dj:=129) (b:=true) rfl rfl rfl) rfl ?_
 refine t_no (k:=17) rfl (yl (dj:=129) (b:=true) rfl rfl rfl) rfl ?_
 refine t_eff (k:=14) rfl ?_
 refine g_no (yl (dj:=129) (b:=true) rfl rfl rfl) rfl ?_
 refine t_on (S':=fun u => St H385 u (obj g21 88 [.slice A10 n11 c12,.int .i64 (atOf n11 cur3 bad3)]::obj g36 30 [.int .u8 ((g3.Kind:Nat):Int),.int .i64 g3.From,.int .u64 ((g3.ID.N:Nat):Int),.int .i64 g3.ID.P,.int .u16 ((g3.Set:Nat):Int),.int .u64 ((g3.Cur.N:Nat):Int),.int .i64 g3.Cur.P,.int .u64 ((g3.Prom.N:Nat):Int),.int .i64 g3.Prom.P,.slice A439 n440 c441,.int .u64 ((g3.Base:Nat):Int),.slice A444 n445 c446,.slice A448 n449 c450,.int .u64 ((g3.Ack:Nat):Int),.int .u64 ((g3.Safe:Nat):Int)]::obj g1 30 [.int .u8 0,.int .i64 0,.int .u64 0,.int .i64 0,.int .u16 0,.int .u64 0,.int .i64 0,.int .u64 0,.int .i64 0,.slice none 0 0,.int .u64 0,.slice none 0 0,.slice none 0 0,.int .u64 0,.int .u64 0]::L)) (fun u hu => hu) hs455 ?_
 refine t_no (k:=15) rfl (yl (dj:=129) (b:=true) rfl rfl rfl) rfl ?_
 refine t_no (k:=18) rfl (yl (dj:=129) (b:=true) rfl rfl rfl) rfl ?_
 refine t_st (k:=19) (v:=.bool true) rfl rfl (fun w hs => (x_pick_t (.tmp rfl rfl) .const)) ?_
 refine t_nil ?_
 refine n_then (c_cond_t (t:=true) (.tmp rfl rfl) rfl ?_)
 refine c_seq (c_region (st (v:=.agg #[.int .u8 0,.int .i64 0,.int .u64 0,.int .i64 0,.int .u16 0,.int .u64 0,.int .i64 0,.int .u64 0,.int .i64 0,.slice none 0 0,.int .u64 0,.slice none 0 0,.slice none 0 0,.int .u64 0,.int .u64 0]) (bl30 (ps:=[]) Evp.nil rfl) ?_))
 have hs457:=hs455.p2
 refine st_m0 (sto30 (cs':=[.int .u8 0,.int .i64 0,.int .u64 0,.int .i64 0,.int .u16 0,.int .u64 0,.int .i64 0,.int .u64 0,.int .i64 0,.slice none 0 0,.int .u64 0,.slice none 0 0,.slice none 0 0,.int .u64 0,.int .u64 0]) (i:=0) hs457 (v:=.agg #[.int .u8 0,.int .i64 0,.int .u64 0,.int .i64 0,.int .u16 0,.int .u64 0,.int .i64 0,.int .u64 0,.int .i64 0,.slice none 0 0,.int .u64 0,.slice none 0 0,.slice none 0 0,.int .u64 0,.int .u64 0]) (.tmp rfl hρ421) (.tmp rfl rfl) rfl (Nat.le_of_ble_eq_true rfl) (oneA rfl) rfl) ?_
 rintro w458 hs460
 refine st (v:=.int .i64 3) (x_assign .const) ?_
 refine c_nil (n_then (c_ret (r_then (leave_ret (res_two (v:=.agg #[.int .u8 0,.int .i64 0,.int .u64 0,.int .i64 0,.int .u16 0,.int .u64 0,.int .i64 0,.int .u64 0,.int .i64 0,.slice none 0 0,.int .u64 0,.slice none 0 0,.slice none 0 0,.int .u64 0,.int .u64 0]) (u:=.int .i64 3) rfl (.mkCell rfl hρ421 (lv30 (cs:=[.int .u8 0,.int .i64 0,.int .u64 0,.int .i64 0,.int .u16 0,.int .u64 0,.int .i64 0,.int .u64 0,.int .i64 0,.slice none 0 0,.int .u64 0,.slice none 0 0,.slice none 0 0,.int .u64 0,.int .u64 0]) (hs460.at_ 0 rfl 0 rfl) rfl)) (.mk rfl rfl)) ?_))))
 have hre:=refA_read (by omega) (Classical.not_not.1 hp16) hd3
 have hans461:refA b = (zF,3):=hre.trans (refF_at (at_not hl3 hp456))
 rw [hans461]
 exact ⟨H385,[.int .u8 0,.int .i64 0,.int .u64 0,.int .i64 0,.int .u16 0,.int .u64 0,.int .i64 0,.int .u64 0,.int .i64 0,.slice none 0 0,.int .u64 0,.slice none 0 0,.slice none 0 0,.int .u64 0,.int .u64 0],hg386,rfl,⟨none,0,0,none,0,0,none,0,0,rfl,(show 0 < 256 from by omega),(show IB 0 from ⟨by omega,by omega⟩),(show 0 < 18446744073709551616 from by omega),(show IB 0 from ⟨by omega,by omega⟩),(show 0 < 65536 from by omega),(show 0 < 18446744073709551616 from by omega),(show IB 0 from ⟨by omega,by omega⟩),(show 0 < 18446744073709551616 from by omega),(show IB 0 from ⟨by omega,by omega⟩),(Sl.nil _ _ none),(show 0 < 18446744073709551616 from by omega),(Sl.nil _ _ none),(Sl.nil _ _ none),(show 0 < 18446744073709551616 from by omega),(show 0 < 18446744073709551616 from by omega)⟩,hs460.drop.drop.drop⟩
 have hp456:¬ (((atOf n11 cur3 bad3):Int) ≠ ((n11:Nat):Int)):=of_decide_eq_false hc456
 refine t_yes (k:=8) (v:=.agg #[.int .u8 ((g3.Kind:Nat):Int),.int .i64 g3.From,.int .u64 ((g3.ID.N:Nat):Int),.int .i64 g3.ID.P,.int .u16 ((g3.Set:Nat):Int),.int .u64 ((g3.Cur.N:Nat):Int),.int .i64 g3.Cur.P,.int .u64 ((g3.Prom.N:Nat):Int),.int .i64 g3.Prom.P,.slice A439 n440 c441,.int .u64 ((g3.Base:Nat):Int),.slice A444 n445 c446,.slice A448 n449 c450,.int .u64 ((g3.Ack:Nat):Int),.int .u64 ((g3.Safe:Nat):Int)]) rfl rfl (yk 124 false rfl rfl hc456) (fun w hs => (ld30 (cs:=[.int .u8 ((g3.Kind:Nat):Int),.int .i64 g3.From,.int .u64 ((g3.ID.N:Nat):Int),.int .i64 g3.ID.P,.int .u16 ((g3.Set:Nat):Int),.int .u64 ((g3.Cur.N:Nat):Int),.int .i64 g3.Cur.P,.int .u64 ((g3.Prom.N:Nat):Int),.int .i64 g3.Prom.P,.slice A439 n440 c441,.int .u64 ((g3.Base:Nat):Int),.slice A444 n445 c446,.slice A448 n449 c450,.int .u64 ((g3.Ack:Nat):Int),.int .u64 ((g3.Safe:Nat):Int)]) (.tmp rfl hρ424) (hs.at_ 1 rfl (0) rfl) rfl)) ?_
 refine t_eff (k:=9) rfl ?_
 refine g_yes (yk 124 false rfl rfl hc456) ?_
 have hr462:kFrame.rep H385 g3 [.int .u8 ((g3.Kind:Nat):Int),.int .i64 g3.From,.int .u64 ((g3.ID.N:Nat):Int),.int .i64 g3.ID.P,.int .u16 ((g3.Set:Nat):Int),.int .u64 ((g3.Cur.N:Nat):Int),.int .i64 g3.Cur.P,.int .u64 ((g3.Prom.N:Nat):Int),.int .i64 g3.Prom.P,.slice A439 n440 c441,.int .u64 ((g3.Base:Nat):Int),.slice A444 n445 c446,.slice A448 n449 c450,.int .u64 ((g3.Ack:Nat):Int),.int .u64 ((g3.Safe:Nat):Int)]:=⟨A439,n440,c441,A444,n445,c446,A448,n449,c450,rfl,b426,⟨b427,b428⟩,b429,⟨b430,b431⟩,b432,b433,⟨b434,b435⟩,b436,⟨b437,b438⟩,hl442,b443,hl447,hl451,b452,b453⟩
 refine st_c cb12 .func (evs1 (.tmp rfl rfl)) (rform_frame hs455 g3 hr462 ) ?_
 rintro e w463 ⟨rfl,hs464⟩
 refine ⟨_,rfl,?_⟩
 refine t_new (S':=fun u => St H385 u (obj g21 88 [.slice A10 n11 c12,.int .i64 (atOf n11 cur3 bad3)]::obj g36 30 [.int .u8 ((g3.Kind:Nat):Int),.int .i64 g3.From,.int .u64 ((g3.ID.N:Nat):Int),.int .i64 g3.ID.P,.int .u16 ((g3.Set:Nat):Int),.int .u64 ((g3.Cur.N:Nat):Int),.int .i64 g3.Cur.P,.int .u64 ((g3.Prom.N:Nat):Int),.int .i64 g3.Prom.P,.slice A439 n440 c441,.int .u64 ((g3.Base:Nat):Int),.slice A444 n445 c446,.slice A448 n449 c450,.int .u64 ((g3.Ack:Nat):Int),.int .u64 ((g3.Safe:Nat):Int)]::obj g1 30 [.int .u8 0,.int .i64 0,.int .u64 0,.int .i64 0,.int .u16 0,.int .u64 0,.int .i64 0,.int .u64 0,.int .i64 0,.slice none 0 0,.int .u64 0,.slice none 0 0,.slice none 0 0,.int .u64 0,.int .u64 0]::L)) rfl hs464 ?_
 refine t_yes (k:=10) (v:=.bool (!(formC g3))) rfl rfl (yk 124 false rfl rfl hc456) (fun w hs => (x_not (.tmp rfl rfl))) ?_
 refine t_st (k:=11) (v:=.bool (!(formC g3))) rfl rfl (fun w hs => (x_pick_f (.tmp rfl (congrArg Value.bool hc456)) (.tmp rfl rfl))) ?_
 refine t_st (k:=12) (v:=.bool (!(formC g3))) rfl rfl (fun w hs => (x_move (.tmp rfl rfl))) ?_
 rcases Bool.eq_false_or_eq_true (formC g3) with hc465 | hc465
 refine t_yes (k:=13) (v:=.agg #[.int .u8 ((g3.Kind:Nat):Int),.int .i64 g3.From,.int .u64 ((g3.ID.N:Nat):Int),.int .i64 g3.ID.P,.int .u16 ((g3.Set:Nat):Int),.int .u64 ((g3.Cur.N:Nat):Int),.int .i64 g3.Cur.P,.int .u64 ((g3.Prom.N:Nat):Int),.int .i64 g3.Prom.P,.slice A439 n440 c441,.int .u64 ((g3.Base:Nat):Int),.slice A444 n445 c446,.slice A448 n449 c450,.int .u64 ((g3.Ack:Nat):Int),.int .u64 ((g3.Safe:Nat):Int)]) rfl rfl (yl (dj:=129) (b:=false) rfl rfl (congrArg Value.bool (by rw [hc465]; rfl))) (fun w hs => (ld30 (cs:=[.int .u8 ((g3.Kind:Nat):Int),.int .i64 g3.From,.int .u64 ((g3.ID.N:Nat):Int),.int .i64 g3.ID.P,.int .u16 ((g3.Set:Nat):Int),.int .u64 ((g3.Cur.N:Nat):Int),.int .i64 g3.Cur.P,.int .u64 ((g3.Prom.N:Nat):Int),.int .i64 g3.Prom.P,.slice A439 n440 c441,.int .u64 ((g3.Base:Nat):Int),.slice A444 n445 c446,.slice A448 n449 c450,.int .u64 ((g3.Ack:Nat):Int),.int .u64 ((g3.Safe:Nat):Int)]) (.tmp rfl hρ424) (hs.at_ 1 rfl (0) rfl) rfl)) ?_
 refine t_yes (k:=16) (v:=.slice A_b n_b c_b) rfl rfl (yl (dj:=129) (b:=false) rfl rfl (congrArg Value.bool (by rw [hc465]; rfl))) (fun w hs => (x_move (.tmp rfl hρ420))) ?_
 refine t_yes (k:=17) (v:=.string (bstr b)) rfl rfl (yl (dj:=129) (b:=false) rfl rfl (congrArg Value.bool (by rw [hc465]; rfl))) (fun w hs => ((h_b.toBs.mono hg386).str Try.underlying33 Try.underlying5 Try.underlying9 hs (.tmp rfl rfl))) ?_
 refine t_eff (k:=14) rfl ?_
 refine g_yes (yl (dj:=129) (b:=false) rfl rfl (congrArg Value.bool (by rw [hc465]; rfl))) ?_
 have hr466:kFrame.rep H385 g3 [.int .u8 ((g3.Kind:Nat):Int),.int .i64 g3.From,.int .u64 ((g3.ID.N:Nat):Int),.int .i64 g3.ID.P,.int .u16 ((g3.Set:Nat):Int),.int .u64 ((g3.Cur.N:Nat):Int),.int .i64 g3.Cur.P,.int .u64 ((g3.Prom.N:Nat):Int),.int .i64 g3.Prom.P,.slice A439 n440 c441,.int .u64 ((g3.Base:Nat):Int),.slice A444 n445 c446,.slice A448 n449 c450,.int .u64 ((g3.Ack:Nat):Int),.int .u64 ((g3.Safe:Nat):Int)]:=⟨A439,n440,c441,A444,n445,c446,A448,n449,c450,rfl,b426,⟨b427,b428⟩,b429,⟨b430,b431⟩,b432,b433,⟨b434,b435⟩,b436,⟨b437,b438⟩,hl442,b443,hl447,hl451,b452,b453⟩
 have hbg:=ref_big (openL_small h_b.lt) hd3 (at_end hl3 hp456).1
 have hfk:=form_kind hc465
 have hfk:=form_kind hc465
 refine st_c cb16 .func (evs1 (.tmp rfl rfl)) (rencode_spec hs464 g3 hr466 (Nat.le_trans hbg.2 (by omega)) hfk.1 hfk.2) ?_
 rintro e w467 ⟨H469,v471,hle470,rfl,sm474,ok472,hs468⟩
 refine ⟨_,rfl,?_⟩
 refine t_on (S':=fun u => St H469 u (row 5 1 v471 ((seal_ (bodyE g3)).length) ((seal_ (bodyE g3)).map encB)::obj g21 88 [.slice A10 n11 c12,.int .i64 (atOf n11 cur3 bad3)]::obj g36 30 [.int .u8 ((g3.Kind:Nat):Int),.int .i64 g3.From,.int .u64 ((g3.ID.N:Nat):Int),.int .i64 g3.ID.P,.int .u16 ((g3.Set:Nat):Int),.int .u64 ((g3.Cur.N:Nat):Int),.int .i64 g3.Cur.P,.int .u64 ((g3.Prom.N:Nat):Int),.int .i64 g3.Prom.P,.slice A439 n440 c441,.int .u64 ((g3.Base:Nat):Int),.slice A444 n445 c446,.slice A448 n449 c450,.int .u64 ((g3.Ack:Nat):Int),.int .u64 ((g3.Safe:Nat):Int)]::obj g1 30 [.int .u8 0,.int .i64 0,.int .u64 0,.int .i64 0,.int .u16 0,.int .u64 0,.int .i64 0,.int .u64 0,.int .i64 0,.slice none 0 0,.int .u64 0,.slice none 0 0,.slice none 0 0,.int .u64 0,.int .u64 0]::L)) (fun u hu => hu.drop.weaken hle470) hs468 ?_
 refine t_yes (k:=15) (v:=.string (bstr (seal_ (bodyE g3)))) rfl rfl (yl (dj:=129) (b:=false) rfl rfl (congrArg Value.bool (by rw [hc465]; rfl))) (fun w hs => (hs.rowStr Try.underlying33 Try.underlying5 Try.underlying9 0 rfl ok472 (.tmp rfl rfl))) ?_
 refine t_yes (k:=18) (v:=.bool (!decide ((bstr (seal_ (bodyE g3))) = (bstr b)))) rfl rfl (yl (dj:=129) (b:=false) rfl rfl (congrArg Value.bool (by rw [hc465]; rfl))) (fun w hs => (x_neqS (.tmp rfl rfl) (.tmp rfl rfl))) ?_
 refine t_st (k:=19) (v:=.bool (!decide ((bstr (seal_ (bodyE g3))) = (bstr b)))) rfl rfl (fun w hs => (x_pick_f (.tmp rfl (congrArg Value.bool (by rw [hc465]; rfl))) (.tmp rfl rfl))) ?_
 refine t_nil ?_
 refine n_then ?_
 rcases Bool.eq_false_or_eq_true (decide ((bstr (seal_ (bodyE g3))) = (bstr b))) with hc475 | hc475
 have hp475:(bstr (seal_ (bodyE g3))) = (bstr b):=of_decide_eq_true hc475
 refine c_cond_f (t:=false) (.tmp rfl (congrArg Value.bool (by rw [hc475]; rfl))) rfl ?_
 refine c_skip (n_then (c_seq (c_region (st (v:=.agg #[.int .u8 ((g3.Kind:Nat):Int),.int .i64 g3.From,.int .u64 ((g3.ID.N:Nat):Int),.int .i64 g3.ID.P,.int .u16 ((g3.Set:Nat):Int),.int .u64 ((g3.Cur.N:Nat):Int),.int .i64 g3.Cur.P,.int .u64 ((g3.Prom.N:Nat):Int),.int .i64 g3.Prom.P,.slice A439 n440 c441,.int .u64 ((g3.Base:Nat):Int),.slice A444 n445 c446,.slice A448 n449 c450,.int .u64 ((g3.Ack:Nat):Int),.int .u64 ((g3.Safe:Nat):Int)]) (ld30 (cs:=[.int .u8 ((g3.Kind:Nat):Int),.int .i64 g3.From,.int .u64 ((g3.ID.N:Nat):Int),.int .i64 g3.ID.P,.int .u16 ((g3.Set:Nat):Int),.int .u64 ((g3.Cur.N:Nat):Int),.int .i64 g3.Cur.P,.int .u64 ((g3.Prom.N:Nat):Int),.int .i64 g3.Prom.P,.slice A439 n440 c441,.int .u64 ((g3.Base:Nat):Int),.slice A444 n445 c446,.slice A448 n449 c450,.int .u64 ((g3.Ack:Nat):Int),.int .u64 ((g3.Safe:Nat):Int)]) (.tmp rfl hρ424) (hs468.at_ 2 rfl (0) rfl) rfl) ?_))))
 have hs476:=hs468.p3
 refine st_m0 (sto30 (cs':=[.int .u8 ((g3.Kind:Nat):Int),.int .i64 g3.From,.int .u64 ((g3.ID.N:Nat):Int),.int .i64 g3.ID.P,.int .u16 ((g3.Set:Nat):Int),.int .u64 ((g3.Cur.N:Nat):Int),.int .i64 g3.Cur.P,.int .u64 ((g3.Prom.N:Nat):Int),.int .i64 g3.Prom.P,.slice A439 n440 c441,.int .u64 ((g3.Base:Nat):Int),.slice A444 n445 c446,.slice A448 n449 c450,.int .u64 ((g3.Ack:Nat):Int),.int .u64 ((g3.Safe:Nat):Int)]) (i:=0) hs476 (v:=.agg #[.int .u8 ((g3.Kind:Nat):Int),.int .i64 g3.From,.int .u64 ((g3.ID.N:Nat):Int),.int .i64 g3.ID.P,.int .u16 ((g3.Set:Nat):Int),.int .u64 ((g3.Cur.N:Nat):Int),.int .i64 g3.Cur.P,.int .u64 ((g3.Prom.N:Nat):Int),.int .i64 g3.Prom.P,.slice A439 n440 c441,.int .u64 ((g3.Base:Nat):Int),.slice A444 n445 c446,.slice A448 n449 c450,.int .u64 ((g3.Ack:Nat):Int),.int .u64 ((g3.Safe:Nat):Int)]) (.tmp rfl hρ421) (.tmp rfl rfl) rfl (Nat.le_of_ble_eq_true rfl) (oneA rfl) rfl) ?_
 rintro w477 hs479
 refine st (v:=.int .i64 0) (x_assign .const) ?_
 refine c_nil (n_then (c_ret (leave_ret (res_two (v:=.agg #[.int .u8 ((g3.Kind:Nat):Int),.int .i64 g3.From,.int .u64 ((g3.ID.N:Nat):Int),.int .i64 g3.ID.P,.int .u16 ((g3.Set:Nat):Int),.int .u64 ((g3.Cur.N:Nat):Int),.int .i64 g3.Cur.P,.int .u64 ((g3.Prom.N:Nat):Int),.int .i64 g3.Prom.P,.slice A439 n440 c441,.int .u64 ((g3.Base:Nat):Int),.slice A444 n445 c446,.slice A448 n449 c450,.int .u64 ((g3.Ack:Nat):Int),.int .u64 ((g3.Safe:Nat):Int)]) (u:=.int .i64 0) rfl (.mkCell rfl hρ421 (lv30 (cs:=[.int .u8 ((g3.Kind:Nat):Int),.int .i64 g3.From,.int .u64 ((g3.ID.N:Nat):Int),.int .i64 g3.ID.P,.int .u16 ((g3.Set:Nat):Int),.int .u64 ((g3.Cur.N:Nat):Int),.int .i64 g3.Cur.P,.int .u64 ((g3.Prom.N:Nat):Int),.int .i64 g3.Prom.P,.slice A439 n440 c441,.int .u64 ((g3.Base:Nat):Int),.slice A444 n445 c446,.slice A448 n449 c450,.int .u64 ((g3.Ack:Nat):Int),.int .u64 ((g3.Safe:Nat):Int)]) (hs479.at_ 0 rfl 0 rfl) rfl)) (.mk rfl rfl)) ?_)))
 have hre:=refA_read (by omega) (Classical.not_not.1 hp16) hd3
 have hans480:refA b = (g3,0):=hre.trans (refF_yes (at_end hl3 hp456) hc465 ((bstr_inj sm474 h_b.lt).1 (of_decide_eq_true hc475)))
 rw [hans480]
 exact ⟨H469,[.int .u8 ((g3.Kind:Nat):Int),.int .i64 g3.From,.int .u64 ((g3.ID.N:Nat):Int),.int .i64 g3.ID.P,.int .u16 ((g3.Set:Nat):Int),.int .u64 ((g3.Cur.N:Nat):Int),.int .i64 g3.Cur.P,.int .u64 ((g3.Prom.N:Nat):Int),.int .i64 g3.Prom.P,.slice A439 n440 c441,.int .u64 ((g3.Base:Nat):Int),.slice A444 n445 c446,.slice A448 n449 c450,.int .u64 ((g3.Ack:Nat):Int),.int .u64 ((g3.Safe:Nat):Int)],(hg386.trans hle470),rfl,⟨A439,n440,c441,A444,n445,c446,A448,n449,c450,rfl,b426,⟨b427,b428⟩,b429,⟨b430,b431⟩,b432,b433,⟨b434,b435⟩,b436,⟨b437,b438⟩,(hl442.mono hle470),b443,(hl447.mono hle470),(hl451.mono hle470),b452,b453⟩,hs479.drop.drop.drop.drop⟩
 have hp475:¬ ((bstr (seal_ (bodyE g3))) = (bstr b)):=of_decide_eq_false hc475
 refine c_cond_t (t:=true) (.tmp rfl (congrArg Value.bool (by rw [hc475]; rfl))) rfl ?_
 refine c_seq (c_region (st (v:=.agg #[.int .u8 0,.int .i64 0,.int .u64 0,.int .i64 0,.int .u16 0,.int .u64 0,.int .i64 0,.int .u64 0,.int .i64 0,.slice none 0 0,.int .u64 0,.slice none 0 0,.slice none 0 0,.int .u64 0,.int .u64 0]) (bl30 (ps:=[]) Evp.nil rfl) ?_))
 have hs481:=hs468.p3
 refine st_m0 (sto30 (cs':=[.int .u8 0,.int .i64 0,.int .u64 0,.int .i64 0,.int .u16 0,.int .u64 0,.int .i64 0,.int .u64 0,.int .i64 0,.slice none 0 0,.int .u64 0,.slice none 0 0,.slice none 0 0,.int .u64 0,.int .u64 0]) (i:=0) hs481 (v:=.agg #[.int .u8 0,.int .i64 0,.int .u64 0,.int .i64 0,.int .u16 0,.int .u64 0,.int .i64 0,.int .u64 0,.int .i64 0,.slice none 0 0,.int .u64 0,.slice none 0 0,.slice none 0 0,.int .u64 0,.int .u64 0]) (.tmp rfl hρ421) (.tmp rfl rfl) rfl (Nat.le_of_ble_eq_true rfl) (oneA rfl) rfl) ?_
 rintro w482 hs484
 refine st (v:=.int .i64 3) (x_assign .const) ?_
 refine c_nil (n_then (c_ret (r_then (leave_ret (res_two (v:=.agg #[.int .u8 0,.int .i64 0,.int .u64 0,.int .i64 0,.int .u16 0,.int .u64 0,.int .i64 0,.int .u64 0,.int .i64 0,.slice none 0 0,.int .u64 0,.slice none 0 0,.slice none 0 0,.int .u64 0,.int .u64 0]) (u:=.int .i64 3) rfl (.mkCell rfl hρ421 (lv30 (cs:=[.int .u8 0,.int .i64 0,.int .u64 0,.int .i64 0,.int .u16 0,.int .u64 0,.int .i64 0,.int .u64 0,.int .i64 0,.slice none 0 0,.int .u64 0,.slice none 0 0,.slice none 0 0,.int .u64 0,.int .u64 0]) (hs484.at_ 0 rfl 0 rfl) rfl)) (.mk rfl rfl)) ?_))))
 have hre:=refA_read (by omega) (Classical.not_not.1 hp16) hd3
 have hans485:refA b = (zF,3):=hre.trans (refF_enc (fun h9 => of_decide_eq_false hc475 (congrArg bstr h9)))
 rw [hans485]
 exact ⟨H469,[.int .u8 0,.int .i64 0,.int .u64 0,.int .i64 0,.int .u16 0,.int .u64 0,.int .i64 0,.int .u64 0,.int .i64 0,.slice none 0 0,.int .u64 0,.slice none 0 0,.slice none 0 0,.int .u64 0,.int .u64 0],(hg386.trans hle470),rfl,⟨none,0,0,none,0,0,none,0,0,rfl,(show 0 < 256 from by omega),(show IB 0 from ⟨by omega,by omega⟩),(show 0 < 18446744073709551616 from by omega),(show IB 0 from ⟨by omega,by omega⟩),(show 0 < 65536 from by omega),(show 0 < 18446744073709551616 from by omega),(show IB 0 from ⟨by omega,by omega⟩),(show 0 < 18446744073709551616 from by omega),(show IB 0 from ⟨by omega,by omega⟩),(Sl.nil _ _ none),(show 0 < 18446744073709551616 from by omega),(Sl.nil _ _ none),(Sl.nil _ _ none),(show 0 < 18446744073709551616 from by omega),(show 0 < 18446744073709551616 from by omega)⟩,hs484.drop.drop.drop.drop⟩
 refine t_no (k:=13) rfl (yl (dj:=129) (b:=true) rfl rfl (congrArg Value.bool (by rw [hc465]; rfl))) rfl ?_
 refine t_no (k:=16) rfl (yl (dj:=129) (b:=true) rfl rfl (congrArg Value.bool (by rw [hc465]; rfl))) rfl ?_
 refine t_no (k:=17) rfl (yl (dj:=129) (b:=true) rfl rfl (congrArg Value.bool (by rw [hc465]; rfl))) rfl ?_
 refine t_eff (k:=14) rfl ?_
 refine g_no (yl (dj:=129) (b:=true) rfl rfl (congrArg Value.bool (by rw [hc465]; rfl))) rfl ?_
 refine t_on (S':=fun u => St H385 u (obj g21 88 [.slice A10 n11 c12,.int .i64 (atOf n11 cur3 bad3)]::obj g36 30 [.int .u8 ((g3.Kind:Nat):Int),.int .i64 g3.From,.int .u64 ((g3.ID.N:Nat):Int),.int .i64 g3.ID.P,.int .u16 ((g3.Set:Nat):Int),.int .u64 ((g3.Cur.N:Nat):Int),.int .i64 g3.Cur.P,.int .u64 ((g3.Prom.N:Nat):Int),.int .i64 g3.Prom.P,.slice A439 n440 c441,.int .u64 ((g3.Base:Nat):Int),.slice A444 n445 c446,.slice A448 n449 c450,.int .u64 ((g3.Ack:Nat):Int),.int .u64 ((g3.Safe:Nat):Int)]::obj g1 30 [.int .u8 0,.int .i64 0,.int .u64 0,.int .i64 0,.int .u16 0,.int .u64 0,.int .i64 0,.int .u64 0,.int .i64 0,.slice none 0 0,.int .u64 0,.slice none 0 0,.slice none 0 0,.int .u64 0,.int .u64 0]::L)) (fun u hu => hu) hs464 ?_
 refine t_no (k:=15) rfl (yl (dj:=129) (b:=true) rfl rfl (congrArg Value.bool (by rw [hc465]; rfl))) rfl ?_
 refine t_no (k:=18) rfl (yl (dj:=129) (b:=true) rfl rfl (congrArg Value.bool (by rw [hc465]; rfl))) rfl ?_
 refine t_st (k:=19) (v:=.bool true) rfl rfl (fun w hs => (x_pick_t (.tmp rfl (congrArg Value.bool (by rw [hc465]; rfl))) .const)) ?_
 refine t_nil ?_
 refine n_then (c_cond_t (t:=true) (.tmp rfl rfl) rfl ?_)
 refine c_seq (c_region (st (v:=.agg #[.int .u8 0,.int .i64 0,.int .u64 0,.int .i64 0,.int .u16 0,.int .u64 0,.int .i64 0,.int .u64 0,.int .i64 0,.slice none 0 0,.int .u64 0,.slice none 0 0,.slice none 0 0,.int .u64 0,.int .u64 0]) (bl30 (ps:=[]) Evp.nil rfl) ?_))
 have hs486:=hs464.p2
 refine st_m0 (sto30 (cs':=[.int .u8 0,.int .i64 0,.int .u64 0,.int .i64 0,.int .u16 0,.int .u64 0,.int .i64 0,.int .u64 0,.int .i64 0,.slice none 0 0,.int .u64 0,.slice none 0 0,.slice none 0 0,.int .u64 0,.int .u64 0]) (i:=0) hs486 (v:=.agg #[.int .u8 0,.int .i64 0,.int .u64 0,.int .i64 0,.int .u16 0,.int .u64 0,.int .i64 0,.int .u64 0,.int .i64 0,.slice none 0 0,.int .u64 0,.slice none 0 0,.slice none 0 0,.int .u64 0,.int .u64 0]) (.tmp rfl hρ421) (.tmp rfl rfl) rfl (Nat.le_of_ble_eq_true rfl) (oneA rfl) rfl) ?_
 rintro w487 hs489
 refine st (v:=.int .i64 3) (x_assign .const) ?_
 refine c_nil (n_then (c_ret (r_then (leave_ret (res_two (v:=.agg #[.int .u8 0,.int .i64 0,.int .u64 0,.int .i64 0,.int .u16 0,.int .u64 0,.int .i64 0,.int .u64 0,.int .i64 0,.slice none 0 0,.int .u64 0,.slice none 0 0,.slice none 0 0,.int .u64 0,.int .u64 0]) (u:=.int .i64 3) rfl (.mkCell rfl hρ421 (lv30 (cs:=[.int .u8 0,.int .i64 0,.int .u64 0,.int .i64 0,.int .u16 0,.int .u64 0,.int .i64 0,.int .u64 0,.int .i64 0,.slice none 0 0,.int .u64 0,.slice none 0 0,.slice none 0 0,.int .u64 0,.int .u64 0]) (hs489.at_ 0 rfl 0 rfl) rfl)) (.mk rfl rfl)) ?_))))
 have hre:=refA_read (by omega) (Classical.not_not.1 hp16) hd3
 have hans490:refA b = (zF,3):=hre.trans (refF_form hc465)
 rw [hans490]
 exact ⟨H385,[.int .u8 0,.int .i64 0,.int .u64 0,.int .i64 0,.int .u16 0,.int .u64 0,.int .i64 0,.int .u64 0,.int .i64 0,.slice none 0 0,.int .u64 0,.slice none 0 0,.slice none 0 0,.int .u64 0,.int .u64 0],hg386,rfl,⟨none,0,0,none,0,0,none,0,0,rfl,(show 0 < 256 from by omega),(show IB 0 from ⟨by omega,by omega⟩),(show 0 < 18446744073709551616 from by omega),(show IB 0 from ⟨by omega,by omega⟩),(show 0 < 65536 from by omega),(show 0 < 18446744073709551616 from by omega),(show IB 0 from ⟨by omega,by omega⟩),(show 0 < 18446744073709551616 from by omega),(show IB 0 from ⟨by omega,by omega⟩),(Sl.nil _ _ none),(show 0 < 18446744073709551616 from by omega),(Sl.nil _ _ none),(Sl.nil _ _ none),(show 0 < 18446744073709551616 from by omega),(show 0 < 18446744073709551616 from by omega)⟩,hs489.drop.drop.drop⟩
end Go.Proofs.Ytlfihfmmhhcigaa

set_option linter.unusedVariables false
set_option linter.unusedSimpArgs false
namespace Go.Proofs.Ytlfihfmmhhcigaa
open Go Go.FM Go.Proofs
attribute [local irreducible] wpList wpQuiet wpS Code.wp Calls
set_option maxHeartbeats 8000000 in
theorem awake_spec {H:Hp} {w:World} {L:List Res} (hs:St H w (L)) :Calls Try.prog 11 #[] w (fun e w' => e = .returned (.bool true)∧St H w' (L)):=by
 refine enter (args:=[]) (N:=23) Try.func11 rfl rfl rfl ?_
 refine c_seq (c_region (st (v:=.bool false) (x_assign .const) ?_))
 refine c_nil (n_then (c_seq (c_region (st (v:=.agg #[.int .u8 1,.int .i64 1,.int .u64 0,.int .i64 0,.int .u16 0,.int .u64 0,.int .i64 0,.int .u64 0,.int .i64 0,.slice none 0 0,.int .u64 0,.slice none 0 0,.slice none 0 0,.int .u64 0,.int .u64 0]) (bl30 (ps:=[(0,.int .u8 1),(1,.int .i64 1)]) (.cons .const (.cons .const Evp.nil)) rfl) ?_))))
 have hr1:kFrame.rep H (GFrame.mk 1 1 (GViewID.mk 0 0) 0 (GViewID.mk 0 0) (GViewID.mk 0 0) [] 0 [] [] 0 0) [.int .u8 1,.int .i64 1,.int .u64 0,.int .i64 0,.int .u16 0,.int .u64 0,.int .i64 0,.int .u64 0,.int .i64 0,.slice none 0 0,.int .u64 0,.slice none 0 0,.slice none 0 0,.int .u64 0,.int .u64 0]:=⟨none,0,0,none,0,0,none,0,0,rfl,(show 1 < 256 from by omega),(show IB 1 from ⟨by omega,by omega⟩),(show 0 < 18446744073709551616 from by omega),(show IB 0 from ⟨by omega,by omega⟩),(show 0 < 65536 from by omega),(show 0 < 18446744073709551616 from by omega),(show IB 0 from ⟨by omega,by omega⟩),(show 0 < 18446744073709551616 from by omega),(show IB 0 from ⟨by omega,by omega⟩),(Sl.nil _ _ none),(show 0 < 18446744073709551616 from by omega),(Sl.nil _ _ none),(Sl.nil _ _ none),(show 0 < 18446744073709551616 from by omega),(show 0 < 18446744073709551616 from by omega)⟩
 refine st_c cb13 .func (evs1 (.tmp rfl rfl)) (encode_spec hs (GFrame.mk 1 1 (GViewID.mk 0 0) 0 (GViewID.mk 0 0) (GViewID.mk 0 0) [] 0 [] [] 0 0) hr1 awk_big) ?_
 rintro e w2 ⟨H4,v6,hle5,rfl,sm9,ok7,hs3⟩
 refine ⟨_,rfl,?_⟩
 refine st (v:=.tuple #[v6,.int .i64 ((encC (GFrame.mk 1 1 (GViewID.mk 0 0) 0 (GViewID.mk 0 0) (GViewID.mk 0 0) [] 0 [] [] 0 0)).2)]) (x_move (.tmp rfl rfl)) ?_
 refine st (v:=v6) (x_extract (.tmp rfl rfl) (i:=0) rfl) ?_
 refine st (v:=.int .i64 ((encC (GFrame.mk 1 1 (GViewID.mk 0 0) 0 (GViewID.mk 0 0) (GViewID.mk 0 0) [] 0 [] [] 0 0)).2)) (x_extract (.tmp rfl rfl) (i:=1) rfl) ?_
 refine st (v:=v6) (x_assign (.tmp rfl rfl)) ?_
 refine st (v:=.int .i64 ((encC (GFrame.mk 1 1 (GViewID.mk 0 0) 0 (GViewID.mk 0 0) (GViewID.mk 0 0) [] 0 [] [] 0 0)).2)) (x_assign (.tmp rfl rfl)) ?_
 refine c_nil (n_then (c_seq (c_region ?_)))
 have hal:((encC (GFrame.mk 1 1 (GViewID.mk 0 0) 0 (GViewID.mk 0 0) (GViewID.mk 0 0) [] 0 [] [] 0 0)).1).length = 10:=by rw [awk]; exact awk_len
 obtain ⟨H10,A11,c12,hle13,hs14,rfl,hp15⟩:=hs3.freezeBs ok7 sm9 (by omega)
 have hy16:By H10 A11 (((encC (GFrame.mk 1 1 (GViewID.mk 0 0) 0 (GViewID.mk 0 0) (GViewID.mk 0 0) [] 0 [] [] 0 0)).1).length) c12 ((encC (GFrame.mk 1 1 (GViewID.mk 0 0) 0 (GViewID.mk 0 0) (GViewID.mk 0 0) [] 0 [] [] 0 0)).1):=⟨hp15,by omega⟩
 skip
 refine st (v:=.int .i64 ((encC (GFrame.mk 1 1 (GViewID.mk 0 0) 0 (GViewID.mk 0 0) (GViewID.mk 0 0) [] 0 [] [] 0 0)).2)) (x_move (.tmp rfl rfl)) ?_
 refine st (v:=.bool (decide ((((encC (GFrame.mk 1 1 (GViewID.mk 0 0) 0 (GViewID.mk 0 0) (GViewID.mk 0 0) [] 0 [] [] 0 0)).2):Int) = 0))) (x_eql (k:=.i64) (a:=((encC (GFrame.mk 1 1 (GViewID.mk 0 0) 0 (GViewID.mk 0 0) (GViewID.mk 0 0) [] 0 [] [] 0 0)).2)) (b:=0) (.tmp rfl rfl) .const) ?_
 refine st (v:=.bool (decide ((((encC (GFrame.mk 1 1 (GViewID.mk 0 0) 0 (GViewID.mk 0 0) (GViewID.mk 0 0) [] 0 [] [] 0 0)).2):Int) = 0))) (x_move (.tmp rfl rfl)) ?_
 have hc17:(decide ((((encC (GFrame.mk 1 1 (GViewID.mk 0 0) 0 (GViewID.mk 0 0) (GViewID.mk 0 0) [] 0 [] [] 0 0)).2):Int) = 0)) = true:=(decide_eq_true (by rw [awk]))
 refine g_yes (yk 10 true rfl rfl hc17) ?_
 refine st (v:=.slice A11 (((encC (GFrame.mk 1 1 (GViewID.mk 0 0) 0 (GViewID.mk 0 0) (GViewID.mk 0 0) [] 0 [] [] 0 0)).1).length) c12) (x_move (.tmp rfl rfl)) ?_
 refine g_yes (yk 10 true rfl rfl hc17) ?_
 refine st (v:=.int .i64 (((((encC (GFrame.mk 1 1 (GViewID.mk 0 0) 0 (GViewID.mk 0 0) (GViewID.mk 0 0) [] 0 [] [] 0 0)).1).length):Nat):Int)) (x_len (n:=(((encC (GFrame.mk 1 1 (GViewID.mk 0 0) 0 (GViewID.mk 0 0) (GViewID.mk 0 0) [] 0 [] [] 0 0)).1).length)) Try.underlying33 (.tmp rfl rfl)) ?_
 refine g_yes (yk 10 true rfl rfl hc17) ?_
 refine st (v:=.bool (decide (((((((encC (GFrame.mk 1 1 (GViewID.mk 0 0) 0 (GViewID.mk 0 0) (GViewID.mk 0 0) [] 0 [] [] 0 0)).1).length):Nat):Int):Int) = 10))) (x_eql (k:=.i64) (a:=(((((encC (GFrame.mk 1 1 (GViewID.mk 0 0) 0 (GViewID.mk 0 0) (GViewID.mk 0 0) [] 0 [] [] 0 0)).1).length):Nat):Int)) (b:=10) (.tmp rfl rfl) .const) ?_
 refine st (v:=.bool (decide (((((((encC (GFrame.mk 1 1 (GViewID.mk 0 0) 0 (GViewID.mk 0 0) (GViewID.mk 0 0) [] 0 [] [] 0 0)).1).length):Nat):Int):Int) = 10))) (x_pick_t (.tmp rfl (congrArg Value.bool hc17)) (.tmp rfl rfl)) ?_
 refine st (v:=.bool (decide (((((((encC (GFrame.mk 1 1 (GViewID.mk 0 0) 0 (GViewID.mk 0 0) (GViewID.mk 0 0) [] 0 [] [] 0 0)).1).length):Nat):Int):Int) = 10))) (x_move (.tmp rfl rfl)) ?_
 have hc18:(decide (((((((encC (GFrame.mk 1 1 (GViewID.mk 0 0) 0 (GViewID.mk 0 0) (GViewID.mk 0 0) [] 0 [] [] 0 0)).1).length):Nat):Int):Int) = 10)) = true:=(decide_eq_true (by rw [awk,awk_len]; rfl))
 refine g_yes (yk 15 true rfl rfl hc18) ?_
 refine st (v:=.slice A11 (((encC (GFrame.mk 1 1 (GViewID.mk 0 0) 0 (GViewID.mk 0 0) (GViewID.mk 0 0) [] 0 [] [] 0 0)).1).length) c12) (x_move (.tmp rfl rfl)) ?_
 refine g_yes (yk 15 true rfl rfl hc18) ?_
 have:=hy16.toBs.le
 refine st (v:=.slice A11 6 c12) (bs_h Try.underlying33 inf5 (a:=6) (.tmp rfl rfl) .const (by omega) (by omega)) ?_
 refine g_yes (yk 15 true rfl rfl hc18) ?_
 refine st (v:=.string (bstr (((encC (GFrame.mk 1 1 (GViewID.mk 0 0) 0 (GViewID.mk 0 0) (GViewID.mk 0 0) [] 0 [] [] 0 0)).1).take 6))) ((hy16.toBs.take (k:=6) (by omega)).str Try.underlying33 Try.underlying5 Try.underlying9 hs14 (.tmp rfl rfl)) ?_
 refine g_yes (yk 15 true rfl rfl hc18) ?_
 refine st (v:=.bool (decide ((bstr (((encC (GFrame.mk 1 1 (GViewID.mk 0 0) 0 (GViewID.mk 0 0) (GViewID.mk 0 0) [] 0 [] [] 0 0)).1).take 6)) = (⟨#[1,1,0,0,0,0]⟩)))) (x_eqlS (.tmp rfl rfl) .const) ?_
 refine st (v:=.bool (decide ((bstr (((encC (GFrame.mk 1 1 (GViewID.mk 0 0) 0 (GViewID.mk 0 0) (GViewID.mk 0 0) [] 0 [] [] 0 0)).1).take 6)) = (⟨#[1,1,0,0,0,0]⟩)))) (x_pick_t (.tmp rfl (congrArg Value.bool hc18)) (.tmp rfl rfl)) ?_
 refine st (v:=.bool (decide ((bstr (((encC (GFrame.mk 1 1 (GViewID.mk 0 0) 0 (GViewID.mk 0 0) (GViewID.mk 0 0) [] 0 [] [] 0 0)).1).take 6)) = (⟨#[1,1,0,0,0,0]⟩)))) (x_move (.tmp rfl rfl)) ?_
 have hc19:(decide ((bstr (((encC (GFrame.mk 1 1 (GViewID.mk 0 0) 0 (GViewID.mk 0 0) (GViewID.mk 0 0) [] 0 [] [] 0 0)).1).take 6)) = (⟨#[1,1,0,0,0,0]⟩))) = true:=(decide_eq_true (by rw [awk]; exact congrArg bstr awk_take))
 refine st (v:=.bool true) (x_pick_t (.tmp rfl (congrArg Value.bool hc19)) .const) ?_
 refine st (v:=.bool true) (x_assign (.tmp rfl rfl)) ?_
 refine c_nil (n_then (c_ret (leave_ret (res_one (v:=.bool true) rfl (.mk rfl rfl)) ?_)))
 exact ⟨rfl,(hs14.weaken (hle5.trans hle13))⟩
end Go.Proofs.Ytlfihfmmhhcigaa
