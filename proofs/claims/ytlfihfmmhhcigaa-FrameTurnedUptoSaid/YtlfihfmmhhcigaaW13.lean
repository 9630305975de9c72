/- Steps of the proofs over the functions of this seat, printed by a program (gen.py) and checked by Lean. -/
import Derived.Test.YtlfihfmmhhcigaaW03
import Derived.Test.YtlfihfmmhhcigaaW01
import Derived.Test.YtlfihfmmhhcigaaW00
import Derived.Test.YtlfihfmmhhcigaaW12
import Derived.Test.YtlfihfmmhhcigaaW02
set_option linter.unusedVariables false
set_option linter.unusedSimpArgs false
namespace Go.Proofs.Ytlfihfmmhhcigaa
open Go Go.FM Go.Proofs
attribute [local irreducible] wpList wpQuiet wpS Code.wp Calls
set_option maxHeartbeats 8000000 in
theorem rdecode_spec {H:Hp} {w:World} {L:List Res} (hs:St H w (L)) {A_b:Option Addr} {n_b c_b:Nat} (b:List Nat) (h_b:By H A_b n_b c_b b):Calls Try.prog 18 #[.slice A_b n_b c_b] w (fun e w' => ∃ (H':Hp) (cs0:List Value),H.le H'∧e = .returned (.tuple #[.agg cs0.toArray,.int .i64 ((refA b).2)])∧kFrame.rep H' ((refA b).1) cs0∧St H' w' (L)):=by
 have:=h_b.len; have:=h_b.le; have:=h_b.bnd
 refine enter (args:=[.slice A_b n_b c_b]) (N:=139) Try.func18 rfl rfl rfl ?_
 refine c_seq (c_region (st_m (al30 (cs:=[.int .u8 0,.int .i64 0,.int .u64 0,.int .i64 0,.int .u16 0,.int .u64 0,.int .i64 0,.int .u64 0,.int .i64 0,.slice none 0 0,.int .u64 0,.slice none 0 0,.slice none 0 0,.int .u64 0,.int .u64 0]) hs rfl) ?_))
 rintro _ w2 ⟨g1,rfl,hs4⟩
 refine st (v:=.int .i64 0) (x_assign .const) ?_
 refine c_nil (n_then (c_seq (c_seq (c_region (st (v:=.slice A_b n_b c_b) (x_move (.tmp rfl rfl)) ?_)))))
 refine st (v:=.int .i64 ((n_b:Nat):Int)) (x_len (n:=n_b) Try.underlying33 (.tmp rfl rfl)) ?_
 refine st (v:=.bool (decide ((1048576:Int) < ((n_b:Nat):Int)))) (x_gtr (k:=.i64) (a:=((n_b:Nat):Int)) (b:=1048576) (.tmp rfl rfl) .const) ?_
 refine c_nil (n_then ?_)
 rcases Bool.eq_false_or_eq_true (decide ((1048576:Int) < ((n_b:Nat):Int))) with hc5 | hc5
 have hp5:(1048576:Int) < ((n_b:Nat):Int):=of_decide_eq_true hc5
 refine c_cond_t (t:=true) (.tmp rfl (cVb hc5)) rfl ?_
 refine c_seq (c_region (st (v:=.agg #[.int .u8 0,.int .i64 0,.int .u64 0,.int .i64 0,.int .u16 0,.int .u64 0,.int .i64 0,.int .u64 0,.int .i64 0,.slice none 0 0,.int .u64 0,.slice none 0 0,.slice none 0 0,.int .u64 0,.int .u64 0]) (bl30 (ps:=[]) Evp.nil rfl) ?_))
 refine st_m0 (sto30 (cs':=[.int .u8 0,.int .i64 0,.int .u64 0,.int .i64 0,.int .u16 0,.int .u64 0,.int .i64 0,.int .u64 0,.int .i64 0,.slice none 0 0,.int .u64 0,.slice none 0 0,.slice none 0 0,.int .u64 0,.int .u64 0]) (i:=0) hs4 (v:=.agg #[.int .u8 0,.int .i64 0,.int .u64 0,.int .i64 0,.int .u16 0,.int .u64 0,.int .i64 0,.int .u64 0,.int .i64 0,.slice none 0 0,.int .u64 0,.slice none 0 0,.slice none 0 0,.int .u64 0,.int .u64 0]) (.tmp rfl rfl) (.tmp rfl rfl) rfl (Nat.le_of_ble_eq_true rfl) (oneA rfl) rfl) ?_
 rintro w6 hs8
 refine st (v:=.int .i64 2) (x_assign .const) ?_
 refine c_nil (n_then (c_ret (r_then (leave_ret (res_two (v:=.agg #[.int .u8 0,.int .i64 0,.int .u64 0,.int .i64 0,.int .u16 0,.int .u64 0,.int .i64 0,.int .u64 0,.int .i64 0,.slice none 0 0,.int .u64 0,.slice none 0 0,.slice none 0 0,.int .u64 0,.int .u64 0]) (u:=.int .i64 2) rfl (.mkCell rfl rfl (lv30 (cs:=[.int .u8 0,.int .i64 0,.int .u64 0,.int .i64 0,.int .u16 0,.int .u64 0,.int .i64 0,.int .u64 0,.int .i64 0,.slice none 0 0,.int .u64 0,.slice none 0 0,.slice none 0 0,.int .u64 0,.int .u64 0]) (hs8.at_ 0 rfl 0 rfl) rfl)) (.mk rfl rfl)) ?_))))
 have hans9:refA b = (zF,2):=refA_long (by omega)
 rw [hans9]
 exact ⟨H,[.int .u8 0,.int .i64 0,.int .u64 0,.int .i64 0,.int .u16 0,.int .u64 0,.int .i64 0,.int .u64 0,.int .i64 0,.slice none 0 0,.int .u64 0,.slice none 0 0,.slice none 0 0,.int .u64 0,.int .u64 0],(Hp.le.refl _),rfl,⟨none,0,0,none,0,0,none,0,0,rfl,(show 0 < 256 from by omega),(show IB 0 from ⟨by omega,by omega⟩),(show 0 < 18446744073709551616 from by omega),(show IB 0 from ⟨by omega,by omega⟩),(show 0 < 65536 from by omega),(show 0 < 18446744073709551616 from by omega),(show IB 0 from ⟨by omega,by omega⟩),(show 0 < 18446744073709551616 from by omega),(show IB 0 from ⟨by omega,by omega⟩),(Sl.nil _ _ none),(show 0 < 18446744073709551616 from by omega),(Sl.nil _ _ none),(Sl.nil _ _ none),(show 0 < 18446744073709551616 from by omega),(show 0 < 18446744073709551616 from by omega)⟩,hs8.drop⟩
 have hp5:¬ ((1048576:Int) < ((n_b:Nat):Int)):=of_decide_eq_false hc5
 refine c_cond_f (t:=false) (.tmp rfl (cVb hc5)) rfl ?_
 refine c_skip (n_then (c_seq (c_region (st (v:=.slice A_b n_b c_b) (x_move (.tmp rfl rfl)) ?_))))
 refine st_c cb47 .func (evs1 (.tmp rfl rfl)) (ropen_spec hs4 h_b.toBs (by omega)) ?_
 rintro e w13 ⟨A10,n11,c12,rfl,hp14,hs15⟩
 refine ⟨_,rfl,?_⟩
 refine st (v:=.tuple #[.slice A10 n11 c12,.int .i64 ((openL b).2)]) (x_move (.tmp rfl rfl)) ?_
 refine st (v:=.slice A10 n11 c12) (x_extract (.tmp rfl rfl) (i:=0) rfl) ?_
 refine st (v:=.int .i64 ((openL b).2)) (x_extract (.tmp rfl rfl) (i:=1) rfl) ?_
 refine st (v:=.slice A10 n11 c12) (x_assign (.tmp rfl rfl)) ?_
 refine st (v:=.int .i64 ((openL b).2)) (x_assign (.tmp rfl rfl)) ?_
 refine c_nil (n_then (c_seq (c_seq (c_region (st (v:=.int .i64 ((openL b).2)) (x_move (.tmp rfl rfl)) ?_)))))
 refine st (v:=.bool (decide ((((openL b).2):Int) ≠ 0))) (x_neq (k:=.i64) (a:=((openL b).2)) (b:=0) (.tmp rfl rfl) .const) ?_
 refine c_nil (n_then ?_)
 rcases Bool.eq_false_or_eq_true (decide ((((openL b).2):Int) ≠ 0)) with hc16 | hc16
 have hp16:(((openL b).2):Int) ≠ 0:=of_decide_eq_true hc16
 refine c_cond_t (t:=true) (.tmp rfl (cVb hc16)) rfl ?_
 refine c_seq (c_region (st (v:=.agg #[.int .u8 0,.int .i64 0,.int .u64 0,.int .i64 0,.int .u16 0,.int .u64 0,.int .i64 0,.int .u64 0,.int .i64 0,.slice none 0 0,.int .u64 0,.slice none 0 0,.slice none 0 0,.int .u64 0,.int .u64 0]) (bl30 (ps:=[]) Evp.nil rfl) ?_))
 refine st (v:=.int .i64 ((openL b).2)) (x_move (.tmp rfl rfl)) ?_
 refine st_m0 (sto30 (cs':=[.int .u8 0,.int .i64 0,.int .u64 0,.int .i64 0,.int .u16 0,.int .u64 0,.int .i64 0,.int .u64 0,.int .i64 0,.slice none 0 0,.int .u64 0,.slice none 0 0,.slice none 0 0,.int .u64 0,.int .u64 0]) (i:=0) hs15 (v:=.agg #[.int .u8 0,.int .i64 0,.int .u64 0,.int .i64 0,.int .u16 0,.int .u64 0,.int .i64 0,.int .u64 0,.int .i64 0,.slice none 0 0,.int .u64 0,.slice none 0 0,.slice none 0 0,.int .u64 0,.int .u64 0]) (.tmp rfl rfl) (.tmp rfl rfl) rfl (Nat.le_of_ble_eq_true rfl) (oneA rfl) rfl) ?_
 rintro w17 hs19
 refine st (v:=.int .i64 ((openL b).2)) (x_assign (.tmp rfl rfl)) ?_
 refine c_nil (n_then (c_ret (r_then (leave_ret (res_two (v:=.agg #[.int .u8 0,.int .i64 0,.int .u64 0,.int .i64 0,.int .u16 0,.int .u64 0,.int .i64 0,.int .u64 0,.int .i64 0,.slice none 0 0,.int .u64 0,.slice none 0 0,.slice none 0 0,.int .u64 0,.int .u64 0]) (u:=.int .i64 ((openL b).2)) rfl (.mkCell rfl rfl (lv30 (cs:=[.int .u8 0,.int .i64 0,.int .u64 0,.int .i64 0,.int .u16 0,.int .u64 0,.int .i64 0,.int .u64 0,.int .i64 0,.slice none 0 0,.int .u64 0,.slice none 0 0,.slice none 0 0,.int .u64 0,.int .u64 0]) (hs19.at_ 0 rfl 0 rfl) rfl)) (.mk rfl rfl)) ?_))))
 have hans20:refA b = (zF,(openL b).2):=refA_open (by omega) hp16
 rw [hans20]
 exact ⟨H,[.int .u8 0,.int .i64 0,.int .u64 0,.int .i64 0,.int .u16 0,.int .u64 0,.int .i64 0,.int .u64 0,.int .i64 0,.slice none 0 0,.int .u64 0,.slice none 0 0,.slice none 0 0,.int .u64 0,.int .u64 0],(Hp.le.refl _),rfl,⟨none,0,0,none,0,0,none,0,0,rfl,(show 0 < 256 from by omega),(show IB 0 from ⟨by omega,by omega⟩),(show 0 < 18446744073709551616 from by omega),(show IB 0 from ⟨by omega,by omega⟩),(show 0 < 65536 from by omega),(show 0 < 18446744073709551616 from by omega),(show IB 0 from ⟨by omega,by omega⟩),(show 0 < 18446744073709551616 from by omega),(show IB 0 from ⟨by omega,by omega⟩),(Sl.nil _ _ none),(show 0 < 18446744073709551616 from by omega),(Sl.nil _ _ none),(Sl.nil _ _ none),(show 0 < 18446744073709551616 from by omega),(show 0 < 18446744073709551616 from by omega)⟩,hs19.drop⟩
 have hp16:¬ ((((openL b).2):Int) ≠ 0):=of_decide_eq_false hc16
 refine c_cond_f (t:=false) (.tmp rfl (cVb hc16)) rfl ?_
 refine c_skip (n_then (c_seq (c_region (st (v:=.slice A10 n11 c12) (x_move (.tmp rfl rfl)) ?_))))
 refine st (v:=.agg #[.slice A10 n11 c12,.int .i64 0]) (bl88 (ps:=[(0,.slice A10 n11 c12)]) (.cons (.tmp rfl rfl) Evp.nil) rfl) ?_
 refine st_m (m_box (cs:=[.slice A10 n11 c12,.int .i64 0]) hs15 (v:=.agg #[.slice A10 n11 c12,.int .i64 0]) (.tmp rfl rfl) rfl) ?_
 rintro _ w22 ⟨g21,rfl,hs24⟩
 refine st (v:=.pointer (some ⟨g21,0,none⟩)) (x_assign (.tmp rfl rfl)) ?_
 refine c_nil (n_then (c_seq (c_region ?_)))
 have:=hp14.len; have hol:=openL_le b; have hbl9:b.length = n_b:=h_b.len
 have ha25:atOf n11 (openL b).1 false = 0:=by rw [atOf_false]; omega
 have hs26:=(show ∀ {w:World},St H w (obj g21 88 [.slice A10 n11 c12,.int .i64 0]::obj g1 30 [.int .u8 0,.int .i64 0,.int .u64 0,.int .i64 0,.int .u16 0,.int .u64 0,.int .i64 0,.int .u64 0,.int .i64 0,.slice none 0 0,.int .u64 0,.slice none 0 0,.slice none 0 0,.int .u64 0,.int .u64 0]::L) → St H w (obj g21 88 [.slice A10 n11 c12,.int .i64 (atOf n11 (openL b).1 false)]::obj g1 30 [.int .u8 0,.int .i64 0,.int .u64 0,.int .i64 0,.int .u16 0,.int .u64 0,.int .i64 0,.int .u64 0,.int .i64 0,.slice none 0 0,.int .u64 0,.slice none 0 0,.slice none 0 0,.int .u64 0,.int .u64 0]::L) from fun h9 => by rw [ha25]; exact h9) hs24
 skip
 refine st (v:=.pointer (some ⟨g21,0,none⟩)) (x_move (.tmp rfl rfl)) ?_
 refine st_c cb48 .func (evs2 (.tmp rfl rfl) .const) (rint_r hs26 hp14 (Suf.refl _) (by omega) 7 (by omega) (by omega)) ?_
 rintro e w27 ⟨q29,hq30,hb31,hf32,rfl,hs28⟩
 refine ⟨_,rfl,?_⟩
 have hl34:q29.2.1.length ≤ n11:=by have h1:=Suf.len hf32; have h2:=hp14.len; omega
 have:=atOf_bound (n:=n11) (cur:=q29.2.1) (bad:=q29.2.2) hl34
 have hb35:q29.1 < 256:=by omega
 refine st (v:=.int .u8 ((q29.1:Nat):Int)) (x_conv (k:=.i64) (a:=((q29.1:Nat):Int)) Try.underlying3 Try.underlying5 (.tmp rfl rfl) (wU rfl rfl hb35)) ?_
 refine st (v:=.agg #[.int .u8 ((q29.1:Nat):Int),.int .i64 0,.int .u64 0,.int .i64 0,.int .u16 0,.int .u64 0,.int .i64 0,.int .u64 0,.int .i64 0,.slice none 0 0,.int .u64 0,.slice none 0 0,.slice none 0 0,.int .u64 0,.int .u64 0]) (bl30 (ps:=[(0,.int .u8 ((q29.1:Nat):Int))]) (.cons (.tmp rfl rfl) Evp.nil) rfl) ?_
 refine st_m (al30 (cs:=[.int .u8 0,.int .i64 0,.int .u64 0,.int .i64 0,.int .u16 0,.int .u64 0,.int .i64 0,.int .u64 0,.int .i64 0,.slice none 0 0,.int .u64 0,.slice none 0 0,.slice none 0 0,.int .u64 0,.int .u64 0]) hs28 rfl) ?_
 rintro _ w37 ⟨g36,rfl,hs39⟩
 refine st_m0 (sto30 (cs':=[.int .u8 ((q29.1:Nat):Int),.int .i64 0,.int .u64 0,.int .i64 0,.int .u16 0,.int .u64 0,.int .i64 0,.int .u64 0,.int .i64 0,.slice none 0 0,.int .u64 0,.slice none 0 0,.slice none 0 0,.int .u64 0,.int .u64 0]) (i:=0) hs39 (v:=.agg #[.int .u8 ((q29.1:Nat):Int),.int .i64 0,.int .u64 0,.int .i64 0,.int .u16 0,.int .u64 0,.int .i64 0,.int .u64 0,.int .i64 0,.slice none 0 0,.int .u64 0,.slice none 0 0,.slice none 0 0,.int .u64 0,.int .u64 0]) (.tmp rfl rfl) (.tmp rfl rfl) rfl (Nat.le_of_ble_eq_true rfl) (oneA rfl) rfl) ?_
 rintro w40 hs42
 refine c_nil (n_then (c_seq (c_region (st (v:=.pointer (some ⟨g21,0,none⟩)) (x_move (.tmp rfl rfl)) ?_))))
 have hs43:=hs42.p1
 refine st_c cb48 .func (evs2 (.tmp rfl rfl) .const) (rint_r hs43 hp14 hf32 (by omega) 15 (by omega) (by omega)) ?_
 rintro e w44 ⟨q46,hq47,hb48,hf49,rfl,hs45⟩
 refine ⟨_,rfl,?_⟩
 have hl51:q46.2.1.length ≤ n11:=by have h1:=Suf.len hf49; have h2:=hp14.len; omega
 have:=atOf_bound (n:=n11) (cur:=q46.2.1) (bad:=q46.2.2) hl51
 refine st (v:=.pointer (some ⟨g36,0 + 1,none⟩)) (fa30_1 (.tmp rfl rfl)) ?_
 have hs52:=hs45.p1
 refine st_m0 (sto3 (cs':=[.int .u8 ((q29.1:Nat):Int),.int .i64 ((q46.1:Nat):Int),.int .u64 0,.int .i64 0,.int .u16 0,.int .u64 0,.int .i64 0,.int .u64 0,.int .i64 0,.slice none 0 0,.int .u64 0,.slice none 0 0,.slice none 0 0,.int .u64 0,.int .u64 0]) (i:=0 + 1) hs52 (v:=.int .i64 ((q46.1:Nat):Int)) (.tmp rfl rfl) (.tmp rfl rfl) rfl (Nat.le_of_ble_eq_true rfl) one1 rfl) ?_
 rintro w53 hs55
 refine c_nil (n_then ?_)
 refine c_cut (fun ρ w => ∃ (H56:Hp) (i3:GViewID × List Nat × Bool),ρ 0 = .slice A_b n_b c_b∧ρ 2 = .pointer (some ⟨g1,0,none⟩)∧ρ 4 = .slice A10 n11 c12∧ρ 6 = .pointer (some ⟨g21,0,none⟩)∧ρ 7 = .pointer (some ⟨g36,0,none⟩)∧(H.le H56)∧(Bs H56 A10 n11 c12 (openL b).1)∧(Suf (openL b).1 i3.2.1)∧(i3.2.1.length ≤ n11)∧(q29.1 = 1 → i3 = (GViewID.mk 0 0,q46.2))∧(q29.1 ≠ 1 → i3 = rdVok q46.2.1 q46.2.2)∧(i3.1.N < 18446744073709551616)∧(IB i3.1.P)∧St H56 w (obj g21 88 [.slice A10 n11 c12,.int .i64 (atOf n11 i3.2.1 i3.2.2)]::obj g36 30 [.int .u8 ((q29.1:Nat):Int),.int .i64 ((q46.1:Nat):Int),.int .u64 ((i3.1.N:Nat):Int),.int .i64 i3.1.P,.int .u16 0,.int .u64 0,.int .i64 0,.int .u64 0,.int .i64 0,.slice none 0 0,.int .u64 0,.slice none 0 0,.slice none 0 0,.int .u64 0,.int .u64 0]::obj g1 30 [.int .u8 0,.int .i64 0,.int .u64 0,.int .i64 0,.int .u16 0,.int .u64 0,.int .i64 0,.int .u64 0,.int .i64 0,.slice none 0 0,.int .u64 0,.slice none 0 0,.slice none 0 0,.int .u64 0,.int .u64 0]::L)) ?_ ?_
 refine c_seq (c_region (st (v:=.pointer (some ⟨g36,0 + 0,none⟩)) (fa30_0 (.tmp rfl rfl)) ?_))
 refine st (v:=.int .u8 ((q29.1:Nat):Int)) (ld5 (.tmp rfl rfl) (hs55.cell 0 rfl (0 + 0) rfl)) ?_
 refine st (v:=.bool (decide ((((q29.1:Nat):Int):Int) ≠ 1))) (x_neq (k:=.u8) (a:=((q29.1:Nat):Int)) (b:=1) (.tmp rfl rfl) .const) ?_
 refine c_nil (n_then ?_)
 rcases Bool.eq_false_or_eq_true (decide ((((q29.1:Nat):Int):Int) ≠ 1)) with hc58 | hc58
 have hp58:(((q29.1:Nat):Int):Int) ≠ 1:=of_decide_eq_true hc58
 refine c_cond_t (t:=true) (.tmp rfl (cVb hc58)) rfl ?_
 refine c_region (st (v:=.pointer (some ⟨g21,0,none⟩)) (x_move (.tmp rfl rfl)) ?_)
 have hs59:=hs55.p1
 refine st_c cb49 .func (evs1 (.tmp rfl rfl)) (rvdec_spec hs59 hp14 hf49 (by omega) ) ?_
 rintro e w61 ⟨cs63,q60,rfl,hr64,hq65,hf66,hs62⟩
 obtain ⟨rfl,b67,⟨b68,b69⟩⟩:=hr64
 refine ⟨_,rfl,?_⟩
 have hl70:q60.2.1.length ≤ n11:=by have h1:=Suf.len hf66; have h2:=hp14.len; omega
 have:=atOf_bound (n:=n11) (cur:=q60.2.1) (bad:=q60.2.2) hl70
 refine st (v:=.pointer (some ⟨g36,0 + 2,none⟩)) (fa30_2 (.tmp rfl rfl)) ?_
 have hs71:=hs62.p1
 refine st_m0 (sto24 (cs':=[.int .u8 ((q29.1:Nat):Int),.int .i64 ((q46.1:Nat):Int),.int .u64 ((q60.1.N:Nat):Int),.int .i64 q60.1.P,.int .u16 0,.int .u64 0,.int .i64 0,.int .u64 0,.int .i64 0,.slice none 0 0,.int .u64 0,.slice none 0 0,.slice none 0 0,.int .u64 0,.int .u64 0]) (i:=0 + 2) hs71 (v:=.agg #[.int .u64 ((q60.1.N:Nat):Int),.int .i64 q60.1.P]) (.tmp rfl rfl) (.tmp rfl rfl) rfl (Nat.le_of_ble_eq_true rfl) (oneA rfl) rfl) ?_
 rintro w72 hs74
 refine c_nil ?_
 exact n_then ⟨_,rfl,H,q60,rfl,rfl,rfl,rfl,rfl,(Hp.le.refl _),hp14,hf66,hl70,(fun h => absurd h (by omega)),(fun _ => hq65),b67,⟨b68,b69⟩,(((hs74.p2).p1).p2)⟩
 have hp58:¬ ((((q29.1:Nat):Int):Int) ≠ 1):=of_decide_eq_false hc58
 refine c_cond_f (t:=false) (.tmp rfl (cVb hc58)) rfl ?_
 refine c_skip ?_
 exact n_then ⟨_,rfl,H,(GViewID.mk 0 0,q46.2),rfl,rfl,rfl,rfl,rfl,(Hp.le.refl _),hp14,hf49,hl51,(fun _ => rfl),(fun h => absurd (show q29.1 = 1 by omega) h),(show (0:Nat) < 18446744073709551616 by decide),(show IB 0 from ⟨by decide,by decide⟩),(((hs55.p2).p1).p2)⟩
 rintro ρ w ⟨H56,i3,hρ75,hρ76,hρ77,hρ78,hρ79,hg57,hp1,hf1,hl1,h1i,h2i,hN,hP,hs80⟩
 refine c_cut (fun ρ w => ∃ (H81:Hp) (g3:GFrame) (cs3:List Value) (cur3:List Nat) (bad3:Bool),ρ 0 = .slice A_b n_b c_b∧ρ 2 = .pointer (some ⟨g1,0,none⟩)∧ρ 4 = .slice A10 n11 c12∧ρ 6 = .pointer (some ⟨g21,0,none⟩)∧ρ 7 = .pointer (some ⟨g36,0,none⟩)∧(H56.le H81)∧(Bs H81 A10 n11 c12 (openL b).1)∧(Suf (openL b).1 cur3)∧(cur3.length ≤ n11)∧(kFrame.rep H81 g3 cs3)∧(rdP (openL b).1 = (g3,(cur3,bad3)))∧St H81 w (obj g21 88 [.slice A10 n11 c12,.int .i64 (atOf n11 cur3 bad3)]::obj g36 30 cs3::obj g1 30 [.int .u8 0,.int .i64 0,.int .u64 0,.int .i64 0,.int .u16 0,.int .u64 0,.int .i64 0,.int .u64 0,.int .i64 0,.slice none 0 0,.int .u64 0,.slice none 0 0,.slice none 0 0,.int .u64 0,.int .u64 0]::L)) ?_ ?_
 refine c_seq (c_region (st (v:=.pointer (some ⟨g36,0 + 0,none⟩)) (fa30_0 (.tmp rfl hρ79)) ?_))
 refine st (v:=.int .u8 ((q29.1:Nat):Int)) (ld5 (.tmp rfl rfl) (hs80.cell 1 rfl (0 + 0) rfl)) ?_
 refine c_nil (n_then (c_block (c_seq (c_region (st (v:=.bool (decide ((((q29.1:Nat):Int):Int) = 1))) (x_eql (k:=.u8) (a:=((q29.1:Nat):Int)) (b:=1) (.tmp rfl rfl) .const) ?_)))))
 refine st (v:=.bool (decide ((((q29.1:Nat):Int):Int) = 1))) (x_assign (.tmp rfl rfl)) ?_
 refine c_nil (n_then ?_)
 rcases Bool.eq_false_or_eq_true (decide ((((q29.1:Nat):Int):Int) = 1)) with hc83 | hc83
 have hp83:(((q29.1:Nat):Int):Int) = 1:=of_decide_eq_true hc83
 refine c_cond_t (t:=true) (.tmp rfl (cVb hc83)) rfl ?_
 refine c_seq (c_region (st (v:=.pointer (some ⟨g21,0,none⟩)) (x_move (.tmp rfl hρ78)) ?_))
 refine st_c cb49 .func (evs1 (.tmp rfl rfl)) (rvdec_spec hs80 hp1 hf1 (by omega) ) ?_
 rintro e w85 ⟨cs87,q84,rfl,hr88,hq89,hf90,hs86⟩
 obtain ⟨rfl,b91,⟨b92,b93⟩⟩:=hr88
 refine ⟨_,rfl,?_⟩
 have hl94:q84.2.1.length ≤ n11:=by have h1:=Suf.len hf90; have h2:=hp1.len; omega
 have:=atOf_bound (n:=n11) (cur:=q84.2.1) (bad:=q84.2.2) hl94
 refine st (v:=.pointer (some ⟨g36,0 + 5,none⟩)) (fa30_4 (.tmp rfl hρ79)) ?_
 have hs95:=hs86.p1
 refine st_m0 (sto24 (cs':=[.int .u8 ((q29.1:Nat):Int),.int .i64 ((q46.1:Nat):Int),.int .u64 ((i3.1.N:Nat):Int),.int .i64 i3.1.P,.int .u16 0,.int .u64 ((q84.1.N:Nat):Int),.int .i64 q84.1.P,.int .u64 0,.int .i64 0,.slice none 0 0,.int .u64 0,.slice none 0 0,.slice none 0 0,.int .u64 0,.int .u64 0]) (i:=0 + 5) hs95 (v:=.agg #[.int .u64 ((q84.1.N:Nat):Int),.int .i64 q84.1.P]) (.tmp rfl rfl) (.tmp rfl rfl) rfl (Nat.le_of_ble_eq_true rfl) (oneA rfl) rfl) ?_
 rintro w96 hs98
 refine c_nil (n_then (c_region (st (v:=.pointer (some ⟨g21,0,none⟩)) (x_move (.tmp rfl hρ78)) ?_)))
 have hs99:=hs98.p1
 refine st_c cb49 .func (evs1 (.tmp rfl rfl)) (rvdec_spec hs99 hp1 hf90 (by omega) ) ?_
 rintro e w101 ⟨cs103,q100,rfl,hr104,hq105,hf106,hs102⟩
 obtain ⟨rfl,b107,⟨b108,b109⟩⟩:=hr104
 refine ⟨_,rfl,?_⟩
 have hl110:q100.2.1.length ≤ n11:=by have h1:=Suf.len hf106; have h2:=hp1.len; omega
 have:=atOf_bound (n:=n11) (cur:=q100.2.1) (bad:=q100.2.2) hl110
 refine st (v:=.pointer (some ⟨g36,0 + 7,none⟩)) (fa30_5 (.tmp rfl hρ79)) ?_
 have hs111:=hs102.p1
 refine st_m0 (sto24 (cs':=[.int .u8 ((q29.1:Nat):Int),.int .i64 ((q46.1:Nat):Int),.int .u64 ((i3.1.N:Nat):Int),.int .i64 i3.1.P,.int .u16 0,.int .u64 ((q84.1.N:Nat):Int),.int .i64 q84.1.P,.int .u64 ((q100.1.N:Nat):Int),.int .i64 q100.1.P,.slice none 0 0,.int .u64 0,.slice none 0 0,.slice none 0 0,.int .u64 0,.int .u64 0]) (i:=0 + 7) hs111 (v:=.agg #[.int .u64 ((q100.1.N:Nat):Int),.int .i64 q100.1.P]) (.tmp rfl rfl) (.tmp rfl rfl) rfl (Nat.le_of_ble_eq_true rfl) (oneA rfl) rfl) ?_
 rintro w112 hs114
 refine c_nil (n_block ?_)
 have hd1:=ref_head hq30 hq47
 have hd:=ref_1' hd1 (by omega) h1i hq89 hq105
 exact n_then ⟨_,rfl,H56,(GFrame.mk q29.1 ((q46.1:Nat):Int) i3.1 0 q84.1 q100.1 [] 0 [] [] 0 0),[.int .u8 ((q29.1:Nat):Int),.int .i64 ((q46.1:Nat):Int),.int .u64 ((i3.1.N:Nat):Int),.int .i64 i3.1.P,.int .u16 0,.int .u64 ((q84.1.N:Nat):Int),.int .i64 q84.1.P,.int .u64 ((q100.1.N:Nat):Int),.int .i64 q100.1.P,.slice none 0 0,.int .u64 0,.slice none 0 0,.slice none 0 0,.int .u64 0,.int .u64 0],q100.2.1,q100.2.2,hρ75,hρ76,hρ77,hρ78,hρ79,(Hp.le.refl _),hp1,hf106,hl110,⟨none,0,0,none,0,0,none,0,0,rfl,hb35,(show IB ((q46.1:Nat):Int) from ⟨by omega,by omega⟩),hN,hP,(show 0 < 65536 from by omega),b91,⟨b92,b93⟩,b107,⟨b108,b109⟩,(Sl.nil _ _ none),(show 0 < 18446744073709551616 from by omega),(Sl.nil _ _ none),(Sl.nil _ _ none),(show 0 < 18446744073709551616 from by omega),(show 0 < 18446744073709551616 from by omega)⟩,hd,(((hs114.p2).p1).p2)⟩
 have hp83:¬ ((((q29.1:Nat):Int):Int) = 1):=of_decide_eq_false hc83
 refine c_cond_f (t:=false) (.tmp rfl (cVb hc83)) rfl ?_
 refine c_seq (c_region (st (v:=.bool (decide ((((q29.1:Nat):Int):Int) = 2))) (x_eql (k:=.u8) (a:=((q29.1:Nat):Int)) (b:=2) (.tmp rfl rfl) .const) ?_))
 refine st (v:=.bool (decide ((((q29.1:Nat):Int):Int) = 2))) (x_assign (.tmp rfl rfl)) ?_
 refine c_nil (n_then ?_)
 rcases Bool.eq_false_or_eq_true (decide ((((q29.1:Nat):Int):Int) = 2)) with hc115 | hc115
 have hp115:(((q29.1:Nat):Int):Int) = 2:=of_decide_eq_true hc115
 refine c_cond_t (t:=true) (.tmp rfl (cVb hc115)) rfl ?_
 refine c_region (st (v:=.pointer (some ⟨g21,0,none⟩)) (x_move (.tmp rfl hρ78)) ?_)
 refine st_c cb48 .func (evs2 (.tmp rfl rfl) .const) (rint_r hs80 hp1 hf1 (by omega) 65535 (by omega) (by omega)) ?_
 rintro e w116 ⟨q118,hq119,hb120,hf121,rfl,hs117⟩
 refine ⟨_,rfl,?_⟩
 have hl123:q118.2.1.length ≤ n11:=by have h1:=Suf.len hf121; have h2:=hp1.len; omega
 have:=atOf_bound (n:=n11) (cur:=q118.2.1) (bad:=q118.2.2) hl123
 have hb124:q118.1 < 65536:=by omega
 refine st (v:=.int .u16 ((q118.1:Nat):Int)) (x_conv (k:=.i64) (a:=((q118.1:Nat):Int)) Try.underlying3 Try.underlying25 (.tmp rfl rfl) (wU rfl rfl hb124)) ?_
 refine st (v:=.pointer (some ⟨g36,0 + 4,none⟩)) (fa30_3 (.tmp rfl hρ79)) ?_
 have hs125:=hs117.p1
 refine st_m0 (sto25 (cs':=[.int .u8 ((q29.1:Nat):Int),.int .i64 ((q46.1:Nat):Int),.int .u64 ((i3.1.N:Nat):Int),.int .i64 i3.1.P,.int .u16 ((q118.1:Nat):Int),.int .u64 0,.int .i64 0,.int .u64 0,.int .i64 0,.slice none 0 0,.int .u64 0,.slice none 0 0,.slice none 0 0,.int .u64 0,.int .u64 0]) (i:=0 + 4) hs125 (v:=.int .u16 ((q118.1:Nat):Int)) (.tmp rfl rfl) (.tmp rfl rfl) rfl (Nat.le_of_ble_eq_true rfl) one1 rfl) ?_
 rintro w126 hs128
 refine c_nil (n_block ?_)
 have hd1:=ref_head hq30 hq47
 have hd2:=ref_i' hd1 (by omega) h2i
 have hd:=ref_2 hd2 (by omega) hq119
 exact n_then ⟨_,rfl,H56,(GFrame.mk q29.1 ((q46.1:Nat):Int) i3.1 q118.1 (GViewID.mk 0 0) (GViewID.mk 0 0) [] 0 [] [] 0 0),[.int .u8 ((q29.1:Nat):Int),.int .i64 ((q46.1:Nat):Int),.int .u64 ((i3.1.N:Nat):Int),.int .i64 i3.1.P,.int .u16 ((q118.1:Nat):Int),.int .u64 0,.int .i64 0,.int .u64 0,.int .i64 0,.slice none 0 0,.int .u64 0,.slice none 0 0,.slice none 0 0,.int .u64 0,.int .u64 0],q118.2.1,q118.2.2,hρ75,hρ76,hρ77,hρ78,hρ79,(Hp.le.refl _),hp1,hf121,hl123,⟨none,0,0,none,0,0,none,0,0,rfl,hb35,(show IB ((q46.1:Nat):Int) from ⟨by omega,by omega⟩),hN,hP,hb124,(show 0 < 18446744073709551616 from by omega),(show IB 0 from ⟨by omega,by omega⟩),(show 0 < 18446744073709551616 from by omega),(show IB 0 from ⟨by omega,by omega⟩),(Sl.nil _ _ none),(show 0 < 18446744073709551616 from by omega),(Sl.nil _ _ none),(Sl.nil _ _ none),(show 0 < 18446744073709551616 from by omega),(show 0 < 18446744073709551616 from by omega)⟩,hd,(((hs128.p2).p1).p2)⟩
 have hp115:¬ ((((q29.1:Nat):Int):Int) = 2):=of_decide_eq_false hc115
 refine c_cond_f (t:=false) (.tmp rfl (cVb hc115)) rfl ?_
 refine c_seq (c_region (st (v:=.bool (decide ((((q29.1:Nat):Int):Int) = 3))) (x_eql (k:=.u8) (a:=((q29.1:Nat):Int)) (b:=3) (.tmp rfl rfl) .const) ?_))
 refine st (v:=.bool (decide ((((q29.1:Nat):Int):Int) = 3))) (x_assign (.tmp rfl rfl)) ?_
 refine c_nil (n_then ?_)
 rcases Bool.eq_false_or_eq_true (decide ((((q29.1:Nat):Int):Int) = 3)) with hc129 | hc129
 have hp129:(((q29.1:Nat):Int):Int) = 3:=of_decide_eq_true hc129
 refine c_cond_t (t:=true) (.tmp rfl (cVb hc129)) rfl ?_
 refine c_region (st (v:=.pointer (some ⟨g21,0,none⟩)) (x_move (.tmp rfl hρ78)) ?_)
 refine st_c cb50 .func (evs1 (.tmp rfl rfl)) (unstates_spec hs80 hp1 hf1 (by omega) ) ?_
 rintro e w131 ⟨H133,A135,n136,c137,q130,hle134,rfl,sp138,hq139,hf140,hs132⟩
 have:=sp138.len; have:=sp138.le; have:n136 * 48 ≤ 140737488351232:=sp138.bnd
 refine ⟨_,rfl,?_⟩
 have hl141:q130.2.1.length ≤ n11:=by have h1:=Suf.len hf140; have h2:=(hp1.mono hle134).len; omega
 have:=atOf_bound (n:=n11) (cur:=q130.2.1) (bad:=q130.2.2) hl141
 refine st (v:=.pointer (some ⟨g36,0 + 9,none⟩)) (fa30_6 (.tmp rfl hρ79)) ?_
 have hs142:=hs132.p1
 refine st_m0 (sto26 (cs':=[.int .u8 ((q29.1:Nat):Int),.int .i64 ((q46.1:Nat):Int),.int .u64 ((i3.1.N:Nat):Int),.int .i64 i3.1.P,.int .u16 0,.int .u64 0,.int .i64 0,.int .u64 0,.int .i64 0,.slice A135 n136 c137,.int .u64 0,.slice none 0 0,.slice none 0 0,.int .u64 0,.int .u64 0]) (i:=0 + 9) hs142 (v:=.slice A135 n136 c137) (.tmp rfl rfl) (.tmp rfl rfl) rfl (Nat.le_of_ble_eq_true rfl) one1 rfl) ?_
 rintro w143 hs145
 refine c_nil (n_block ?_)
 have hd1:=ref_head hq30 hq47
 have hd2:=ref_i' hd1 (by omega) h2i
 have hd:=ref_3 hd2 (by omega) hq139
 exact n_then ⟨_,rfl,H133,(GFrame.mk q29.1 ((q46.1:Nat):Int) i3.1 0 (GViewID.mk 0 0) (GViewID.mk 0 0) q130.1 0 [] [] 0 0),[.int .u8 ((q29.1:Nat):Int),.int .i64 ((q46.1:Nat):Int),.int .u64 ((i3.1.N:Nat):Int),.int .i64 i3.1.P,.int .u16 0,.int .u64 0,.int .i64 0,.int .u64 0,.int .i64 0,.slice A135 n136 c137,.int .u64 0,.slice none 0 0,.slice none 0 0,.int .u64 0,.int .u64 0],q130.2.1,q130.2.2,hρ75,hρ76,hρ77,hρ78,hρ79,hle134,(hp1.mono hle134),hf140,hl141,⟨A135,n136,c137,none,0,0,none,0,0,rfl,hb35,(show IB ((q46.1:Nat):Int) from ⟨by omega,by omega⟩),hN,hP,(show 0 < 65536 from by omega),(show 0 < 18446744073709551616 from by omega),(show IB 0 from ⟨by omega,by omega⟩),(show 0 < 18446744073709551616 from by omega),(show IB 0 from ⟨by omega,by omega⟩),sp138,(show 0 < 18446744073709551616 from by omega),(Sl.nil _ _ none),(Sl.nil _ _ none),(show 0 < 18446744073709551616 from by omega),(show 0 < 18446744073709551616 from by omega)⟩,hd,(((hs145.p2).p1).p2)⟩
 have hp129:¬ ((((q29.1:Nat):Int):Int) = 3):=of_decide_eq_false hc129
 refine c_cond_f (t:=false) (.tmp rfl (cVb hc129)) rfl ?_
 refine c_seq (c_region (st (v:=.bool (decide ((((q29.1:Nat):Int):Int) = 4))) (x_eql (k:=.u8) (a:=((q29.1:Nat):Int)) (b:=4) (.tmp rfl rfl) .const) ?_))
 refine st (v:=.bool (decide ((((q29.1:Nat):Int):Int) = 4))) (x_assign (.tmp rfl rfl)) ?_
 refine c_nil (n_then ?_)
 rcases Bool.eq_false_or_eq_true (decide ((((q29.1:Nat):Int):Int) = 4)) with hc146 | hc146
 have hp146:(((q29.1:Nat):Int):Int) = 4:=of_decide_eq_true hc146
 refine c_cond_t (t:=true) (.tmp rfl (cVb hc146)) rfl ?_
 refine c_region (st (v:=.pointer (some ⟨g21,0,none⟩)) (x_move (.tmp rfl hρ78)) ?_)
 refine st_c cb49 .func (evs1 (.tmp rfl rfl)) (rvdec_spec hs80 hp1 hf1 (by omega) ) ?_
 rintro e w148 ⟨cs150,q147,rfl,hr151,hq152,hf153,hs149⟩
 obtain ⟨rfl,b154,⟨b155,b156⟩⟩:=hr151
 refine ⟨_,rfl,?_⟩
 have hl157:q147.2.1.length ≤ n11:=by have h1:=Suf.len hf153; have h2:=hp1.len; omega
 have:=atOf_bound (n:=n11) (cur:=q147.2.1) (bad:=q147.2.2) hl157
 refine st (v:=.pointer (some ⟨g36,0 + 7,none⟩)) (fa30_5 (.tmp rfl hρ79)) ?_
 have hs158:=hs149.p1
 refine st_m0 (sto24 (cs':=[.int .u8 ((q29.1:Nat):Int),.int .i64 ((q46.1:Nat):Int),.int .u64 ((i3.1.N:Nat):Int),.int .i64 i3.1.P,.int .u16 0,.int .u64 0,.int .i64 0,.int .u64 ((q147.1.N:Nat):Int),.int .i64 q147.1.P,.slice none 0 0,.int .u64 0,.slice none 0 0,.slice none 0 0,.int .u64 0,.int .u64 0]) (i:=0 + 7) hs158 (v:=.agg #[.int .u64 ((q147.1.N:Nat):Int),.int .i64 q147.1.P]) (.tmp rfl rfl) (.tmp rfl rfl) rfl (Nat.le_of_ble_eq_true rfl) (oneA rfl) rfl) ?_
 rintro w159 hs161
 refine c_nil (n_block ?_)
 have hd1:=ref_head hq30 hq47
 have hd2:=ref_i' hd1 (by omega) h2i
 have hd:=ref_4 hd2 (by omega) hq152
 exact n_then ⟨_,rfl,H56,(GFrame.mk q29.1 ((q46.1:Nat):Int) i3.1 0 (GViewID.mk 0 0) q147.1 [] 0 [] [] 0 0),[.int .u8 ((q29.1:Nat):Int),.int .i64 ((q46.1:Nat):Int),.int .u64 ((i3.1.N:Nat):Int),.int .i64 i3.1.P,.int .u16 0,.int .u64 0,.int .i64 0,.int .u64 ((q147.1.N:Nat):Int),.int .i64 q147.1.P,.slice none 0 0,.int .u64 0,.slice none 0 0,.slice none 0 0,.int .u64 0,.int .u64 0],q147.2.1,q147.2.2,hρ75,hρ76,hρ77,hρ78,hρ79,(Hp.le.refl _),hp1,hf153,hl157,⟨none,0,0,none,0,0,none,0,0,rfl,hb35,(show IB ((q46.1:Nat):Int) from ⟨by omega,by omega⟩),hN,hP,(show 0 < 65536 from by omega),(show 0 < 18446744073709551616 from by omega),(show IB 0 from ⟨by omega,by omega⟩),b154,⟨b155,b156⟩,(Sl.nil _ _ none),(show 0 < 18446744073709551616 from by omega),(Sl.nil _ _ none),(Sl.nil _ _ none),(show 0 < 18446744073709551616 from by omega),(show 0 < 18446744073709551616 from by omega)⟩,hd,(((hs161.p2).p1).p2)⟩
 have hp146:¬ ((((q29.1:Nat):Int):Int) = 4):=of_decide_eq_false hc146
 refine c_cond_f (t:=false) (.tmp rfl (cVb hc146)) rfl ?_
 refine c_seq (c_region (st (v:=.bool (decide ((((q29.1:Nat):Int):Int) = 5))) (x_eql (k:=.u8) (a:=((q29.1:Nat):Int)) (b:=5) (.tmp rfl rfl) .const) ?_))
 refine st (v:=.bool (decide ((((q29.1:Nat):Int):Int) = 5))) (x_assign (.tmp rfl rfl)) ?_
 refine c_nil (n_then ?_)
 rcases Bool.eq_false_or_eq_true (decide ((((q29.1:Nat):Int):Int) = 5)) with hc162 | hc162
 have hp162:(((q29.1:Nat):Int):Int) = 5:=of_decide_eq_true hc162
 refine c_cond_t (t:=true) (.tmp rfl (cVb hc162)) rfl ?_
 refine c_seq (c_region (st (v:=.pointer (some ⟨g21,0,none⟩)) (x_move (.tmp rfl hρ78)) ?_))
 refine st_c cb48 .func (evs2 (.tmp rfl rfl) .const) (rint_r hs80 hp1 hf1 (by omega) 65535 (by omega) (by omega)) ?_
 rintro e w163 ⟨q165,hq166,hb167,hf168,rfl,hs164⟩
 refine ⟨_,rfl,?_⟩
 have hl170:q165.2.1.length ≤ n11:=by have h1:=Suf.len hf168; have h2:=hp1.len; omega
 have:=atOf_bound (n:=n11) (cur:=q165.2.1) (bad:=q165.2.2) hl170
 have hb171:q165.1 < 65536:=by omega
 refine st (v:=.int .u16 ((q165.1:Nat):Int)) (x_conv (k:=.i64) (a:=((q165.1:Nat):Int)) Try.underlying3 Try.underlying25 (.tmp rfl rfl) (wU rfl rfl hb171)) ?_
 refine st (v:=.pointer (some ⟨g36,0 + 4,none⟩)) (fa30_3 (.tmp rfl hρ79)) ?_
 have hs172:=hs164.p1
 refine st_m0 (sto25 (cs':=[.int .u8 ((q29.1:Nat):Int),.int .i64 ((q46.1:Nat):Int),.int .u64 ((i3.1.N:Nat):Int),.int .i64 i3.1.P,.int .u16 ((q165.1:Nat):Int),.int .u64 0,.int .i64 0,.int .u64 0,.int .i64 0,.slice none 0 0,.int .u64 0,.slice none 0 0,.slice none 0 0,.int .u64 0,.int .u64 0]) (i:=0 + 4) hs172 (v:=.int .u16 ((q165.1:Nat):Int)) (.tmp rfl rfl) (.tmp rfl rfl) rfl (Nat.le_of_ble_eq_true rfl) one1 rfl) ?_
 rintro w173 hs175
 refine c_nil (n_then (c_region (st (v:=.pointer (some ⟨g21,0,none⟩)) (x_move (.tmp rfl hρ78)) ?_)))
 have hs176:=hs175.p1
 refine st_c cb50 .func (evs1 (.tmp rfl rfl)) (unstates_spec hs176 hp1 hf168 (by omega) ) ?_
 rintro e w178 ⟨H180,A182,n183,c184,q177,hle181,rfl,sp185,hq186,hf187,hs179⟩
 have:=sp185.len; have:=sp185.le; have:n183 * 48 ≤ 140737488351232:=sp185.bnd
 refine ⟨_,rfl,?_⟩
 have hl188:q177.2.1.length ≤ n11:=by have h1:=Suf.len hf187; have h2:=(hp1.mono hle181).len; omega
 have:=atOf_bound (n:=n11) (cur:=q177.2.1) (bad:=q177.2.2) hl188
 refine st (v:=.pointer (some ⟨g36,0 + 9,none⟩)) (fa30_6 (.tmp rfl hρ79)) ?_
 have hs189:=hs179.p1
 refine st_m0 (sto26 (cs':=[.int .u8 ((q29.1:Nat):Int),.int .i64 ((q46.1:Nat):Int),.int .u64 ((i3.1.N:Nat):Int),.int .i64 i3.1.P,.int .u16 ((q165.1:Nat):Int),.int .u64 0,.int .i64 0,.int .u64 0,.int .i64 0,.slice A182 n183 c184,.int .u64 0,.slice none 0 0,.slice none 0 0,.int .u64 0,.int .u64 0]) (i:=0 + 9) hs189 (v:=.slice A182 n183 c184) (.tmp rfl rfl) (.tmp rfl rfl) rfl (Nat.le_of_ble_eq_true rfl) one1 rfl) ?_
 rintro w190 hs192
 refine c_nil (n_block ?_)
 have hd1:=ref_head hq30 hq47
 have hd2:=ref_i' hd1 (by omega) h2i
 have hd:=ref_5 hd2 (by omega) hq166 hq186
 exact n_then ⟨_,rfl,H180,(GFrame.mk q29.1 ((q46.1:Nat):Int) i3.1 q165.1 (GViewID.mk 0 0) (GViewID.mk 0 0) q177.1 0 [] [] 0 0),[.int .u8 ((q29.1:Nat):Int),.int .i64 ((q46.1:Nat):Int),.int .u64 ((i3.1.N:Nat):Int),.int .i64 i3.1.P,.int .u16 ((q165.1:Nat):Int),.int .u64 0,.int .i64 0,.int .u64 0,.int .i64 0,.slice A182 n183 c184,.int .u64 0,.slice none 0 0,.slice none 0 0,.int .u64 0,.int .u64 0],q177.2.1,q177.2.2,hρ75,hρ76,hρ77,hρ78,hρ79,hle181,(hp1.mono hle181),hf187,hl188,⟨A182,n183,c184,none,0,0,none,0,0,rfl,hb35,(show IB ((q46.1:Nat):Int) from ⟨by omega,by omega⟩),hN,hP,hb171,(show 0 < 18446744073709551616 from by omega),(show IB 0 from ⟨by omega,by omega⟩),(show 0 < 18446744073709551616 from by omega),(show IB 0 from ⟨by omega,by omega⟩),sp185,(show 0 < 18446744073709551616 from by omega),(Sl.nil _ _ none),(Sl.nil _ _ none),(show 0 < 18446744073709551616 from by omega),(show 0 < 18446744073709551616 from by omega)⟩,hd,(((hs192.p2).p1).p2)⟩
 have hp162:¬ ((((q29.1:Nat):Int):Int) = 5):=of_decide_eq_false hc162
 refine c_cond_f (t:=false) (.tmp rfl (cVb hc162)) rfl ?_
 refine c_seq (c_region (st (v:=.bool (decide ((((q29.1:Nat):Int):Int) = 6))) (x_eql (k:=.u8) (a:=((q29.1:Nat):Int)) (b:=6) (.tmp rfl rfl) .const) ?_))
 refine st (v:=.bool (decide ((((q29.1:Nat):Int):Int) = 6))) (x_assign (.tmp rfl rfl)) ?_
 refine c_nil (n_then ?_)
 rcases Bool.eq_false_or_eq_true (decide ((((q29.1:Nat):Int):Int) = 6)) with hc193 | hc193
 have hp193:(((q29.1:Nat):Int):Int) = 6:=of_decide_eq_true hc193
 refine c_cond_t (t:=true) (.tmp rfl (cVb hc193)) rfl ?_
 refine c_seq (c_region (st (v:=.pointer (some ⟨g21,0,none⟩)) (x_move (.tmp rfl hρ78)) ?_))
 refine st_c cb51 .func (evs1 (.tmp rfl rfl)) (ruint_r hs80 hp1 hf1 (by omega)) ?_
 rintro e w194 ⟨q196,hq197,hb198,hf199,rfl,hs195⟩
 refine ⟨_,rfl,?_⟩
 have hl201:q196.2.1.length ≤ n11:=by have h1:=Suf.len hf199; have h2:=hp1.len; omega
 have:=atOf_bound (n:=n11) (cur:=q196.2.1) (bad:=q196.2.2) hl201
 refine st (v:=.pointer (some ⟨g36,0 + 10,none⟩)) (fa30_7 (.tmp rfl hρ79)) ?_
 have hs202:=hs195.p1
 refine st_m0 (sto22 (cs':=[.int .u8 ((q29.1:Nat):Int),.int .i64 ((q46.1:Nat):Int),.int .u64 ((i3.1.N:Nat):Int),.int .i64 i3.1.P,.int .u16 0,.int .u64 0,.int .i64 0,.int .u64 0,.int .i64 0,.slice none 0 0,.int .u64 ((q196.1:Nat):Int),.slice none 0 0,.slice none 0 0,.int .u64 0,.int .u64 0]) (i:=0 + 10) hs202 (v:=.int .u64 ((q196.1:Nat):Int)) (.tmp rfl rfl) (.tmp rfl rfl) rfl (Nat.le_of_ble_eq_true rfl) one1 rfl) ?_
 rintro w203 hs205
 refine c_nil (n_then (c_seq (c_region (st (v:=.pointer (some ⟨g21,0,none⟩)) (x_move (.tmp rfl hρ78)) ?_))))
 have hs206:=hs205.p1
 refine st_c cb51 .func (evs1 (.tmp rfl rfl)) (ruint_r hs206 hp1 hf199 (by omega)) ?_
 rintro e w207 ⟨q209,hq210,hb211,hf212,rfl,hs208⟩
 refine ⟨_,rfl,?_⟩
 have hl214:q209.2.1.length ≤ n11:=by have h1:=Suf.len hf212; have h2:=hp1.len; omega
 have:=atOf_bound (n:=n11) (cur:=q209.2.1) (bad:=q209.2.2) hl214
 refine st (v:=.pointer (some ⟨g36,0 + 13,none⟩)) (fa30_10 (.tmp rfl hρ79)) ?_
 have hs215:=hs208.p1
 refine st_m0 (sto22 (cs':=[.int .u8 ((q29.1:Nat):Int),.int .i64 ((q46.1:Nat):Int),.int .u64 ((i3.1.N:Nat):Int),.int .i64 i3.1.P,.int .u16 0,.int .u64 0,.int .i64 0,.int .u64 0,.int .i64 0,.slice none 0 0,.int .u64 ((q196.1:Nat):Int),.slice none 0 0,.slice none 0 0,.int .u64 ((q209.1:Nat):Int),.int .u64 0]) (i:=0 + 13) hs215 (v:=.int .u64 ((q209.1:Nat):Int)) (.tmp rfl rfl) (.tmp rfl rfl) rfl (Nat.le_of_ble_eq_true rfl) one1 rfl) ?_
 rintro w216 hs218
 refine c_nil (n_then (c_seq (c_region ?_)))
 skip
 refine st (v:=.pointer (some ⟨g21,0,none⟩)) (x_move (.tmp rfl hρ78)) ?_
 have hs219:=hs218.p1
 refine st_c cb48 .func (evs2 (.tmp rfl rfl) .const) (rint_r hs219 hp1 hf212 (by omega) 4096 (by omega) (by omega)) ?_
 rintro e w220 ⟨q222,hq223,hb224,hf225,rfl,hs221⟩
 refine ⟨_,rfl,?_⟩
 have hl227:q222.2.1.length ≤ n11:=by have h1:=Suf.len hf225; have h2:=hp1.len; omega
 have:=atOf_bound (n:=n11) (cur:=q222.2.1) (bad:=q222.2.2) hl227
 refine st (v:=.int .i64 ((q222.1:Nat):Int)) (x_assign (.tmp rfl rfl)) ?_
 refine c_nil (n_then (c_seq (c_region (st (v:=.int .i64 0) (x_assign .const) ?_))))
 refine c_nil (n_then (c_block ?_))
 have hs229:St H56 _ (row 33 1 (.slice none 0 0) (([]:List (List Nat)).length) []::obj g21 88 [.slice A10 n11 c12,.int .i64 (atOf n11 q222.2.1 q222.2.2)]::obj g36 30 [.int .u8 ((q29.1:Nat):Int),.int .i64 ((q46.1:Nat):Int),.int .u64 ((i3.1.N:Nat):Int),.int .i64 i3.1.P,.int .u16 0,.int .u64 0,.int .i64 0,.int .u64 0,.int .i64 0,.slice none 0 0,.int .u64 ((q196.1:Nat):Int),.slice none 0 0,.slice none 0 0,.int .u64 ((q209.1:Nat):Int),.int .u64 0]::obj g1 30 [.int .u8 0,.int .i64 0,.int .u64 0,.int .i64 0,.int .u16 0,.int .u64 0,.int .i64 0,.int .u64 0,.int .i64 0,.slice none 0 0,.int .u64 0,.slice none 0 0,.slice none 0 0,.int .u64 0,.int .u64 0]::L):=hs221.krowNil 33 kBs
 have:([]:List (List Nat)).length = 0:=rfl
 refine c_loop (fun ρ w mm => ∃ (H230:Hp) (i:Nat) (cur:List Nat) (bad:Bool) (v2:Value) (c9:List Value) (l:List (List Nat)),ρ 0 = .slice A_b n_b c_b∧ρ 2 = .pointer (some ⟨g1,0,none⟩)∧ρ 4 = .slice A10 n11 c12∧ρ 6 = .pointer (some ⟨g21,0,none⟩)∧ρ 7 = .pointer (some ⟨g36,0,none⟩)∧ρ 8 = .int .i64 ((q222.1:Nat):Int)∧ρ 9 = .int .i64 ((i:Nat):Int)∧(H56.le H230)∧(Bs H230 A10 n11 c12 (openL b).1)∧(Suf (openL b).1 cur)∧(cur.length ≤ n11)∧(i ≤ q222.1)∧(l.length ≤ i)∧(RowOk kBs.sz v2 l.length c9)∧(kBs.toKn.rows H230 l c9)∧(MsInv q209.2.1 q209.2.2 l (((q222.1:Nat):Int) - ((i:Nat):Int)) cur bad)∧St H230 w (obj g21 88 [.slice A10 n11 c12,.int .i64 (atOf n11 cur bad)]::obj g36 30 [.int .u8 ((q29.1:Nat):Int),.int .i64 ((q46.1:Nat):Int),.int .u64 ((i3.1.N:Nat):Int),.int .i64 i3.1.P,.int .u16 0,.int .u64 0,.int .i64 0,.int .u64 0,.int .i64 0,.slice none 0 0,.int .u64 ((q196.1:Nat):Int),v2,.slice none 0 0,.int .u64 ((q209.1:Nat):Int),.int .u64 0]::row 33 1 v2 l.length c9::obj g1 30 [.int .u8 0,.int .i64 0,.int .u64 0,.int .i64 0,.int .u16 0,.int .u64 0,.int .i64 0,.int .u64 0,.int .i64 0,.slice none 0 0,.int .u64 0,.slice none 0 0,.slice none 0 0,.int .u64 0,.int .u64 0]::L)∧mm = q222.1 - i) _ ⟨H56,0,q222.2.1,q222.2.2,(.slice none 0 0),[],[],hρ75,hρ76,hρ77,hρ78,hρ79,rfl,rfl,(Hp.le.refl _),hp1,hf225,hl227,(by omega),(by omega),(RowOk.knil kBs),(Kn.rows_nil _ _),(ms_from hq223 (by omega)),((((hs229.p3).p1).p3).p3),rfl⟩ ?_
 rintro ρ w mm ⟨H230,i,cur,bad,v2,c9,l,hρ232,hρ233,hρ234,hρ235,hρ236,hρ237,hρ238,hg231,hp2,hf2,hlc,hi,hl,okv,hkv,inv,hs239,rfl⟩
 refine c_seq (c_seq (c_region ?_))
 have hab9:=atOf_bound (n:=n11) (cur:=cur) (bad:=bad) hlc
 refine st (v:=.int .i64 ((i:Nat):Int)) (x_move (.tmp rfl hρ238)) ?_
 refine st (v:=.int .i64 ((q222.1:Nat):Int)) (x_move (.tmp rfl hρ237)) ?_
 refine st (v:=.bool (decide ((((i:Nat):Int):Int) < ((q222.1:Nat):Int)))) (x_lss (k:=.i64) (a:=((i:Nat):Int)) (b:=((q222.1:Nat):Int)) (.tmp rfl rfl) (.tmp rfl rfl)) ?_
 refine st (v:=.bool (decide ((((i:Nat):Int):Int) < ((q222.1:Nat):Int)))) (x_move (.tmp rfl rfl)) ?_
 rcases Bool.eq_false_or_eq_true (decide ((((i:Nat):Int):Int) < ((q222.1:Nat):Int))) with hc240 | hc240
 have hp240:(((i:Nat):Int):Int) < ((q222.1:Nat):Int):=of_decide_eq_true hc240
 refine g_yes (yk 87 true rfl rfl hc240) ?_
 refine st (v:=.pointer (some ⟨g21,0,none⟩)) (x_move (.tmp rfl hρ235)) ?_
 refine g_yes (yk 87 true rfl rfl hc240) ?_
 refine st (v:=.pointer (some ⟨g21,0,none⟩)) (x_nilCheck (.tmp rfl rfl)) ?_
 refine g_yes (yk 87 true rfl rfl hc240) ?_
 refine st (v:=.pointer (some ⟨g21,0 + 1,none⟩)) (fa88_1 (.tmp rfl rfl)) ?_
 refine g_yes (yk 87 true rfl rfl hc240) ?_
 refine st (v:=.int .i64 (atOf n11 cur bad)) (ld3 (.tmp rfl rfl) (hs239.cell 0 rfl (0 + 1) rfl)) ?_
 refine g_yes (yk 87 true rfl rfl hc240) ?_
 refine st (v:=.bool (decide ((0:Int) ≤ (atOf n11 cur bad)))) (x_geq (k:=.i64) (a:=(atOf n11 cur bad)) (b:=0) (.tmp rfl rfl) .const) ?_
 refine st (v:=.bool (decide ((0:Int) ≤ (atOf n11 cur bad)))) (x_pick_t (.tmp rfl (cVb hc240)) (.tmp rfl rfl)) ?_
 refine c_nil (n_then ?_)
 rcases Bool.eq_false_or_eq_true (decide ((0:Int) ≤ (atOf n11 cur bad))) with hc241 | hc241
 have hp241:(0:Int) ≤ (atOf n11 cur bad):=of_decide_eq_true hc241
 refine c_cond_t (t:=true) (.tmp rfl (cVb hc241)) rfl ?_
 refine c_skip (n_then (c_seq (c_block (t_region (L:=obj g21 88 [.slice A10 n11 c12,.int .i64 (atOf n11 cur bad)]::obj g36 30 [.int .u8 ((q29.1:Nat):Int),.int .i64 ((q46.1:Nat):Int),.int .u64 ((i3.1.N:Nat):Int),.int .i64 i3.1.P,.int .u16 0,.int .u64 0,.int .i64 0,.int .u64 0,.int .i64 0,.slice none 0 0,.int .u64 ((q196.1:Nat):Int),v2,.slice none 0 0,.int .u64 ((q209.1:Nat):Int),.int .u64 0]::row 33 1 v2 l.length c9::obj g1 30 [.int .u8 0,.int .i64 0,.int .u64 0,.int .i64 0,.int .u16 0,.int .u64 0,.int .i64 0,.int .u64 0,.int .i64 0,.slice none 0 0,.int .u64 0,.slice none 0 0,.slice none 0 0,.int .u64 0,.int .u64 0]::L) (L':=obj g36 30 [.int .u8 ((q29.1:Nat):Int),.int .i64 ((q46.1:Nat):Int),.int .u64 ((i3.1.N:Nat):Int),.int .i64 i3.1.P,.int .u16 0,.int .u64 0,.int .i64 0,.int .u64 0,.int .i64 0,.slice none 0 0,.int .u64 ((q196.1:Nat):Int),v2,.slice none 0 0,.int .u64 ((q209.1:Nat):Int),.int .u64 0]::row 33 1 v2 l.length c9::obj g1 30 [.int .u8 0,.int .i64 0,.int .u64 0,.int .i64 0,.int .u16 0,.int .u64 0,.int .i64 0,.int .u64 0,.int .i64 0,.slice none 0 0,.int .u64 0,.slice none 0 0,.slice none 0 0,.int .u64 0,.int .u64 0]::L) (Z:=[5,7]) (F:=[]) (pl:=(.q 0 (.q 1 (.q 2 (.e 3 (.e 4 (.e 5 (.q 6 (.e 7 .done))))))))) mixed hs239 (fun u hu => hu.drop) (by kernel_rfl) ?_))))
 intro w242 hs243
 refine t_st (k:=0) (v:=.pointer (some ⟨g36,0 + 11,none⟩)) rfl rfl (fun w hs => (fa30_8 (.tmp rfl hρ236))) ?_
 refine t_st (k:=1) (v:=v2) rfl rfl (fun w hs => (ld27 (.tmp rfl rfl) (hs.cell 0 rfl (0 + 11) rfl))) ?_
 refine t_st (k:=2) (v:=.pointer (some ⟨g21,0,none⟩)) rfl rfl (fun w hs => (x_move (.tmp rfl hρ235))) ?_
 refine t_eff (k:=3) rfl ?_
 refine st_c cb52 .func (evs2 (.tmp rfl rfl) .const) (rbytes_r hs243 hp2 hf2 (by omega) 1048576 (by omega) (by omega)) ?_
 rintro e w244 ⟨A251,n252,c253,q246,hq247,hb248,hf249,rfl,hp254,hs245⟩
 refine ⟨_,rfl,?_⟩
 have hl256:q246.2.1.length ≤ n11:=by have h1:=Suf.len hf249; have h2:=hp2.len; omega
 have:=atOf_bound (n:=n11) (cur:=q246.2.1) (bad:=q246.2.2) hl256
 have:=hp254.len
 have hy255:By H230 A251 n252 c253 q246.1:=⟨hp254,by omega⟩
 have:=hy255.le
 refine t_on (S':=fun u => St H230 u (obj g36 30 [.int .u8 ((q29.1:Nat):Int),.int .i64 ((q46.1:Nat):Int),.int .u64 ((i3.1.N:Nat):Int),.int .i64 i3.1.P,.int .u16 0,.int .u64 0,.int .i64 0,.int .u64 0,.int .i64 0,.slice none 0 0,.int .u64 ((q196.1:Nat):Int),v2,.slice none 0 0,.int .u64 ((q209.1:Nat):Int),.int .u64 0]::row 33 1 v2 l.length c9::obj g1 30 [.int .u8 0,.int .i64 0,.int .u64 0,.int .i64 0,.int .u16 0,.int .u64 0,.int .i64 0,.int .u64 0,.int .i64 0,.slice none 0 0,.int .u64 0,.slice none 0 0,.slice none 0 0,.int .u64 0,.int .u64 0]::L)) (fun u hu => hu) hs245.drop ?_
 refine t_eff (k:=4) rfl ?_
 refine st_m (m_lit (n:=1) (ps:=[(0,.slice A251 n252 c253)]) (cs:=[.slice A251 n252 c253]) Try.underlying27 inf33 (.cons (.tmp rfl rfl) Evp.nil) (by decide) (by decide) rfl rfl hs245) ?_
 rintro _ w258 ⟨g257,rfl,hs260⟩
 refine t_on (S':=fun u => St H230 u (obj g257 33 [.slice A251 n252 c253]::obj g36 30 [.int .u8 ((q29.1:Nat):Int),.int .i64 ((q46.1:Nat):Int),.int .u64 ((i3.1.N:Nat):Int),.int .i64 i3.1.P,.int .u16 0,.int .u64 0,.int .i64 0,.int .u64 0,.int .i64 0,.slice none 0 0,.int .u64 ((q196.1:Nat):Int),v2,.slice none 0 0,.int .u64 ((q209.1:Nat):Int),.int .u64 0]::row 33 1 v2 l.length c9::obj g1 30 [.int .u8 0,.int .i64 0,.int .u64 0,.int .i64 0,.int .u16 0,.int .u64 0,.int .i64 0,.int .u64 0,.int .i64 0,.slice none 0 0,.int .u64 0,.slice none 0 0,.slice none 0 0,.int .u64 0,.int .u64 0]::L)) (fun u hu => hu.drop) (hs260.p1).drop ?_
 refine t_eff (k:=5) rfl ?_
 have hs261:=hs260.p3
 have hr269:kBs.rep H230 q246.1 [.slice A251 n252 c253]:=⟨A251,n252,c253,rfl,hy255⟩
 refine st_m (m_appK (d:=kBs) (ys:=[q246.1]) (news:=[.slice A251 n252 c253]) Try.underlying27 inf33 rfl hs261 okv hkv (.tmp rfl rfl) (.tmp rfl rfl) (Kn.rows_one hr269) rfl (hs261.at_ 1 rfl 0 rfl) (by have:([q246.1]:List (List Nat)).length = 1:=rfl; omega) (by decide)) ?_
 rintro v262 w263 ⟨cs264,ok265,hk266,hs267⟩
 have hn268:(l ++ [q246.1]).length = l.length + 1:=by simp
 refine t_new (S':=fun u => St H230 u (row 33 1 v262 ((l ++ [q246.1]).length) cs264::obj g257 33 [.slice A251 n252 c253]::obj g21 88 [.slice A10 n11 c12,.int .i64 (atOf n11 q246.2.1 q246.2.2)]::obj g36 30 [.int .u8 ((q29.1:Nat):Int),.int .i64 ((q46.1:Nat):Int),.int .u64 ((i3.1.N:Nat):Int),.int .i64 i3.1.P,.int .u16 0,.int .u64 0,.int .i64 0,.int .u64 0,.int .i64 0,.slice none 0 0,.int .u64 ((q196.1:Nat):Int),v2,.slice none 0 0,.int .u64 ((q209.1:Nat):Int),.int .u64 0]::obj g1 30 [.int .u8 0,.int .i64 0,.int .u64 0,.int .i64 0,.int .u16 0,.int .u64 0,.int .i64 0,.int .u64 0,.int .i64 0,.slice none 0 0,.int .u64 0,.slice none 0 0,.slice none 0 0,.int .u64 0,.int .u64 0]::L)) rfl hs267 ?_
 refine t_st (k:=6) (v:=.pointer (some ⟨g36,0 + 11,none⟩)) rfl rfl (fun w hs => (fa30_8 (.tmp rfl hρ236))) ?_
 refine t_eff (k:=7) rfl ?_
 obtain ⟨A270,c271,rfl,hc272⟩:=ok265.slice
 have hs273:=hs267.p3
 refine st_m0 (sto27 (cs':=[.int .u8 ((q29.1:Nat):Int),.int .i64 ((q46.1:Nat):Int),.int .u64 ((i3.1.N:Nat):Int),.int .i64 i3.1.P,.int .u16 0,.int .u64 0,.int .i64 0,.int .u64 0,.int .i64 0,.slice none 0 0,.int .u64 ((q196.1:Nat):Int),.slice A270 ((l ++ [q246.1]).length) c271,.slice none 0 0,.int .u64 ((q209.1:Nat):Int),.int .u64 0]) (i:=0 + 11) hs273 (v:=.slice A270 ((l ++ [q246.1]).length) c271) (.tmp rfl rfl) (.tmp rfl rfl) rfl (Nat.le_of_ble_eq_true rfl) one1 rfl) ?_
 rintro w274 hs276
 refine t_new (S':=fun u => St H230 u (obj g36 30 [.int .u8 ((q29.1:Nat):Int),.int .i64 ((q46.1:Nat):Int),.int .u64 ((i3.1.N:Nat):Int),.int .i64 i3.1.P,.int .u16 0,.int .u64 0,.int .i64 0,.int .u64 0,.int .i64 0,.slice none 0 0,.int .u64 ((q196.1:Nat):Int),.slice A270 ((l ++ [q246.1]).length) c271,.slice none 0 0,.int .u64 ((q209.1:Nat):Int),.int .u64 0]::row 33 1 (.slice A270 ((l ++ [q246.1]).length) c271) ((l ++ [q246.1]).length) cs264::obj g257 33 [.slice A251 n252 c253]::obj g21 88 [.slice A10 n11 c12,.int .i64 (atOf n11 q246.2.1 q246.2.2)]::obj g1 30 [.int .u8 0,.int .i64 0,.int .u64 0,.int .i64 0,.int .u16 0,.int .u64 0,.int .i64 0,.int .u64 0,.int .i64 0,.slice none 0 0,.int .u64 0,.slice none 0 0,.slice none 0 0,.int .u64 0,.int .u64 0]::L)) rfl hs276 ?_
 refine t_nil ?_
 refine n_block (n_then (c_region (st (v:=.int .i64 ((i:Nat):Int)) (x_move (.tmp rfl hρ238)) ?_)))
 refine st (v:=.int .i64 (((i + 1):Nat):Int)) (x_add (k:=.i64) (a:=((i:Nat):Int)) (b:=1) (.tmp rfl rfl) .const ((w64 (by omega) (by omega)).trans (by omega))) ?_
 refine st (v:=.int .i64 (((i + 1):Nat):Int)) (x_assign (.tmp rfl rfl)) ?_
 refine c_nil ?_
 refine n_then ⟨_,_,rfl,?_,H230,(i + 1),q246.2.1,q246.2.2,(.slice A270 ((l ++ [q246.1]).length) c271),cs264,(l ++ [q246.1]),hρ232,hρ233,hρ234,hρ235,hρ236,hρ237,rfl,hg231,hp2,hf249,(hl256),(by omega),(by omega),ok265,hk266,(ms_up inv (by omega) (at_good hlc (by omega)) hq247 (by omega)),(((((hs276.p2).drop.p3).p2).p2).p3),rfl⟩
 omega
 have hp241:¬ ((0:Int) ≤ (atOf n11 cur bad)):=of_decide_eq_false hc241
 refine c_cond_f (t:=false) (.tmp rfl (cVb hc241)) rfl ?_
 refine c_exit (x_then (x_then (x_here (n_block ?_))))
 have hs277:=hs239.p2
 have:l.length * 24 ≤ 140737488351232:=by omega
 obtain ⟨H278,A279,c280,hle281,hs282,rfl,sp283⟩:=hs277.freezeSl (d:=kBs) okv hkv this
 have:=sp283.len; have:=sp283.le
 have hd1:=ref_head hq30 hq47
 have hd2:=ref_i' hd1 (by omega) h2i
 have hms:=ms_done inv (.inr (at_bad hlc (by omega)))
 have hd:=ref_6 hd2 (by omega) hq197 hq210 hms
 exact n_then ⟨_,rfl,H278,(GFrame.mk q29.1 ((q46.1:Nat):Int) i3.1 0 (GViewID.mk 0 0) (GViewID.mk 0 0) [] q196.1 l [] q209.1 0),[.int .u8 ((q29.1:Nat):Int),.int .i64 ((q46.1:Nat):Int),.int .u64 ((i3.1.N:Nat):Int),.int .i64 i3.1.P,.int .u16 0,.int .u64 0,.int .i64 0,.int .u64 0,.int .i64 0,.slice none 0 0,.int .u64 ((q196.1:Nat):Int),.slice A279 l.length c280,.slice none 0 0,.int .u64 ((q209.1:Nat):Int),.int .u64 0],cur,bad,hρ232,hρ233,hρ234,hρ235,hρ236,(hg231.trans hle281),(hp2.mono hle281),hf2,hlc,⟨none,0,0,A279,l.length,c280,none,0,0,rfl,hb35,(show IB ((q46.1:Nat):Int) from ⟨by omega,by omega⟩),hN,hP,(show 0 < 65536 from by omega),(show 0 < 18446744073709551616 from by omega),(show IB 0 from ⟨by omega,by omega⟩),(show 0 < 18446744073709551616 from by omega),(show IB 0 from ⟨by omega,by omega⟩),(Sl.nil _ _ none),hb198,sp283,(Sl.nil _ _ none),hb211,(show 0 < 18446744073709551616 from by omega)⟩,hd,(((hs282.p2).p2).p2)⟩
 have hp240:¬ ((((i:Nat):Int):Int) < ((q222.1:Nat):Int)):=of_decide_eq_false hc240
 refine g_no (yk 87 false rfl rfl hc240) rfl ?_
 refine g_no (yk 87 false rfl rfl hc240) rfl ?_
 refine g_no (yk 87 false rfl rfl hc240) rfl ?_
 refine g_no (yk 87 false rfl rfl hc240) rfl ?_
 refine g_no (yk 87 false rfl rfl hc240) rfl ?_
 refine st (v:=.bool false) (x_pick_f (.tmp rfl (cVb hc240)) .const) ?_
 refine c_nil (n_then (c_cond_f (t:=false) (.tmp rfl rfl) rfl ?_))
 refine c_exit (x_then (x_then (x_here (n_block ?_))))
 have hs284:=hs239.p2
 have:l.length * 24 ≤ 140737488351232:=by omega
 obtain ⟨H285,A286,c287,hle288,hs289,rfl,sp290⟩:=hs284.freezeSl (d:=kBs) okv hkv this
 have:=sp290.len; have:=sp290.le
 have hd1:=ref_head hq30 hq47
 have hd2:=ref_i' hd1 (by omega) h2i
 have hms:=ms_done inv (.inl (by omega))
 have hd:=ref_6 hd2 (by omega) hq197 hq210 hms
 exact n_then ⟨_,rfl,H285,(GFrame.mk q29.1 ((q46.1:Nat):Int) i3.1 0 (GViewID.mk 0 0) (GViewID.mk 0 0) [] q196.1 l [] q209.1 0),[.int .u8 ((q29.1:Nat):Int),.int .i64 ((q46.1:Nat):Int),.int .u64 ((i3.1.N:Nat):Int),.int .i64 i3.1.P,.int .u16 0,.int .u64 0,.int .i64 0,.int .u64 0,.int .i64 0,.slice none 0 0,.int .u64 ((q196.1:Nat):Int),.slice A286 l.length c287,.slice none 0 0,.int .u64 ((q209.1:Nat):Int),.int .u64 0],cur,bad,hρ232,hρ233,hρ234,hρ235,hρ236,(hg231.trans hle288),(hp2.mono hle288),hf2,hlc,⟨none,0,0,A286,l.length,c287,none,0,0,rfl,hb35,(show IB ((q46.1:Nat):Int) from ⟨by omega,by omega⟩),hN,hP,(show 0 < 65536 from by omega),(show 0 < 18446744073709551616 from by omega),(show IB 0 from ⟨by omega,by omega⟩),(show 0 < 18446744073709551616 from by omega),(show IB 0 from ⟨by omega,by omega⟩),(Sl.nil _ _ none),hb198,sp290,(Sl.nil _ _ none),hb211,(show 0 < 18446744073709551616 from by omega)⟩,hd,(((hs289.p2).p2).p2)⟩
 have hp193:¬ ((((q29.1:Nat):Int):Int) = 6):=of_decide_eq_false hc193
 refine c_cond_f (t:=false) (.tmp rfl (cVb hc193)) rfl ?_
 refine c_seq (c_region (st (v:=.bool (decide ((((q29.1:Nat):Int):Int) = 7))) (x_eql (k:=.u8) (a:=((q29.1:Nat):Int)) (b:=7) (.tmp rfl rfl) .const) ?_))
 refine st (v:=.bool (decide ((((q29.1:Nat):Int):Int) = 7))) (x_assign (.tmp rfl rfl)) ?_
 refine c_nil (n_then ?_)
 rcases Bool.eq_false_or_eq_true (decide ((((q29.1:Nat):Int):Int) = 7)) with hc291 | hc291
 have hp291:(((q29.1:Nat):Int):Int) = 7:=of_decide_eq_true hc291
 refine c_cond_t (t:=true) (.tmp rfl (cVb hc291)) rfl ?_
 refine c_seq (c_region (st (v:=.pointer (some ⟨g21,0,none⟩)) (x_move (.tmp rfl hρ78)) ?_))
 refine st_c cb51 .func (evs1 (.tmp rfl rfl)) (ruint_r hs80 hp1 hf1 (by omega)) ?_
 rintro e w292 ⟨q294,hq295,hb296,hf297,rfl,hs293⟩
 refine ⟨_,rfl,?_⟩
 have hl299:q294.2.1.length ≤ n11:=by have h1:=Suf.len hf297; have h2:=hp1.len; omega
 have:=atOf_bound (n:=n11) (cur:=q294.2.1) (bad:=q294.2.2) hl299
 refine st (v:=.pointer (some ⟨g36,0 + 10,none⟩)) (fa30_7 (.tmp rfl hρ79)) ?_
 have hs300:=hs293.p1
 refine st_m0 (sto22 (cs':=[.int .u8 ((q29.1:Nat):Int),.int .i64 ((q46.1:Nat):Int),.int .u64 ((i3.1.N:Nat):Int),.int .i64 i3.1.P,.int .u16 0,.int .u64 0,.int .i64 0,.int .u64 0,.int .i64 0,.slice none 0 0,.int .u64 ((q294.1:Nat):Int),.slice none 0 0,.slice none 0 0,.int .u64 0,.int .u64 0]) (i:=0 + 10) hs300 (v:=.int .u64 ((q294.1:Nat):Int)) (.tmp rfl rfl) (.tmp rfl rfl) rfl (Nat.le_of_ble_eq_true rfl) one1 rfl) ?_
 rintro w301 hs303
 refine c_nil (n_then (c_seq (c_region (st (v:=.pointer (some ⟨g21,0,none⟩)) (x_move (.tmp rfl hρ78)) ?_))))
 have hs304:=hs303.p1
 refine st_c cb51 .func (evs1 (.tmp rfl rfl)) (ruint_r hs304 hp1 hf297 (by omega)) ?_
 rintro e w305 ⟨q307,hq308,hb309,hf310,rfl,hs306⟩
 refine ⟨_,rfl,?_⟩
 have hl312:q307.2.1.length ≤ n11:=by have h1:=Suf.len hf310; have h2:=hp1.len; omega
 have:=atOf_bound (n:=n11) (cur:=q307.2.1) (bad:=q307.2.2) hl312
 refine st (v:=.pointer (some ⟨g36,0 + 13,none⟩)) (fa30_10 (.tmp rfl hρ79)) ?_
 have hs313:=hs306.p1
 refine st_m0 (sto22 (cs':=[.int .u8 ((q29.1:Nat):Int),.int .i64 ((q46.1:Nat):Int),.int .u64 ((i3.1.N:Nat):Int),.int .i64 i3.1.P,.int .u16 0,.int .u64 0,.int .i64 0,.int .u64 0,.int .i64 0,.slice none 0 0,.int .u64 ((q294.1:Nat):Int),.slice none 0 0,.slice none 0 0,.int .u64 ((q307.1:Nat):Int),.int .u64 0]) (i:=0 + 13) hs313 (v:=.int .u64 ((q307.1:Nat):Int)) (.tmp rfl rfl) (.tmp rfl rfl) rfl (Nat.le_of_ble_eq_true rfl) one1 rfl) ?_
 rintro w314 hs316
 refine c_nil (n_then (c_seq (c_region (st (v:=.pointer (some ⟨g21,0,none⟩)) (x_move (.tmp rfl hρ78)) ?_))))
 have hs317:=hs316.p1
 refine st_c cb51 .func (evs1 (.tmp rfl rfl)) (ruint_r hs317 hp1 hf310 (by omega)) ?_
 rintro e w318 ⟨q320,hq321,hb322,hf323,rfl,hs319⟩
 refine ⟨_,rfl,?_⟩
 have hl325:q320.2.1.length ≤ n11:=by have h1:=Suf.len hf323; have h2:=hp1.len; omega
 have:=atOf_bound (n:=n11) (cur:=q320.2.1) (bad:=q320.2.2) hl325
 refine st (v:=.pointer (some ⟨g36,0 + 14,none⟩)) (fa30_11 (.tmp rfl hρ79)) ?_
 have hs326:=hs319.p1
 refine st_m0 (sto22 (cs':=[.int .u8 ((q29.1:Nat):Int),.int .i64 ((q46.1:Nat):Int),.int .u64 ((i3.1.N:Nat):Int),.int .i64 i3.1.P,.int .u16 0,.int .u64 0,.int .i64 0,.int .u64 0,.int .i64 0,.slice none 0 0,.int .u64 ((q294.1:Nat):Int),.slice none 0 0,.slice none 0 0,.int .u64 ((q307.1:Nat):Int),.int .u64 ((q320.1:Nat):Int)]) (i:=0 + 14) hs326 (v:=.int .u64 ((q320.1:Nat):Int)) (.tmp rfl rfl) (.tmp rfl rfl) rfl (Nat.le_of_ble_eq_true rfl) one1 rfl) ?_
 rintro w327 hs329
 refine c_nil (n_then (c_region (st (v:=.pointer (some ⟨g21,0,none⟩)) (x_move (.tmp rfl hρ78)) ?_)))
 have hs330:=hs329.p1
 refine st_c cb53 .func (evs1 (.tmp rfl rfl)) (unitems_spec hs330 hp1 hf323 (by omega) ) ?_
 rintro e w332 ⟨H334,A336,n337,c338,q331,hle335,rfl,sp339,hq340,hf341,hs333⟩
 have:=sp339.len; have:=sp339.le; have:n337 * 32 ≤ 140737488351232:=sp339.bnd
 refine ⟨_,rfl,?_⟩
 have hl342:q331.2.1.length ≤ n11:=by have h1:=Suf.len hf341; have h2:=(hp1.mono hle335).len; omega
 have:=atOf_bound (n:=n11) (cur:=q331.2.1) (bad:=q331.2.2) hl342
 refine st (v:=.pointer (some ⟨g36,0 + 12,none⟩)) (fa30_9 (.tmp rfl hρ79)) ?_
 have hs343:=hs333.p1
 refine st_m0 (sto28 (cs':=[.int .u8 ((q29.1:Nat):Int),.int .i64 ((q46.1:Nat):Int),.int .u64 ((i3.1.N:Nat):Int),.int .i64 i3.1.P,.int .u16 0,.int .u64 0,.int .i64 0,.int .u64 0,.int .i64 0,.slice none 0 0,.int .u64 ((q294.1:Nat):Int),.slice none 0 0,.slice A336 n337 c338,.int .u64 ((q307.1:Nat):Int),.int .u64 ((q320.1:Nat):Int)]) (i:=0 + 12) hs343 (v:=.slice A336 n337 c338) (.tmp rfl rfl) (.tmp rfl rfl) rfl (Nat.le_of_ble_eq_true rfl) one1 rfl) ?_
 rintro w344 hs346
 refine c_nil (n_block ?_)
 have hd1:=ref_head hq30 hq47
 have hd2:=ref_i' hd1 (by omega) h2i
 have hd:=ref_7 hd2 (by omega) hq295 hq308 hq321 hq340
 exact n_then ⟨_,rfl,H334,(GFrame.mk q29.1 ((q46.1:Nat):Int) i3.1 0 (GViewID.mk 0 0) (GViewID.mk 0 0) [] q294.1 [] q331.1 q307.1 q320.1),[.int .u8 ((q29.1:Nat):Int),.int .i64 ((q46.1:Nat):Int),.int .u64 ((i3.1.N:Nat):Int),.int .i64 i3.1.P,.int .u16 0,.int .u64 0,.int .i64 0,.int .u64 0,.int .i64 0,.slice none 0 0,.int .u64 ((q294.1:Nat):Int),.slice none 0 0,.slice A336 n337 c338,.int .u64 ((q307.1:Nat):Int),.int .u64 ((q320.1:Nat):Int)],q331.2.1,q331.2.2,hρ75,hρ76,hρ77,hρ78,hρ79,hle335,(hp1.mono hle335),hf341,hl342,⟨none,0,0,none,0,0,A336,n337,c338,rfl,hb35,(show IB ((q46.1:Nat):Int) from ⟨by omega,by omega⟩),hN,hP,(show 0 < 65536 from by omega),(show 0 < 18446744073709551616 from by omega),(show IB 0 from ⟨by omega,by omega⟩),(show 0 < 18446744073709551616 from by omega),(show IB 0 from ⟨by omega,by omega⟩),(Sl.nil _ _ none),hb296,(Sl.nil _ _ none),sp339,hb309,hb322⟩,hd,(((hs346.p2).p1).p2)⟩
 have hp291:¬ ((((q29.1:Nat):Int):Int) = 7):=of_decide_eq_false hc291
 refine c_cond_f (t:=false) (.tmp rfl (cVb hc291)) rfl ?_
 refine c_skip (n_block ?_)
 have hd1:=ref_head hq30 hq47
 have hd2:=ref_i' hd1 (by omega) h2i
 have hd:=ref_0 hd2 (by omega) (by omega) (by omega) (by omega) (by omega) (by omega)
 exact n_then ⟨_,rfl,H56,(GFrame.mk q29.1 ((q46.1:Nat):Int) i3.1 0 (GViewID.mk 0 0) (GViewID.mk 0 0) [] 0 [] [] 0 0),[.int .u8 ((q29.1:Nat):Int),.int .i64 ((q46.1:Nat):Int),.int .u64 ((i3.1.N:Nat):Int),.int .i64 i3.1.P,.int .u16 0,.int .u64 0,.int .i64 0,.int .u64 0,.int .i64 0,.slice none 0 0,.int .u64 0,.slice none 0 0,.slice none 0 0,.int .u64 0,.int .u64 0],i3.2.1,i3.2.2,hρ75,hρ76,hρ77,hρ78,hρ79,(Hp.le.refl _),hp1,hf1,hl1,⟨none,0,0,none,0,0,none,0,0,rfl,hb35,(show IB ((q46.1:Nat):Int) from ⟨by omega,by omega⟩),hN,hP,(show 0 < 65536 from by omega),(show 0 < 18446744073709551616 from by omega),(show IB 0 from ⟨by omega,by omega⟩),(show 0 < 18446744073709551616 from by omega),(show IB 0 from ⟨by omega,by omega⟩),(Sl.nil _ _ none),(show 0 < 18446744073709551616 from by omega),(Sl.nil _ _ none),(Sl.nil _ _ none),(show 0 < 18446744073709551616 from by omega),(show 0 < 18446744073709551616 from by omega)⟩,hd,(((hs80.p2).p2).p2)⟩
 rintro ρ w ⟨H81,g3,cs3,cur3,bad3,hρ347,hρ348,hρ349,hρ350,hρ351,hg82,hp3,hf3,hl3,hr3,hd3,hs352⟩
 obtain ⟨A366,n367,c368,A371,n372,c373,A375,n376,c377,rfl,b353,⟨b354,b355⟩,b356,⟨b357,b358⟩,b359,b360,⟨b361,b362⟩,b363,⟨b364,b365⟩,hl369,b370,hl374,hl378,b379,b380⟩:=hr3
 have:=hl369.len; have:n367 * 48 ≤ 140737488351232:=hl369.bnd; have:=hl369.le
 have:=hl374.len; have:n372 * 24 ≤ 140737488351232:=hl374.bnd; have:=hl374.le
 have:=hl378.len; have:n376 * 32 ≤ 140737488351232:=hl378.bnd; have:=hl378.le
 have hbl:=openL_le b; have hbl9:b.length = n_b:=h_b.len
 refine c_seq (c_seq (t_region (L:=obj g21 88 [.slice A10 n11 c12,.int .i64 (atOf n11 cur3 bad3)]::obj g36 30 [.int .u8 ((g3.Kind:Nat):Int),.int .i64 g3.From,.int .u64 ((g3.ID.N:Nat):Int),.int .i64 g3.ID.P,.int .u16 ((g3.Set:Nat):Int),.int .u64 ((g3.Cur.N:Nat):Int),.int .i64 g3.Cur.P,.int .u64 ((g3.Prom.N:Nat):Int),.int .i64 g3.Prom.P,.slice A366 n367 c368,.int .u64 ((g3.Base:Nat):Int),.slice A371 n372 c373,.slice A375 n376 c377,.int .u64 ((g3.Ack:Nat):Int),.int .u64 ((g3.Safe:Nat):Int)]::obj g1 30 [.int .u8 0,.int .i64 0,.int .u64 0,.int .i64 0,.int .u16 0,.int .u64 0,.int .i64 0,.int .u64 0,.int .i64 0,.slice none 0 0,.int .u64 0,.slice none 0 0,.slice none 0 0,.int .u64 0,.int .u64 0]::L) (L':=obj g21 88 [.slice A10 n11 c12,.int .i64 (atOf n11 cur3 bad3)]::obj g36 30 [.int .u8 ((g3.Kind:Nat):Int),.int .i64 g3.From,.int .u64 ((g3.ID.N:Nat):Int),.int .i64 g3.ID.P,.int .u16 ((g3.Set:Nat):Int),.int .u64 ((g3.Cur.N:Nat):Int),.int .i64 g3.Cur.P,.int .u64 ((g3.Prom.N:Nat):Int),.int .i64 g3.Prom.P,.slice A366 n367 c368,.int .u64 ((g3.Base:Nat):Int),.slice A371 n372 c373,.slice A375 n376 c377,.int .u64 ((g3.Ack:Nat):Int),.int .u64 ((g3.Safe:Nat):Int)]::obj g1 30 [.int .u8 0,.int .i64 0,.int .u64 0,.int .i64 0,.int .u16 0,.int .u64 0,.int .i64 0,.int .u64 0,.int .i64 0,.slice none 0 0,.int .u64 0,.slice none 0 0,.slice none 0 0,.int .u64 0,.int .u64 0]::L) (Z:=[9]) (F:=[0,1]) (pl:=(.q 0 (.q 1 (.q 2 (.q 3 (.q 4 (.q 5 (.q 6 (.q 7 (.q 8 (.e 9 (.q 10 (.q 11 (.q 12 (.q 13 (.q 16 (.q 17 (.e 14 (.q 15 (.q 18 (.q 19 .done))))))))))))))))))))) mixed hs352 (fun u hu => hu) (by kernel_rfl) ?_))
 intro w381 hs382
 refine t_fr (k:=0) (v:=.pointer (some ⟨g21,0,none⟩)) rfl (fun w _ => (x_move (.tmp rfl hρ350))) ?_
 refine t_fr (k:=1) (v:=.pointer (some ⟨g21,0,none⟩)) rfl (fun w _ => (x_nilCheck (.tmp rfl rfl))) ?_
 refine t_st (k:=2) (v:=.pointer (some ⟨g21,0 + 1,none⟩)) rfl rfl (fun w hs => (fa88_1 (.tmp rfl rfl))) ?_
 refine t_st (k:=3) (v:=.int .i64 (atOf n11 cur3 bad3)) rfl rfl (fun w hs => (ld3 (.tmp rfl rfl) (hs.cell 0 rfl (0 + 1) rfl))) ?_
 refine t_st (k:=4) (v:=.slice A10 n11 c12) rfl rfl (fun w hs => (x_move (.tmp rfl hρ349))) ?_
 refine t_st (k:=5) (v:=.int .i64 ((n11:Nat):Int)) rfl rfl (fun w hs => (x_len (n:=n11) Try.underlying33 (.tmp rfl rfl))) ?_
 refine t_st (k:=6) (v:=.bool (decide (((atOf n11 cur3 bad3):Int) ≠ ((n11:Nat):Int)))) rfl rfl (fun w hs => (x_neq (k:=.i64) (a:=(atOf n11 cur3 bad3)) (b:=((n11:Nat):Int)) (.tmp rfl rfl) (.tmp rfl rfl))) ?_
 refine t_st (k:=7) (v:=.bool (decide (((atOf n11 cur3 bad3):Int) ≠ ((n11:Nat):Int)))) rfl rfl (fun w hs => (x_move (.tmp rfl rfl))) ?_
 rcases Bool.eq_false_or_eq_true (decide (((atOf n11 cur3 bad3):Int) ≠ ((n11:Nat):Int))) with hc383 | hc383
 have hp383:((atOf n11 cur3 bad3):Int) ≠ ((n11:Nat):Int):=of_decide_eq_true hc383
 refine t_no (k:=8) rfl (yk 124 true rfl rfl hc383) rfl ?_
 refine t_eff (k:=9) rfl ?_
 refine g_no (yk 124 true rfl rfl hc383) rfl ?_
 refine t_new (S':=fun u => St H81 u (obj g21 88 [.slice A10 n11 c12,.int .i64 (atOf n11 cur3 bad3)]::obj g36 30 [.int .u8 ((g3.Kind:Nat):Int),.int .i64 g3.From,.int .u64 ((g3.ID.N:Nat):Int),.int .i64 g3.ID.P,.int .u16 ((g3.Set:Nat):Int),.int .u64 ((g3.Cur.N:Nat):Int),.int .i64 g3.Cur.P,.int .u64 ((g3.Prom.N:Nat):Int),.int .i64 g3.Prom.P,.slice A366 n367 c368,.int .u64 ((g3.Base:Nat):Int),.slice A371 n372 c373,.slice A375 n376 c377,.int .u64 ((g3.Ack:Nat):Int),.int .u64 ((g3.Safe:Nat):Int)]::obj g1 30 [.int .u8 0,.int .i64 0,.int .u64 0,.int .i64 0,.int .u16 0,.int .u64 0,.int .i64 0,.int .u64 0,.int .i64 0,.slice none 0 0,.int .u64 0,.slice none 0 0,.slice none 0 0,.int .u64 0,.int .u64 0]::L)) rfl hs382 ?_
 refine t_no (k:=10) rfl (yk 124 true rfl rfl hc383) rfl ?_
 refine t_st (k:=11) (v:=.bool true) rfl rfl (fun w hs => (x_pick_t (.tmp rfl (cVb hc383)) .const)) ?_
 refine t_st (k:=12) (v:=.bool true) rfl rfl (fun w hs => (x_move (.tmp rfl rfl))) ?_
 refine t_no (k:=13) rfl (yl (dj:=129) (b:=true) rfl rfl rfl) rfl ?_
 refine t_no (k:=16) rfl (yl (dj:=129) (b:=true) rfl rfl rfl) rfl ?_
 refine t_no (k:=17) rfl (yl (dj:=129) (b:=true) rfl rfl rfl) rfl ?_
 refine t_eff (k:=14) rfl ?_
 refine g_no (yl (dj:=129) (b:=true) rfl rfl rfl) rfl ?_
 refine t_on (S':=fun u => St H81 u (obj g21 88 [.slice A10 n11 c12,.int .i64 (atOf n11 cur3 bad3)]::obj g36 30 [.int .u8 ((g3.Kind:Nat):Int),.int .i64 g3.From,.int .u64 ((g3.ID.N:Nat):Int),.int .i64 g3.ID.P,.int .u16 ((g3.Set:Nat):Int),.int .u64 ((g3.Cur.N:Nat):Int),.int .i64 g3.Cur.P,.int .u64 ((g3.Prom.N:Nat):Int),.int .i64 g3.Prom.P,.slice A366 n367 c368,.int .u64 ((g3.Base:Nat):Int),.slice A371 n372 c373,.slice A375 n376 c377,.int .u64 ((g3.Ack:Nat):Int),.int .u64 ((g3.Safe:Nat):Int)]::obj g1 30 [.int .u8 0,.int .i64 0,.int .u64 0,.int .i64 0,.int .u16 0,.int .u64 0,.int .i64 0,.int .u64 0,.int .i64 0,.slice none 0 0,.int .u64 0,.slice none 0 0,.slice none 0 0,.int .u64 0,.int .u64 0]::L)) (fun u hu => hu) hs382 ?_
 refine t_no (k:=15) rfl (yl (dj:=129) (b:=true) rfl rfl rfl) rfl ?_
 refine t_no (k:=18) rfl (yl (dj:=129) (b:=true) rfl rfl rfl) rfl ?_
 refine t_st (k:=19) (v:=.bool true) rfl rfl (fun w hs => (x_pick_t (.tmp rfl rfl) .const)) ?_
 refine t_nil ?_
 refine n_then (c_cond_t (t:=true) (.tmp rfl rfl) rfl ?_)
 refine c_seq (c_region (st (v:=.agg #[.int .u8 0,.int .i64 0,.int .u64 0,.int .i64 0,.int .u16 0,.int .u64 0,.int .i64 0,.int .u64 0,.int .i64 0,.slice none 0 0,.int .u64 0,.slice none 0 0,.slice none 0 0,.int .u64 0,.int .u64 0]) (bl30 (ps:=[]) Evp.nil rfl) ?_))
 have hs384:=hs382.p2
 refine st_m0 (sto30 (cs':=[.int .u8 0,.int .i64 0,.int .u64 0,.int .i64 0,.int .u16 0,.int .u64 0,.int .i64 0,.int .u64 0,.int .i64 0,.slice none 0 0,.int .u64 0,.slice none 0 0,.slice none 0 0,.int .u64 0,.int .u64 0]) (i:=0) hs384 (v:=.agg #[.int .u8 0,.int .i64 0,.int .u64 0,.int .i64 0,.int .u16 0,.int .u64 0,.int .i64 0,.int .u64 0,.int .i64 0,.slice none 0 0,.int .u64 0,.slice none 0 0,.slice none 0 0,.int .u64 0,.int .u64 0]) (.tmp rfl hρ348) (.tmp rfl rfl) rfl (Nat.le_of_ble_eq_true rfl) (oneA rfl) rfl) ?_
 rintro w385 hs387
 refine st (v:=.int .i64 3) (x_assign .const) ?_
 refine c_nil (n_then (c_ret (r_then (leave_ret (res_two (v:=.agg #[.int .u8 0,.int .i64 0,.int .u64 0,.int .i64 0,.int .u16 0,.int .u64 0,.int .i64 0,.int .u64 0,.int .i64 0,.slice none 0 0,.int .u64 0,.slice none 0 0,.slice none 0 0,.int .u64 0,.int .u64 0]) (u:=.int .i64 3) rfl (.mkCell rfl hρ348 (lv30 (cs:=[.int .u8 0,.int .i64 0,.int .u64 0,.int .i64 0,.int .u16 0,.int .u64 0,.int .i64 0,.int .u64 0,.int .i64 0,.slice none 0 0,.int .u64 0,.slice none 0 0,.slice none 0 0,.int .u64 0,.int .u64 0]) (hs387.at_ 0 rfl 0 rfl) rfl)) (.mk rfl rfl)) ?_))))
 have hre:=refA_read (by omega) (Classical.not_not.1 hp16) hd3
 have hans388:refA b = (zF,3):=hre.trans (refF_at (at_not hl3 hp383))
 rw [hans388]
 exact ⟨H81,[.int .u8 0,.int .i64 0,.int .u64 0,.int .i64 0,.int .u16 0,.int .u64 0,.int .i64 0,.int .u64 0,.int .i64 0,.slice none 0 0,.int .u64 0,.slice none 0 0,.slice none 0 0,.int .u64 0,.int .u64 0],(hg57.trans hg82),rfl,⟨none,0,0,none,0,0,none,0,0,rfl,(show 0 < 256 from by omega),(show IB 0 from ⟨by omega,by omega⟩),(show 0 < 18446744073709551616 from by omega),(show IB 0 from ⟨by omega,by omega⟩),(show 0 < 65536 from by omega),(show 0 < 18446744073709551616 from by omega),(show IB 0 from ⟨by omega,by omega⟩),(show 0 < 18446744073709551616 from by omega),(show IB 0 from ⟨by omega,by omega⟩),(Sl.nil _ _ none),(show 0 < 18446744073709551616 from by omega),(Sl.nil _ _ none),(Sl.nil _ _ none),(show 0 < 18446744073709551616 from by omega),(show 0 < 18446744073709551616 from by omega)⟩,hs387.drop.drop.drop⟩
 have hp383:¬ (((atOf n11 cur3 bad3):Int) ≠ ((n11:Nat):Int)):=of_decide_eq_false hc383
 refine t_yes (k:=8) (v:=.agg #[.int .u8 ((g3.Kind:Nat):Int),.int .i64 g3.From,.int .u64 ((g3.ID.N:Nat):Int),.int .i64 g3.ID.P,.int .u16 ((g3.Set:Nat):Int),.int .u64 ((g3.Cur.N:Nat):Int),.int .i64 g3.Cur.P,.int .u64 ((g3.Prom.N:Nat):Int),.int .i64 g3.Prom.P,.slice A366 n367 c368,.int .u64 ((g3.Base:Nat):Int),.slice A371 n372 c373,.slice A375 n376 c377,.int .u64 ((g3.Ack:Nat):Int),.int .u64 ((g3.Safe:Nat):Int)]) rfl rfl (yk 124 false rfl rfl hc383) (fun w hs => (ld30 (cs:=[.int .u8 ((g3.Kind:Nat):Int),.int .i64 g3.From,.int .u64 ((g3.ID.N:Nat):Int),.int .i64 g3.ID.P,.int .u16 ((g3.Set:Nat):Int),.int .u64 ((g3.Cur.N:Nat):Int),.int .i64 g3.Cur.P,.int .u64 ((g3.Prom.N:Nat):Int),.int .i64 g3.Prom.P,.slice A366 n367 c368,.int .u64 ((g3.Base:Nat):Int),.slice A371 n372 c373,.slice A375 n376 c377,.int .u64 ((g3.Ack:Nat):Int),.int .u64 ((g3.Safe:Nat):Int)]) (.tmp rfl hρ351) (hs.at_ 1 rfl (0) rfl) rfl)) ?_
 refine t_eff (k:=9) rfl ?_
 refine g_yes (yk 124 false rfl rfl hc383) ?_
 have hr389:kFrame.rep H81 g3 [.int .u8 ((g3.Kind:Nat):Int),.int .i64 g3.From,.int .u64 ((g3.ID.N:Nat):Int),.int .i64 g3.ID.P,.int .u16 ((g3.Set:Nat):Int),.int .u64 ((g3.Cur.N:Nat):Int),.int .i64 g3.Cur.P,.int .u64 ((g3.Prom.N:Nat):Int),.int .i64 g3.Prom.P,.slice A366 n367 c368,.int .u64 ((g3.Base:Nat):Int),.slice A371 n372 c373,.slice A375 n376 c377,.int .u64 ((g3.Ack:Nat):Int),.int .u64 ((g3.Safe:Nat):Int)]:=⟨A366,n367,c368,A371,n372,c373,A375,n376,c377,rfl,b353,⟨b354,b355⟩,b356,⟨b357,b358⟩,b359,b360,⟨b361,b362⟩,b363,⟨b364,b365⟩,hl369,b370,hl374,hl378,b379,b380⟩
 refine st_c cb12 .func (evs1 (.tmp rfl rfl)) (rform_frame hs382 g3 hr389 ) ?_
 rintro e w390 ⟨rfl,hs391⟩
 refine ⟨_,rfl,?_⟩
 refine t_new (S':=fun u => St H81 u (obj g21 88 [.slice A10 n11 c12,.int .i64 (atOf n11 cur3 bad3)]::obj g36 30 [.int .u8 ((g3.Kind:Nat):Int),.int .i64 g3.From,.int .u64 ((g3.ID.N:Nat):Int),.int .i64 g3.ID.P,.int .u16 ((g3.Set:Nat):Int),.int .u64 ((g3.Cur.N:Nat):Int),.int .i64 g3.Cur.P,.int .u64 ((g3.Prom.N:Nat):Int),.int .i64 g3.Prom.P,.slice A366 n367 c368,.int .u64 ((g3.Base:Nat):Int),.slice A371 n372 c373,.slice A375 n376 c377,.int .u64 ((g3.Ack:Nat):Int),.int .u64 ((g3.Safe:Nat):Int)]::obj g1 30 [.int .u8 0,.int .i64 0,.int .u64 0,.int .i64 0,.int .u16 0,.int .u64 0,.int .i64 0,.int .u64 0,.int .i64 0,.slice none 0 0,.int .u64 0,.slice none 0 0,.slice none 0 0,.int .u64 0,.int .u64 0]::L)) rfl hs391 ?_
 refine t_yes (k:=10) (v:=.bool (!(formC g3))) rfl rfl (yk 124 false rfl rfl hc383) (fun w hs => (x_not (.tmp rfl rfl))) ?_
 refine t_st (k:=11) (v:=.bool (!(formC g3))) rfl rfl (fun w hs => (x_pick_f (.tmp rfl (cVb hc383)) (.tmp rfl rfl))) ?_
 refine t_st (k:=12) (v:=.bool (!(formC g3))) rfl rfl (fun w hs => (x_move (.tmp rfl rfl))) ?_
 rcases Bool.eq_false_or_eq_true (formC g3) with hc392 | hc392
 refine t_yes (k:=13) (v:=.agg #[.int .u8 ((g3.Kind:Nat):Int),.int .i64 g3.From,.int .u64 ((g3.ID.N:Nat):Int),.int .i64 g3.ID.P,.int .u16 ((g3.Set:Nat):Int),.int .u64 ((g3.Cur.N:Nat):Int),.int .i64 g3.Cur.P,.int .u64 ((g3.Prom.N:Nat):Int),.int .i64 g3.Prom.P,.slice A366 n367 c368,.int .u64 ((g3.Base:Nat):Int),.slice A371 n372 c373,.slice A375 n376 c377,.int .u64 ((g3.Ack:Nat):Int),.int .u64 ((g3.Safe:Nat):Int)]) rfl rfl (yl (dj:=129) (b:=false) rfl rfl (cVb (by rw [hc392]; rfl))) (fun w hs => (ld30 (cs:=[.int .u8 ((g3.Kind:Nat):Int),.int .i64 g3.From,.int .u64 ((g3.ID.N:Nat):Int),.int .i64 g3.ID.P,.int .u16 ((g3.Set:Nat):Int),.int .u64 ((g3.Cur.N:Nat):Int),.int .i64 g3.Cur.P,.int .u64 ((g3.Prom.N:Nat):Int),.int .i64 g3.Prom.P,.slice A366 n367 c368,.int .u64 ((g3.Base:Nat):Int),.slice A371 n372 c373,.slice A375 n376 c377,.int .u64 ((g3.Ack:Nat):Int),.int .u64 ((g3.Safe:Nat):Int)]) (.tmp rfl hρ351) (hs.at_ 1 rfl (0) rfl) rfl)) ?_
 refine t_yes (k:=16) (v:=.slice A_b n_b c_b) rfl rfl (yl (dj:=129) (b:=false) rfl rfl (cVb (by rw [hc392]; rfl))) (fun w hs => (x_move (.tmp rfl hρ347))) ?_
 refine t_yes (k:=17) (v:=.string (bstr b)) rfl rfl (yl (dj:=129) (b:=false) rfl rfl (cVb (by rw [hc392]; rfl))) (fun w hs => (((h_b.toBs.mono hg57).mono hg82).str Try.underlying33 Try.underlying5 Try.underlying9 hs (.tmp rfl rfl))) ?_
 refine t_eff (k:=14) rfl ?_
 refine g_yes (yl (dj:=129) (b:=false) rfl rfl (cVb (by rw [hc392]; rfl))) ?_
 have hr393:kFrame.rep H81 g3 [.int .u8 ((g3.Kind:Nat):Int),.int .i64 g3.From,.int .u64 ((g3.ID.N:Nat):Int),.int .i64 g3.ID.P,.int .u16 ((g3.Set:Nat):Int),.int .u64 ((g3.Cur.N:Nat):Int),.int .i64 g3.Cur.P,.int .u64 ((g3.Prom.N:Nat):Int),.int .i64 g3.Prom.P,.slice A366 n367 c368,.int .u64 ((g3.Base:Nat):Int),.slice A371 n372 c373,.slice A375 n376 c377,.int .u64 ((g3.Ack:Nat):Int),.int .u64 ((g3.Safe:Nat):Int)]:=⟨A366,n367,c368,A371,n372,c373,A375,n376,c377,rfl,b353,⟨b354,b355⟩,b356,⟨b357,b358⟩,b359,b360,⟨b361,b362⟩,b363,⟨b364,b365⟩,hl369,b370,hl374,hl378,b379,b380⟩
 have hbg:=ref_big (openL_small h_b.lt) hd3 (at_end hl3 hp383).1
 have hfk:=form_kind hc392
 have hfk:=form_kind hc392
 refine st_c cb16 .func (evs1 (.tmp rfl rfl)) (rencode_spec hs391 g3 hr393 (Nat.le_trans hbg.2 (by omega)) hfk.1 hfk.2) ?_
 rintro e w394 ⟨H396,v398,hle397,rfl,sm401,ok399,hs395⟩
 refine ⟨_,rfl,?_⟩
 refine t_on (S':=fun u => St H396 u (row 5 1 v398 ((seal_ (bodyE g3)).length) ((seal_ (bodyE g3)).map encB)::obj g21 88 [.slice A10 n11 c12,.int .i64 (atOf n11 cur3 bad3)]::obj g36 30 [.int .u8 ((g3.Kind:Nat):Int),.int .i64 g3.From,.int .u64 ((g3.ID.N:Nat):Int),.int .i64 g3.ID.P,.int .u16 ((g3.Set:Nat):Int),.int .u64 ((g3.Cur.N:Nat):Int),.int .i64 g3.Cur.P,.int .u64 ((g3.Prom.N:Nat):Int),.int .i64 g3.Prom.P,.slice A366 n367 c368,.int .u64 ((g3.Base:Nat):Int),.slice A371 n372 c373,.slice A375 n376 c377,.int .u64 ((g3.Ack:Nat):Int),.int .u64 ((g3.Safe:Nat):Int)]::obj g1 30 [.int .u8 0,.int .i64 0,.int .u64 0,.int .i64 0,.int .u16 0,.int .u64 0,.int .i64 0,.int .u64 0,.int .i64 0,.slice none 0 0,.int .u64 0,.slice none 0 0,.slice none 0 0,.int .u64 0,.int .u64 0]::L)) (fun u hu => hu.drop.weaken hle397) hs395 ?_
 refine t_yes (k:=15) (v:=.string (bstr (seal_ (bodyE g3)))) rfl rfl (yl (dj:=129) (b:=false) rfl rfl (cVb (by rw [hc392]; rfl))) (fun w hs => (hs.rowStr Try.underlying33 Try.underlying5 Try.underlying9 0 rfl ok399 (.tmp rfl rfl))) ?_
 refine t_yes (k:=18) (v:=.bool (!decide ((bstr (seal_ (bodyE g3))) = (bstr b)))) rfl rfl (yl (dj:=129) (b:=false) rfl rfl (cVb (by rw [hc392]; rfl))) (fun w hs => (x_neqS (.tmp rfl rfl) (.tmp rfl rfl))) ?_
 refine t_st (k:=19) (v:=.bool (!decide ((bstr (seal_ (bodyE g3))) = (bstr b)))) rfl rfl (fun w hs => (x_pick_f (.tmp rfl (cVb (by rw [hc392]; rfl))) (.tmp rfl rfl))) ?_
 refine t_nil ?_
 refine n_then ?_
 rcases Bool.eq_false_or_eq_true (decide ((bstr (seal_ (bodyE g3))) = (bstr b))) with hc402 | hc402
 have hp402:(bstr (seal_ (bodyE g3))) = (bstr b):=of_decide_eq_true hc402
 refine c_cond_f (t:=false) (.tmp rfl (cVb (by rw [hc402]; rfl))) rfl ?_
 refine c_skip (n_then (c_seq (c_region (st (v:=.agg #[.int .u8 ((g3.Kind:Nat):Int),.int .i64 g3.From,.int .u64 ((g3.ID.N:Nat):Int),.int .i64 g3.ID.P,.int .u16 ((g3.Set:Nat):Int),.int .u64 ((g3.Cur.N:Nat):Int),.int .i64 g3.Cur.P,.int .u64 ((g3.Prom.N:Nat):Int),.int .i64 g3.Prom.P,.slice A366 n367 c368,.int .u64 ((g3.Base:Nat):Int),.slice A371 n372 c373,.slice A375 n376 c377,.int .u64 ((g3.Ack:Nat):Int),.int .u64 ((g3.Safe:Nat):Int)]) (ld30 (cs:=[.int .u8 ((g3.Kind:Nat):Int),.int .i64 g3.From,.int .u64 ((g3.ID.N:Nat):Int),.int .i64 g3.ID.P,.int .u16 ((g3.Set:Nat):Int),.int .u64 ((g3.Cur.N:Nat):Int),.int .i64 g3.Cur.P,.int .u64 ((g3.Prom.N:Nat):Int),.int .i64 g3.Prom.P,.slice A366 n367 c368,.int .u64 ((g3.Base:Nat):Int),.slice A371 n372 c373,.slice A375 n376 c377,.int .u64 ((g3.Ack:Nat):Int),.int .u64 ((g3.Safe:Nat):Int)]) (.tmp rfl hρ351) (hs395.at_ 2 rfl (0) rfl) rfl) ?_))))
 have hs403:=hs395.p3
 refine st_m0 (sto30 (cs':=[.int .u8 ((g3.Kind:Nat):Int),.int .i64 g3.From,.int .u64 ((g3.ID.N:Nat):Int),.int .i64 g3.ID.P,.int .u16 ((g3.Set:Nat):Int),.int .u64 ((g3.Cur.N:Nat):Int),.int .i64 g3.Cur.P,.int .u64 ((g3.Prom.N:Nat):Int),.int .i64 g3.Prom.P,.slice A366 n367 c368,.int .u64 ((g3.Base:Nat):Int),.slice A371 n372 c373,.slice A375 n376 c377,.int .u64 ((g3.Ack:Nat):Int),.int .u64 ((g3.Safe:Nat):Int)]) (i:=0) hs403 (v:=.agg #[.int .u8 ((g3.Kind:Nat):Int),.int .i64 g3.From,.int .u64 ((g3.ID.N:Nat):Int),.int .i64 g3.ID.P,.int .u16 ((g3.Set:Nat):Int),.int .u64 ((g3.Cur.N:Nat):Int),.int .i64 g3.Cur.P,.int .u64 ((g3.Prom.N:Nat):Int),.int .i64 g3.Prom.P,.slice A366 n367 c368,.int .u64 ((g3.Base:Nat):Int),.slice A371 n372 c373,.slice A375 n376 c377,.int .u64 ((g3.Ack:Nat):Int),.int .u64 ((g3.Safe:Nat):Int)]) (.tmp rfl hρ348) (.tmp rfl rfl) rfl (Nat.le_of_ble_eq_true rfl) (oneA rfl) rfl) ?_
 rintro w404 hs406
 refine st (v:=.int .i64 0) (x_assign .const) ?_
 refine c_nil (n_then (c_ret (leave_ret (res_two (v:=.agg #[.int .u8 ((g3.Kind:Nat):Int),.int .i64 g3.From,.int .u64 ((g3.ID.N:Nat):Int),.int .i64 g3.ID.P,.int .u16 ((g3.Set:Nat):Int),.int .u64 ((g3.Cur.N:Nat):Int),.int .i64 g3.Cur.P,.int .u64 ((g3.Prom.N:Nat):Int),.int .i64 g3.Prom.P,.slice A366 n367 c368,.int .u64 ((g3.Base:Nat):Int),.slice A371 n372 c373,.slice A375 n376 c377,.int .u64 ((g3.Ack:Nat):Int),.int .u64 ((g3.Safe:Nat):Int)]) (u:=.int .i64 0) rfl (.mkCell rfl hρ348 (lv30 (cs:=[.int .u8 ((g3.Kind:Nat):Int),.int .i64 g3.From,.int .u64 ((g3.ID.N:Nat):Int),.int .i64 g3.ID.P,.int .u16 ((g3.Set:Nat):Int),.int .u64 ((g3.Cur.N:Nat):Int),.int .i64 g3.Cur.P,.int .u64 ((g3.Prom.N:Nat):Int),.int .i64 g3.Prom.P,.slice A366 n367 c368,.int .u64 ((g3.Base:Nat):Int),.slice A371 n372 c373,.slice A375 n376 c377,.int .u64 ((g3.Ack:Nat):Int),.int .u64 ((g3.Safe:Nat):Int)]) (hs406.at_ 0 rfl 0 rfl) rfl)) (.mk rfl rfl)) ?_)))
 have hre:=refA_read (by omega) (Classical.not_not.1 hp16) hd3
 have hans407:refA b = (g3,0):=hre.trans (refF_yes (at_end hl3 hp383) hc392 ((bstr_inj sm401 h_b.lt).1 (of_decide_eq_true hc402)))
 rw [hans407]
 exact ⟨H396,[.int .u8 ((g3.Kind:Nat):Int),.int .i64 g3.From,.int .u64 ((g3.ID.N:Nat):Int),.int .i64 g3.ID.P,.int .u16 ((g3.Set:Nat):Int),.int .u64 ((g3.Cur.N:Nat):Int),.int .i64 g3.Cur.P,.int .u64 ((g3.Prom.N:Nat):Int),.int .i64 g3.Prom.P,.slice A366 n367 c368,.int .u64 ((g3.Base:Nat):Int),.slice A371 n372 c373,.slice A375 n376 c377,.int .u64 ((g3.Ack:Nat):Int),.int .u64 ((g3.Safe:Nat):Int)],((hg57.trans hg82).trans hle397),rfl,⟨A366,n367,c368,A371,n372,c373,A375,n376,c377,rfl,b353,⟨b354,b355⟩,b356,⟨b357,b358⟩,b359,b360,⟨b361,b362⟩,b363,⟨b364,b365⟩,(hl369.mono hle397),b370,(hl374.mono hle397),(hl378.mono hle397),b379,b380⟩,hs406.drop.drop.drop.drop⟩
 have hp402:¬ ((bstr (seal_ (bodyE g3))) = (bstr b)):=of_decide_eq_false hc402
 refine c_cond_t (t:=true) (.tmp rfl (cVb (by rw [hc402]; rfl))) rfl ?_
 refine c_seq (c_region (st (v:=.agg #[.int .u8 0,.int .i64 0,.int .u64 0,.int .i64 0,.int .u16 0,.int .u64 0,.int .i64 0,.int .u64 0,.int .i64 0,.slice none 0 0,.int .u64 0,.slice none 0 0,.slice none 0 0,.int .u64 0,.int .u64 0]) (bl30 (ps:=[]) Evp.nil rfl) ?_))
 have hs408:=hs395.p3
 refine st_m0 (sto30 (cs':=[.int .u8 0,.int .i64 0,.int .u64 0,.int .i64 0,.int .u16 0,.int .u64 0,.int .i64 0,.int .u64 0,.int .i64 0,.slice none 0 0,.int .u64 0,.slice none 0 0,.slice none 0 0,.int .u64 0,.int .u64 0]) (i:=0) hs408 (v:=.agg #[.int .u8 0,.int .i64 0,.int .u64 0,.int .i64 0,.int .u16 0,.int .u64 0,.int .i64 0,.int .u64 0,.int .i64 0,.slice none 0 0,.int .u64 0,.slice none 0 0,.slice none 0 0,.int .u64 0,.int .u64 0]) (.tmp rfl hρ348) (.tmp rfl rfl) rfl (Nat.le_of_ble_eq_true rfl) (oneA rfl) rfl) ?_
 rintro w409 hs411
 refine st (v:=.int .i64 3) (x_assign .const) ?_
 refine c_nil (n_then (c_ret (r_then (leave_ret (res_two (v:=.agg #[.int .u8 0,.int .i64 0,.int .u64 0,.int .i64 0,.int .u16 0,.int .u64 0,.int .i64 0,.int .u64 0,.int .i64 0,.slice none 0 0,.int .u64 0,.slice none 0 0,.slice none 0 0,.int .u64 0,.int .u64 0]) (u:=.int .i64 3) rfl (.mkCell rfl hρ348 (lv30 (cs:=[.int .u8 0,.int .i64 0,.int .u64 0,.int .i64 0,.int .u16 0,.int .u64 0,.int .i64 0,.int .u64 0,.int .i64 0,.slice none 0 0,.int .u64 0,.slice none 0 0,.slice none 0 0,.int .u64 0,.int .u64 0]) (hs411.at_ 0 rfl 0 rfl) rfl)) (.mk rfl rfl)) ?_))))
 have hre:=refA_read (by omega) (Classical.not_not.1 hp16) hd3
 have hans412:refA b = (zF,3):=hre.trans (refF_enc (fun h9 => of_decide_eq_false hc402 (congrArg bstr h9)))
 rw [hans412]
 exact ⟨H396,[.int .u8 0,.int .i64 0,.int .u64 0,.int .i64 0,.int .u16 0,.int .u64 0,.int .i64 0,.int .u64 0,.int .i64 0,.slice none 0 0,.int .u64 0,.slice none 0 0,.slice none 0 0,.int .u64 0,.int .u64 0],((hg57.trans hg82).trans hle397),rfl,⟨none,0,0,none,0,0,none,0,0,rfl,(show 0 < 256 from by omega),(show IB 0 from ⟨by omega,by omega⟩),(show 0 < 18446744073709551616 from by omega),(show IB 0 from ⟨by omega,by omega⟩),(show 0 < 65536 from by omega),(show 0 < 18446744073709551616 from by omega),(show IB 0 from ⟨by omega,by omega⟩),(show 0 < 18446744073709551616 from by omega),(show IB 0 from ⟨by omega,by omega⟩),(Sl.nil _ _ none),(show 0 < 18446744073709551616 from by omega),(Sl.nil _ _ none),(Sl.nil _ _ none),(show 0 < 18446744073709551616 from by omega),(show 0 < 18446744073709551616 from by omega)⟩,hs411.drop.drop.drop.drop⟩
 refine t_no (k:=13) rfl (yl (dj:=129) (b:=true) rfl rfl (cVb (by rw [hc392]; rfl))) rfl ?_
 refine t_no (k:=16) rfl (yl (dj:=129) (b:=true) rfl rfl (cVb (by rw [hc392]; rfl))) rfl ?_
 refine t_no (k:=17) rfl (yl (dj:=129) (b:=true) rfl rfl (cVb (by rw [hc392]; rfl))) rfl ?_
 refine t_eff (k:=14) rfl ?_
 refine g_no (yl (dj:=129) (b:=true) rfl rfl (cVb (by rw [hc392]; rfl))) rfl ?_
 refine t_on (S':=fun u => St H81 u (obj g21 88 [.slice A10 n11 c12,.int .i64 (atOf n11 cur3 bad3)]::obj g36 30 [.int .u8 ((g3.Kind:Nat):Int),.int .i64 g3.From,.int .u64 ((g3.ID.N:Nat):Int),.int .i64 g3.ID.P,.int .u16 ((g3.Set:Nat):Int),.int .u64 ((g3.Cur.N:Nat):Int),.int .i64 g3.Cur.P,.int .u64 ((g3.Prom.N:Nat):Int),.int .i64 g3.Prom.P,.slice A366 n367 c368,.int .u64 ((g3.Base:Nat):Int),.slice A371 n372 c373,.slice A375 n376 c377,.int .u64 ((g3.Ack:Nat):Int),.int .u64 ((g3.Safe:Nat):Int)]::obj g1 30 [.int .u8 0,.int .i64 0,.int .u64 0,.int .i64 0,.int .u16 0,.int .u64 0,.int .i64 0,.int .u64 0,.int .i64 0,.slice none 0 0,.int .u64 0,.slice none 0 0,.slice none 0 0,.int .u64 0,.int .u64 0]::L)) (fun u hu => hu) hs391 ?_
 refine t_no (k:=15) rfl (yl (dj:=129) (b:=true) rfl rfl (cVb (by rw [hc392]; rfl))) rfl ?_
 refine t_no (k:=18) rfl (yl (dj:=129) (b:=true) rfl rfl (cVb (by rw [hc392]; rfl))) rfl ?_
 refine t_st (k:=19) (v:=.bool true) rfl rfl (fun w hs => (x_pick_t (.tmp rfl (cVb (by rw [hc392]; rfl))) .const)) ?_
 refine t_nil ?_
 refine n_then (c_cond_t (t:=true) (.tmp rfl rfl) rfl ?_)
 refine c_seq (c_region (st (v:=.agg #[.int .u8 0,.int .i64 0,.int .u64 0,.int .i64 0,.int .u16 0,.int .u64 0,.int .i64 0,.int .u64 0,.int .i64 0,.slice none 0 0,.int .u64 0,.slice none 0 0,.slice none 0 0,.int .u64 0,.int .u64 0]) (bl30 (ps:=[]) Evp.nil rfl) ?_))
 have hs413:=hs391.p2
 refine st_m0 (sto30 (cs':=[.int .u8 0,.int .i64 0,.int .u64 0,.int .i64 0,.int .u16 0,.int .u64 0,.int .i64 0,.int .u64 0,.int .i64 0,.slice none 0 0,.int .u64 0,.slice none 0 0,.slice none 0 0,.int .u64 0,.int .u64 0]) (i:=0) hs413 (v:=.agg #[.int .u8 0,.int .i64 0,.int .u64 0,.int .i64 0,.int .u16 0,.int .u64 0,.int .i64 0,.int .u64 0,.int .i64 0,.slice none 0 0,.int .u64 0,.slice none 0 0,.slice none 0 0,.int .u64 0,.int .u64 0]) (.tmp rfl hρ348) (.tmp rfl rfl) rfl (Nat.le_of_ble_eq_true rfl) (oneA rfl) rfl) ?_
 rintro w414 hs416
 refine st (v:=.int .i64 3) (x_assign .const) ?_
 refine c_nil (n_then (c_ret (r_then (leave_ret (res_two (v:=.agg #[.int .u8 0,.int .i64 0,.int .u64 0,.int .i64 0,.int .u16 0,.int .u64 0,.int .i64 0,.int .u64 0,.int .i64 0,.slice none 0 0,.int .u64 0,.slice none 0 0,.slice none 0 0,.int .u64 0,.int .u64 0]) (u:=.int .i64 3) rfl (.mkCell rfl hρ348 (lv30 (cs:=[.int .u8 0,.int .i64 0,.int .u64 0,.int .i64 0,.int .u16 0,.int .u64 0,.int .i64 0,.int .u64 0,.int .i64 0,.slice none 0 0,.int .u64 0,.slice none 0 0,.slice none 0 0,.int .u64 0,.int .u64 0]) (hs416.at_ 0 rfl 0 rfl) rfl)) (.mk rfl rfl)) ?_))))
 have hre:=refA_read (by omega) (Classical.not_not.1 hp16) hd3
 have hans417:refA b = (zF,3):=hre.trans (refF_form hc392)
 rw [hans417]
 exact ⟨H81,[.int .u8 0,.int .i64 0,.int .u64 0,.int .i64 0,.int .u16 0,.int .u64 0,.int .i64 0,.int .u64 0,.int .i64 0,.slice none 0 0,.int .u64 0,.slice none 0 0,.slice none 0 0,.int .u64 0,.int .u64 0],(hg57.trans hg82),rfl,⟨none,0,0,none,0,0,none,0,0,rfl,(show 0 < 256 from by omega),(show IB 0 from ⟨by omega,by omega⟩),(show 0 < 18446744073709551616 from by omega),(show IB 0 from ⟨by omega,by omega⟩),(show 0 < 65536 from by omega),(show 0 < 18446744073709551616 from by omega),(show IB 0 from ⟨by omega,by omega⟩),(show 0 < 18446744073709551616 from by omega),(show IB 0 from ⟨by omega,by omega⟩),(Sl.nil _ _ none),(show 0 < 18446744073709551616 from by omega),(Sl.nil _ _ none),(Sl.nil _ _ none),(show 0 < 18446744073709551616 from by omega),(show 0 < 18446744073709551616 from by omega)⟩,hs416.drop.drop.drop⟩
end Go.Proofs.Ytlfihfmmhhcigaa

set_option linter.unusedVariables false
set_option linter.unusedSimpArgs false
namespace Go.Proofs.Ytlfihfmmhhcigaa
open Go Go.FM Go.Proofs
attribute [local irreducible] wpList wpQuiet wpS Code.wp Calls
set_option maxHeartbeats 8000000 in
theorem great_spec {H:Hp} {w:World} {L:List Res} (hs:St H w (L)) (f:GFrame) {k_f:List Value} (h_f:kFrame.rep H f k_f) (hsiz:sizeF f ≤ 1048576):Calls Try.prog 10 #[.agg k_f.toArray] w (fun e w' => e = .returned (.bool (greatF f))∧St H w' (L)):=by
 obtain ⟨A14,n15,c16,A19,n20,c21,A23,n24,c25,rfl,b1,⟨b2,b3⟩,b4,⟨b5,b6⟩,b7,b8,⟨b9,b10⟩,b11,⟨b12,b13⟩,hl17,b18,hl22,hl26,b27,b28⟩:=h_f
 have:=hl17.len; have:n15 * 48 ≤ 140737488351232:=hl17.bnd; have:=hl17.le
 have:=hl22.len; have:n20 * 24 ≤ 140737488351232:=hl22.bnd; have:=hl22.le
 have:=hl26.len; have:n24 * 32 ≤ 140737488351232:=hl26.bnd; have:=hl26.le
 refine enter (args:=[.agg #[.int .u8 ((f.Kind:Nat):Int),.int .i64 f.From,.int .u64 ((f.ID.N:Nat):Int),.int .i64 f.ID.P,.int .u16 ((f.Set:Nat):Int),.int .u64 ((f.Cur.N:Nat):Int),.int .i64 f.Cur.P,.int .u64 ((f.Prom.N:Nat):Int),.int .i64 f.Prom.P,.slice A14 n15 c16,.int .u64 ((f.Base:Nat):Int),.slice A19 n20 c21,.slice A23 n24 c25,.int .u64 ((f.Ack:Nat):Int),.int .u64 ((f.Safe:Nat):Int)]]) (N:=92) Try.func10 rfl rfl rfl ?_
 have hsz2:=hsiz
 rw [sizeF_eq] at hsz2
 refine c_seq (c_region (st_m (m_box (cs:=[.int .u8 ((f.Kind:Nat):Int),.int .i64 f.From,.int .u64 ((f.ID.N:Nat):Int),.int .i64 f.ID.P,.int .u16 ((f.Set:Nat):Int),.int .u64 ((f.Cur.N:Nat):Int),.int .i64 f.Cur.P,.int .u64 ((f.Prom.N:Nat):Int),.int .i64 f.Prom.P,.slice A14 n15 c16,.int .u64 ((f.Base:Nat):Int),.slice A19 n20 c21,.slice A23 n24 c25,.int .u64 ((f.Ack:Nat):Int),.int .u64 ((f.Safe:Nat):Int)]) hs (v:=.agg #[.int .u8 ((f.Kind:Nat):Int),.int .i64 f.From,.int .u64 ((f.ID.N:Nat):Int),.int .i64 f.ID.P,.int .u16 ((f.Set:Nat):Int),.int .u64 ((f.Cur.N:Nat):Int),.int .i64 f.Cur.P,.int .u64 ((f.Prom.N:Nat):Int),.int .i64 f.Prom.P,.slice A14 n15 c16,.int .u64 ((f.Base:Nat):Int),.slice A19 n20 c21,.slice A23 n24 c25,.int .u64 ((f.Ack:Nat):Int),.int .u64 ((f.Safe:Nat):Int)]) (.tmp rfl rfl) rfl) ?_))
 rintro _ w30 ⟨g29,rfl,hs32⟩
 refine st (v:=.bool false) (x_assign .const) ?_
 refine c_nil (n_then (c_seq (c_region (st (v:=.pointer (some ⟨g29,0 + 11,none⟩)) (fa30_8 (.tmp rfl rfl)) ?_))))
 refine st (v:=.slice A19 n20 c21) (ld27 (.tmp rfl rfl) (hs32.cell 0 rfl (0 + 11) rfl)) ?_
 refine st (v:=.int .i64 ((n20:Nat):Int)) (x_len (n:=n20) Try.underlying27 (.tmp rfl rfl)) ?_
 refine st (v:=.pointer (some ⟨g29,0 + 12,none⟩)) (fa30_9 (.tmp rfl rfl)) ?_
 refine st (v:=.slice A23 n24 c25) (ld28 (.tmp rfl rfl) (hs32.cell 0 rfl (0 + 12) rfl)) ?_
 refine st (v:=.int .i64 ((n24:Nat):Int)) (x_len (n:=n24) Try.underlying28 (.tmp rfl rfl)) ?_
 refine st (v:=.int .i64 (((n20 + n24):Nat):Int)) (x_add (k:=.i64) (a:=((n20:Nat):Int)) (b:=((n24:Nat):Int)) (.tmp rfl rfl) (.tmp rfl rfl) ((w64 (by omega) (by omega)).trans (by omega))) ?_
 refine st (v:=.pointer (some ⟨g29,0 + 9,none⟩)) (fa30_6 (.tmp rfl rfl)) ?_
 refine st (v:=.slice A14 n15 c16) (ld26 (.tmp rfl rfl) (hs32.cell 0 rfl (0 + 9) rfl)) ?_
 refine st (v:=.int .i64 ((n15:Nat):Int)) (x_len (n:=n15) Try.underlying26 (.tmp rfl rfl)) ?_
 refine st (v:=.int .i64 ((((n20 + n24) + n15):Nat):Int)) (x_add (k:=.i64) (a:=(((n20 + n24):Nat):Int)) (b:=((n15:Nat):Int)) (.tmp rfl rfl) (.tmp rfl rfl) ((w64 (by omega) (by omega)).trans (by omega))) ?_
 refine st (v:=.int .i64 ((((n20 + n24) + n15):Nat):Int)) (x_assign (.tmp rfl rfl)) ?_
 refine c_nil (n_then (c_seq (c_seq (c_region (st (v:=.int .i64 0) (x_assign .const) ?_)))))
 refine c_nil (n_then (c_block (c_loop (fun ρ w mm => ∃ (n:Nat) (i:Nat),ρ 1 = .pointer (some ⟨g29,0,none⟩)∧ρ 3 = .int .i64 ((n:Nat):Int)∧ρ 4 = .int .i64 ((i:Nat):Int)∧(i ≤ f.Msgs.length)∧(n = f.Msgs.length + f.Items.length + f.States.length + zT List.length f.Msgs i)∧St H w (obj g29 30 [.int .u8 ((f.Kind:Nat):Int),.int .i64 f.From,.int .u64 ((f.ID.N:Nat):Int),.int .i64 f.ID.P,.int .u16 ((f.Set:Nat):Int),.int .u64 ((f.Cur.N:Nat):Int),.int .i64 f.Cur.P,.int .u64 ((f.Prom.N:Nat):Int),.int .i64 f.Prom.P,.slice A14 n15 c16,.int .u64 ((f.Base:Nat):Int),.slice A19 n20 c21,.slice A23 n24 c25,.int .u64 ((f.Ack:Nat):Int),.int .u64 ((f.Safe:Nat):Int)]::L)∧mm = f.Msgs.length - i) _ ⟨((n20 + n24) + n15),0,rfl,rfl,rfl,(by omega),(show _ = _ + 0 by omega),hs32,rfl⟩ ?_)))
 rintro ρ w mm ⟨n,i,hρ34,hρ35,hρ36,hi,hn,hs37,rfl⟩
 refine c_seq (c_seq (c_region (st (v:=.int .i64 ((i:Nat):Int)) (x_move (.tmp rfl hρ36)) ?_)))
 refine st (v:=.pointer (some ⟨g29,0 + 11,none⟩)) (fa30_8 (.tmp rfl hρ34)) ?_
 refine st (v:=.slice A19 n20 c21) (ld27 (.tmp rfl rfl) (hs37.cell 0 rfl (0 + 11) rfl)) ?_
 refine st (v:=.int .i64 ((n20:Nat):Int)) (x_len (n:=n20) Try.underlying27 (.tmp rfl rfl)) ?_
 refine st (v:=.bool (decide ((((i:Nat):Int):Int) < ((n20:Nat):Int)))) (x_lss (k:=.i64) (a:=((i:Nat):Int)) (b:=((n20:Nat):Int)) (.tmp rfl rfl) (.tmp rfl rfl)) ?_
 refine c_nil (n_then ?_)
 rcases Bool.eq_false_or_eq_true (decide ((((i:Nat):Int):Int) < ((n20:Nat):Int))) with hc38 | hc38
 have hp38:(((i:Nat):Int):Int) < ((n20:Nat):Int):=of_decide_eq_true hc38
 refine c_cond_t (t:=true) (.tmp rfl (cVb hc38)) rfl ?_
 refine c_skip (n_then (c_seq (c_block (c_region (st (v:=.int .i64 ((n:Nat):Int)) (x_move (.tmp rfl hρ35)) ?_)))))
 refine st (v:=.pointer (some ⟨g29,0 + 11,none⟩)) (fa30_8 (.tmp rfl hρ34)) ?_
 refine st (v:=.slice A19 n20 c21) (ld27 (.tmp rfl rfl) (hs37.cell 0 rfl (0 + 11) rfl)) ?_
 refine st (v:=.int .i64 ((i:Nat):Int)) (x_move (.tmp rfl hρ36)) ?_
 obtain ⟨e39,b40,o41,cs42,hx43,hA44,hr45,hat46⟩:=hl22.get (i:=i) (by omega)
 obtain ⟨A47,n48,c49,rfl,hy50⟩:=hr45
 have:=hy50.len; have:=hy50.bnd; have:=hy50.le
 have hat46x:∀ {w:World} {L:List Res},St H w L → At w ⟨b40,o41 + i * 1,none⟩ [.slice A47 n48 c49]:=fun h => hat46 h
 have hza:=zT_next (g:=List.length) hx43; have hzb:=zT_le List.length f.Msgs (i + 1)
 refine st (v:=.pointer (some ⟨b40,(o41 + i * 1),none⟩)) (ixo27 (.tmp rfl rfl) hA44 (i:=((i:Nat):Int)) (.tmp rfl rfl) (by omega) (by omega) (by omega)) ?_
 refine st (v:=.slice A47 n48 c49) (ld33 (.tmp rfl rfl) ((hat46x hs37).cell 0 rfl)) ?_
 refine st (v:=.int .i64 ((n48:Nat):Int)) (x_len (n:=n48) Try.underlying33 (.tmp rfl rfl)) ?_
 refine st (v:=.int .i64 (((n + n48):Nat):Int)) (x_add (k:=.i64) (a:=((n:Nat):Int)) (b:=((n48:Nat):Int)) (.tmp rfl rfl) (.tmp rfl rfl) ((w64 (by omega) (by omega)).trans (by omega))) ?_
 refine st (v:=.int .i64 (((n + n48):Nat):Int)) (x_assign (.tmp rfl rfl)) ?_
 refine c_nil (n_block (n_then (c_region (st (v:=.int .i64 ((i:Nat):Int)) (x_move (.tmp rfl hρ36)) ?_))))
 refine st (v:=.int .i64 (((i + 1):Nat):Int)) (x_add (k:=.i64) (a:=((i:Nat):Int)) (b:=1) (.tmp rfl rfl) .const ((w64 (by omega) (by omega)).trans (by omega))) ?_
 refine st (v:=.int .i64 (((i + 1):Nat):Int)) (x_assign (.tmp rfl rfl)) ?_
 refine c_nil ?_
 refine n_then ⟨_,_,rfl,?_,(n + n48),(i + 1),hρ34,rfl,rfl,(by omega),(by rw [zT_next hx43]; omega),hs37,rfl⟩
 omega
 have hp38:¬ ((((i:Nat):Int):Int) < ((n20:Nat):Int)):=of_decide_eq_false hc38
 refine c_cond_f (t:=false) (.tmp rfl (cVb hc38)) rfl ?_
 refine c_exit (x_then (x_then (x_here (n_then (c_seq (c_seq (c_region (st (v:=.int .i64 0) (x_assign .const) ?_))))))))
 refine c_nil (n_then (c_block ?_))
 have hz1:=zT_all (g:=List.length) (show f.Msgs.length ≤ i by omega)
 refine c_loop (fun ρ w mm => ∃ (n2:Nat) (j:Nat),ρ 1 = .pointer (some ⟨g29,0,none⟩)∧ρ 3 = .int .i64 ((n2:Nat):Int)∧ρ 5 = .int .i64 ((j:Nat):Int)∧(j ≤ f.Items.length)∧(n2 = f.Msgs.length + f.Items.length + f.States.length + (f.Msgs.map List.length).sum + zT gM f.Items j)∧St H w (obj g29 30 [.int .u8 ((f.Kind:Nat):Int),.int .i64 f.From,.int .u64 ((f.ID.N:Nat):Int),.int .i64 f.ID.P,.int .u16 ((f.Set:Nat):Int),.int .u64 ((f.Cur.N:Nat):Int),.int .i64 f.Cur.P,.int .u64 ((f.Prom.N:Nat):Int),.int .i64 f.Prom.P,.slice A14 n15 c16,.int .u64 ((f.Base:Nat):Int),.slice A19 n20 c21,.slice A23 n24 c25,.int .u64 ((f.Ack:Nat):Int),.int .u64 ((f.Safe:Nat):Int)]::L)∧mm = f.Items.length - j) _ ⟨n,0,hρ34,hρ35,rfl,(by omega),(show _ = _ + 0 by omega),hs37,rfl⟩ ?_
 rintro ρ w mm ⟨n2,j,hρ52,hρ53,hρ54,hj,hn2,hs55,rfl⟩
 refine c_seq (c_seq (c_region (st (v:=.int .i64 ((j:Nat):Int)) (x_move (.tmp rfl hρ54)) ?_)))
 refine st (v:=.pointer (some ⟨g29,0 + 12,none⟩)) (fa30_9 (.tmp rfl hρ52)) ?_
 refine st (v:=.slice A23 n24 c25) (ld28 (.tmp rfl rfl) (hs55.cell 0 rfl (0 + 12) rfl)) ?_
 refine st (v:=.int .i64 ((n24:Nat):Int)) (x_len (n:=n24) Try.underlying28 (.tmp rfl rfl)) ?_
 refine st (v:=.bool (decide ((((j:Nat):Int):Int) < ((n24:Nat):Int)))) (x_lss (k:=.i64) (a:=((j:Nat):Int)) (b:=((n24:Nat):Int)) (.tmp rfl rfl) (.tmp rfl rfl)) ?_
 refine c_nil (n_then ?_)
 rcases Bool.eq_false_or_eq_true (decide ((((j:Nat):Int):Int) < ((n24:Nat):Int))) with hc56 | hc56
 have hp56:(((j:Nat):Int):Int) < ((n24:Nat):Int):=of_decide_eq_true hc56
 refine c_cond_t (t:=true) (.tmp rfl (cVb hc56)) rfl ?_
 refine c_skip (n_then (c_seq (c_block (c_region (st (v:=.int .i64 ((n2:Nat):Int)) (x_move (.tmp rfl hρ53)) ?_)))))
 refine st (v:=.pointer (some ⟨g29,0 + 12,none⟩)) (fa30_9 (.tmp rfl hρ52)) ?_
 refine st (v:=.slice A23 n24 c25) (ld28 (.tmp rfl rfl) (hs55.cell 0 rfl (0 + 12) rfl)) ?_
 refine st (v:=.int .i64 ((j:Nat):Int)) (x_move (.tmp rfl hρ54)) ?_
 obtain ⟨e57,b58,o59,cs60,hx61,hA62,hr63,hat64⟩:=hl26.get (i:=j) (by omega)
 obtain ⟨A67,n68,c69,rfl,⟨b65,b66⟩,hy70⟩:=hr63
 have:=hy70.len; have:=hy70.bnd; have:=hy70.le
 have hat64x:∀ {w:World} {L:List Res},St H w L → At w ⟨b58,o59 + j * 2,none⟩ [.int .i64 e57.From,.slice A67 n68 c69]:=fun h => hat64 h
 have hza:=zT_next (g:=gM) hx61; have hzb:=zT_le gM f.Items (j + 1); have hgm:gM e57 = e57.M.length:=rfl
 refine st (v:=.pointer (some ⟨b58,(o59 + j * 2),none⟩)) (ixo28 (.tmp rfl rfl) hA62 (i:=((j:Nat):Int)) (.tmp rfl rfl) (by omega) (by omega) (by omega)) ?_
 refine st (v:=.pointer (some ⟨b58,(o59 + j * 2) + 1,none⟩)) (fa49_1 (.tmp rfl rfl)) ?_
 refine st (v:=.slice A67 n68 c69) (ld33 (.tmp rfl rfl) ((hat64x hs55).cell 1 rfl)) ?_
 refine st (v:=.int .i64 ((n68:Nat):Int)) (x_len (n:=n68) Try.underlying33 (.tmp rfl rfl)) ?_
 refine st (v:=.int .i64 (((n2 + n68):Nat):Int)) (x_add (k:=.i64) (a:=((n2:Nat):Int)) (b:=((n68:Nat):Int)) (.tmp rfl rfl) (.tmp rfl rfl) ((w64 (by omega) (by omega)).trans (by omega))) ?_
 refine st (v:=.int .i64 (((n2 + n68):Nat):Int)) (x_assign (.tmp rfl rfl)) ?_
 refine c_nil (n_block (n_then (c_region (st (v:=.int .i64 ((j:Nat):Int)) (x_move (.tmp rfl hρ54)) ?_))))
 refine st (v:=.int .i64 (((j + 1):Nat):Int)) (x_add (k:=.i64) (a:=((j:Nat):Int)) (b:=1) (.tmp rfl rfl) .const ((w64 (by omega) (by omega)).trans (by omega))) ?_
 refine st (v:=.int .i64 (((j + 1):Nat):Int)) (x_assign (.tmp rfl rfl)) ?_
 refine c_nil ?_
 refine n_then ⟨_,_,rfl,?_,(n2 + n68),(j + 1),hρ52,rfl,rfl,(by omega),(by rw [zT_next hx61]; show _ = _ + (_ + e57.M.length); omega),hs55,rfl⟩
 omega
 have hp56:¬ ((((j:Nat):Int):Int) < ((n24:Nat):Int)):=of_decide_eq_false hc56
 refine c_cond_f (t:=false) (.tmp rfl (cVb hc56)) rfl ?_
 refine c_exit (x_then (x_then (x_here (n_then (c_seq (c_seq (c_region (st (v:=.int .i64 0) (x_assign .const) ?_))))))))
 refine c_nil (n_then (c_block ?_))
 have hz2:=zT_all (g:=gM) (show f.Items.length ≤ j by omega)
 refine c_loop (fun ρ w mm => ∃ (n3:Nat) (q:Nat),ρ 1 = .pointer (some ⟨g29,0,none⟩)∧ρ 3 = .int .i64 ((n3:Nat):Int)∧ρ 6 = .int .i64 ((q:Nat):Int)∧(q ≤ f.States.length)∧(n3 = f.Msgs.length + f.Items.length + f.States.length + (f.Msgs.map List.length).sum + (f.Items.map gM).sum + zT gS f.States q)∧St H w (obj g29 30 [.int .u8 ((f.Kind:Nat):Int),.int .i64 f.From,.int .u64 ((f.ID.N:Nat):Int),.int .i64 f.ID.P,.int .u16 ((f.Set:Nat):Int),.int .u64 ((f.Cur.N:Nat):Int),.int .i64 f.Cur.P,.int .u64 ((f.Prom.N:Nat):Int),.int .i64 f.Prom.P,.slice A14 n15 c16,.int .u64 ((f.Base:Nat):Int),.slice A19 n20 c21,.slice A23 n24 c25,.int .u64 ((f.Ack:Nat):Int),.int .u64 ((f.Safe:Nat):Int)]::L)∧mm = f.States.length - q) _ ⟨n2,0,hρ52,hρ53,rfl,(by omega),(show _ = _ + 0 by omega),hs55,rfl⟩ ?_
 rintro ρ w mm ⟨n3,q,hρ72,hρ73,hρ74,hq,hn3,hs75,rfl⟩
 refine c_seq (c_seq (c_region (st (v:=.int .i64 ((q:Nat):Int)) (x_move (.tmp rfl hρ74)) ?_)))
 refine st (v:=.pointer (some ⟨g29,0 + 9,none⟩)) (fa30_6 (.tmp rfl hρ72)) ?_
 refine st (v:=.slice A14 n15 c16) (ld26 (.tmp rfl rfl) (hs75.cell 0 rfl (0 + 9) rfl)) ?_
 refine st (v:=.int .i64 ((n15:Nat):Int)) (x_len (n:=n15) Try.underlying26 (.tmp rfl rfl)) ?_
 refine st (v:=.bool (decide ((((q:Nat):Int):Int) < ((n15:Nat):Int)))) (x_lss (k:=.i64) (a:=((q:Nat):Int)) (b:=((n15:Nat):Int)) (.tmp rfl rfl) (.tmp rfl rfl)) ?_
 refine c_nil (n_then ?_)
 rcases Bool.eq_false_or_eq_true (decide ((((q:Nat):Int):Int) < ((n15:Nat):Int))) with hc76 | hc76
 have hp76:(((q:Nat):Int):Int) < ((n15:Nat):Int):=of_decide_eq_true hc76
 refine c_cond_t (t:=true) (.tmp rfl (cVb hc76)) rfl ?_
 refine c_skip (n_then (c_seq (c_block (c_seq (c_region (st (v:=.int .i64 ((n3:Nat):Int)) (x_move (.tmp rfl hρ73)) ?_))))))
 refine st (v:=.pointer (some ⟨g29,0 + 9,none⟩)) (fa30_6 (.tmp rfl hρ72)) ?_
 refine st (v:=.slice A14 n15 c16) (ld26 (.tmp rfl rfl) (hs75.cell 0 rfl (0 + 9) rfl)) ?_
 refine st (v:=.int .i64 ((q:Nat):Int)) (x_move (.tmp rfl hρ74)) ?_
 obtain ⟨e77,b78,o79,cs80,hx81,hA82,hr83,hat84⟩:=hl17.get (i:=q) (by omega)
 obtain ⟨A90,n91,c92,rfl,b85,⟨b86,b87⟩,⟨b88,b89⟩,hl93⟩:=hr83
 have:=hl93.len; have:n91 * 32 ≤ 140737488351232:=hl93.bnd; have:=hl93.le
 have hat84x:∀ {w:World} {L:List Res},St H w L → At w ⟨b78,o79 + q * 4,none⟩ [.int .u64 ((e77.V.N:Nat):Int),.int .i64 e77.V.P,.int .i64 e77.Floor,.slice A90 n91 c92]:=fun h => hat84 h
 have hza:=zT_next (g:=gS) hx81; have hzb:=zT_le gS f.States (q + 1); have hgs:gS e77 = e77.Items.length + (e77.Items.map gM).sum:=rfl
 refine st (v:=.pointer (some ⟨b78,(o79 + q * 4),none⟩)) (ixo26 (.tmp rfl rfl) hA82 (i:=((q:Nat):Int)) (.tmp rfl rfl) (by omega) (by omega) (by omega)) ?_
 refine st (v:=.pointer (some ⟨b78,(o79 + q * 4) + 3,none⟩)) (fa52_2 (.tmp rfl rfl)) ?_
 refine st (v:=.slice A90 n91 c92) (ld28 (.tmp rfl rfl) ((hat84x hs75).cell 3 rfl)) ?_
 refine st (v:=.int .i64 ((n91:Nat):Int)) (x_len (n:=n91) Try.underlying28 (.tmp rfl rfl)) ?_
 refine st (v:=.int .i64 (((n3 + n91):Nat):Int)) (x_add (k:=.i64) (a:=((n3:Nat):Int)) (b:=((n91:Nat):Int)) (.tmp rfl rfl) (.tmp rfl rfl) ((w64 (by omega) (by omega)).trans (by omega))) ?_
 refine st (v:=.int .i64 (((n3 + n91):Nat):Int)) (x_assign (.tmp rfl rfl)) ?_
 refine c_nil (n_then (c_seq (c_region (st (v:=.int .i64 0) (x_assign .const) ?_))))
 refine c_nil (n_then (c_block ?_))
 have hzq:=zT_next (g:=gS) hx81; have hzl:=zT_le gS f.States (q + 1); have hgs:gS e77 = e77.Items.length + (e77.Items.map gM).sum:=rfl
 refine c_loop (fun ρ w mm => ∃ (n4:Nat) (k:Nat),ρ 1 = .pointer (some ⟨g29,0,none⟩)∧ρ 3 = .int .i64 ((n4:Nat):Int)∧ρ 6 = .int .i64 ((q:Nat):Int)∧ρ 7 = .int .i64 ((k:Nat):Int)∧(k ≤ e77.Items.length)∧(n4 = f.Msgs.length + f.Items.length + f.States.length + (f.Msgs.map List.length).sum + (f.Items.map gM).sum + zT gS f.States q + e77.Items.length + zT gM e77.Items k)∧St H w (obj g29 30 [.int .u8 ((f.Kind:Nat):Int),.int .i64 f.From,.int .u64 ((f.ID.N:Nat):Int),.int .i64 f.ID.P,.int .u16 ((f.Set:Nat):Int),.int .u64 ((f.Cur.N:Nat):Int),.int .i64 f.Cur.P,.int .u64 ((f.Prom.N:Nat):Int),.int .i64 f.Prom.P,.slice A14 n15 c16,.int .u64 ((f.Base:Nat):Int),.slice A19 n20 c21,.slice A23 n24 c25,.int .u64 ((f.Ack:Nat):Int),.int .u64 ((f.Safe:Nat):Int)]::L)∧mm = e77.Items.length - k) _ ⟨(n3 + n91),0,hρ72,rfl,hρ74,rfl,(by omega),(show _ = _ + 0 by omega),hs75,rfl⟩ ?_
 rintro ρ w mm ⟨n4,k,hρ95,hρ96,hρ97,hρ98,hk,hn4,hs99,rfl⟩
 refine c_seq (c_seq (c_region (st (v:=.int .i64 ((k:Nat):Int)) (x_move (.tmp rfl hρ98)) ?_)))
 refine st (v:=.pointer (some ⟨g29,0 + 9,none⟩)) (fa30_6 (.tmp rfl hρ95)) ?_
 refine st (v:=.slice A14 n15 c16) (ld26 (.tmp rfl rfl) (hs99.cell 0 rfl (0 + 9) rfl)) ?_
 refine st (v:=.int .i64 ((q:Nat):Int)) (x_move (.tmp rfl hρ97)) ?_
 refine st (v:=.pointer (some ⟨b78,(o79 + q * 4),none⟩)) (ixo26 (.tmp rfl rfl) hA82 (i:=((q:Nat):Int)) (.tmp rfl rfl) (by omega) (by omega) (by omega)) ?_
 refine st (v:=.pointer (some ⟨b78,(o79 + q * 4) + 3,none⟩)) (fa52_2 (.tmp rfl rfl)) ?_
 refine st (v:=.slice A90 n91 c92) (ld28 (.tmp rfl rfl) ((hat84x hs99).cell 3 rfl)) ?_
 refine st (v:=.int .i64 ((n91:Nat):Int)) (x_len (n:=n91) Try.underlying28 (.tmp rfl rfl)) ?_
 refine st (v:=.bool (decide ((((k:Nat):Int):Int) < ((n91:Nat):Int)))) (x_lss (k:=.i64) (a:=((k:Nat):Int)) (b:=((n91:Nat):Int)) (.tmp rfl rfl) (.tmp rfl rfl)) ?_
 refine c_nil (n_then ?_)
 rcases Bool.eq_false_or_eq_true (decide ((((k:Nat):Int):Int) < ((n91:Nat):Int))) with hc100 | hc100
 have hp100:(((k:Nat):Int):Int) < ((n91:Nat):Int):=of_decide_eq_true hc100
 refine c_cond_t (t:=true) (.tmp rfl (cVb hc100)) rfl ?_
 refine c_skip (n_then (c_seq (c_block (c_region (st (v:=.int .i64 ((n4:Nat):Int)) (x_move (.tmp rfl hρ96)) ?_)))))
 refine st (v:=.pointer (some ⟨g29,0 + 9,none⟩)) (fa30_6 (.tmp rfl hρ95)) ?_
 refine st (v:=.slice A14 n15 c16) (ld26 (.tmp rfl rfl) (hs99.cell 0 rfl (0 + 9) rfl)) ?_
 refine st (v:=.int .i64 ((q:Nat):Int)) (x_move (.tmp rfl hρ97)) ?_
 refine st (v:=.pointer (some ⟨b78,(o79 + q * 4),none⟩)) (ixo26 (.tmp rfl rfl) hA82 (i:=((q:Nat):Int)) (.tmp rfl rfl) (by omega) (by omega) (by omega)) ?_
 refine st (v:=.pointer (some ⟨b78,(o79 + q * 4) + 3,none⟩)) (fa52_2 (.tmp rfl rfl)) ?_
 refine st (v:=.slice A90 n91 c92) (ld28 (.tmp rfl rfl) ((hat84x hs99).cell 3 rfl)) ?_
 refine st (v:=.int .i64 ((k:Nat):Int)) (x_move (.tmp rfl hρ98)) ?_
 obtain ⟨e101,b102,o103,cs104,hx105,hA106,hr107,hat108⟩:=hl93.get (i:=k) (by omega)
 obtain ⟨A111,n112,c113,rfl,⟨b109,b110⟩,hy114⟩:=hr107
 have:=hy114.len; have:=hy114.bnd; have:=hy114.le
 have hat108x:∀ {w:World} {L:List Res},St H w L → At w ⟨b102,o103 + k * 2,none⟩ [.int .i64 e101.From,.slice A111 n112 c113]:=fun h => hat108 h
 have hzc:=zT_next (g:=gM) hx105; have hzd:=zT_le gM e77.Items (k + 1); have hgm:gM e101 = e101.M.length:=rfl
 refine st (v:=.pointer (some ⟨b102,(o103 + k * 2),none⟩)) (ixo28 (.tmp rfl rfl) hA106 (i:=((k:Nat):Int)) (.tmp rfl rfl) (by omega) (by omega) (by omega)) ?_
 refine st (v:=.pointer (some ⟨b102,(o103 + k * 2) + 1,none⟩)) (fa49_1 (.tmp rfl rfl)) ?_
 refine st (v:=.slice A111 n112 c113) (ld33 (.tmp rfl rfl) ((hat108x hs99).cell 1 rfl)) ?_
 refine st (v:=.int .i64 ((n112:Nat):Int)) (x_len (n:=n112) Try.underlying33 (.tmp rfl rfl)) ?_
 refine st (v:=.int .i64 (((n4 + n112):Nat):Int)) (x_add (k:=.i64) (a:=((n4:Nat):Int)) (b:=((n112:Nat):Int)) (.tmp rfl rfl) (.tmp rfl rfl) ((w64 (by omega) (by omega)).trans (by omega))) ?_
 refine st (v:=.int .i64 (((n4 + n112):Nat):Int)) (x_assign (.tmp rfl rfl)) ?_
 refine c_nil (n_block (n_then (c_region (st (v:=.int .i64 ((k:Nat):Int)) (x_move (.tmp rfl hρ98)) ?_))))
 refine st (v:=.int .i64 (((k + 1):Nat):Int)) (x_add (k:=.i64) (a:=((k:Nat):Int)) (b:=1) (.tmp rfl rfl) .const ((w64 (by omega) (by omega)).trans (by omega))) ?_
 refine st (v:=.int .i64 (((k + 1):Nat):Int)) (x_assign (.tmp rfl rfl)) ?_
 refine c_nil ?_
 refine n_then ⟨_,_,rfl,?_,(n4 + n112),(k + 1),hρ95,rfl,hρ97,rfl,(by omega),(by rw [zT_next hx105]; show _ = _ + (_ + e101.M.length); omega),hs99,rfl⟩
 omega
 have hp100:¬ ((((k:Nat):Int):Int) < ((n91:Nat):Int)):=of_decide_eq_false hc100
 refine c_cond_f (t:=false) (.tmp rfl (cVb hc100)) rfl ?_
 refine c_exit (x_then (x_then (x_here (n_block (n_then (c_region (st (v:=.int .i64 ((q:Nat):Int)) (x_move (.tmp rfl hρ97)) ?_)))))))
 refine st (v:=.int .i64 (((q + 1):Nat):Int)) (x_add (k:=.i64) (a:=((q:Nat):Int)) (b:=1) (.tmp rfl rfl) .const ((w64 (by omega) (by omega)).trans (by omega))) ?_
 refine st (v:=.int .i64 (((q + 1):Nat):Int)) (x_assign (.tmp rfl rfl)) ?_
 refine c_nil ?_
 refine n_then ⟨_,_,rfl,?_,n4,(q + 1),hρ95,hρ96,rfl,(by omega),(by rw [zT_next hx81]; show _ = _ + (_ + (e77.Items.length + (e77.Items.map gM).sum)); have hz4:=zT_all (g:=gM) (show e77.Items.length ≤ k by omega); omega),hs99,rfl⟩
 omega
 have hp76:¬ ((((q:Nat):Int):Int) < ((n15:Nat):Int)):=of_decide_eq_false hc76
 refine c_cond_f (t:=false) (.tmp rfl (cVb hc76)) rfl ?_
 refine c_exit (x_then (x_then (x_here (n_then (c_seq (c_region (st (v:=.int .i64 ((n3:Nat):Int)) (x_move (.tmp rfl hρ73)) ?_)))))))
 refine st (v:=.bool (decide ((20000:Int) < ((n3:Nat):Int)))) (x_gtr (k:=.i64) (a:=((n3:Nat):Int)) (b:=20000) (.tmp rfl rfl) .const) ?_
 refine st (v:=.bool (decide ((20000:Int) < ((n3:Nat):Int)))) (x_assign (.tmp rfl rfl)) ?_
 refine c_nil (n_then (c_ret (leave_ret (res_one (v:=.bool (decide ((20000:Int) < ((n3:Nat):Int)))) rfl (.mk rfl rfl)) ?_)))
 have hans115:(greatF f) = (decide ((20000:Int) < ((n3:Nat):Int))):=(great_is (by rw [sizeF_eq]; have hz3:=zT_all (g:=gS) (show f.States.length ≤ q by omega); omega)).symm
 rw [hans115]
 exact ⟨rfl,hs75.drop⟩
set_option maxHeartbeats 8000000 in
theorem awake_spec {H:Hp} {w:World} {L:List Res} (hs:St H w (L)) :Calls Try.prog 11 #[] w (fun e w' => e = .returned (.bool true)∧St H w' (L)):=by
 refine enter (args:=[]) (N:=23) Try.func11 rfl rfl rfl ?_
 refine c_seq (c_region (st (v:=.bool false) (x_assign .const) ?_))
 refine c_nil (n_then (c_seq (c_region (st (v:=.agg #[.int .u8 1,.int .i64 1,.int .u64 0,.int .i64 0,.int .u16 0,.int .u64 0,.int .i64 0,.int .u64 0,.int .i64 0,.slice none 0 0,.int .u64 0,.slice none 0 0,.slice none 0 0,.int .u64 0,.int .u64 0]) (bl30 (ps:=[(0,.int .u8 1),(1,.int .i64 1)]) (.cons .const (.cons .const Evp.nil)) rfl) ?_))))
 have hr1:kFrame.rep H (GFrame.mk 1 1 (GViewID.mk 0 0) 0 (GViewID.mk 0 0) (GViewID.mk 0 0) [] 0 [] [] 0 0) [.int .u8 1,.int .i64 1,.int .u64 0,.int .i64 0,.int .u16 0,.int .u64 0,.int .i64 0,.int .u64 0,.int .i64 0,.slice none 0 0,.int .u64 0,.slice none 0 0,.slice none 0 0,.int .u64 0,.int .u64 0]:=⟨none,0,0,none,0,0,none,0,0,rfl,(show 1 < 256 from by omega),(show IB 1 from ⟨by omega,by omega⟩),(show 0 < 18446744073709551616 from by omega),(show IB 0 from ⟨by omega,by omega⟩),(show 0 < 65536 from by omega),(show 0 < 18446744073709551616 from by omega),(show IB 0 from ⟨by omega,by omega⟩),(show 0 < 18446744073709551616 from by omega),(show IB 0 from ⟨by omega,by omega⟩),(Sl.nil _ _ none),(show 0 < 18446744073709551616 from by omega),(Sl.nil _ _ none),(Sl.nil _ _ none),(show 0 < 18446744073709551616 from by omega),(show 0 < 18446744073709551616 from by omega)⟩
 refine st_c cb13 .func (evs1 (.tmp rfl rfl)) (encode_spec hs (GFrame.mk 1 1 (GViewID.mk 0 0) 0 (GViewID.mk 0 0) (GViewID.mk 0 0) [] 0 [] [] 0 0) hr1 awk_big) ?_
 rintro e w2 ⟨H4,v6,hle5,rfl,sm9,ok7,hs3⟩
 refine ⟨_,rfl,?_⟩
 refine st (v:=.tuple #[v6,.int .i64 ((encC (GFrame.mk 1 1 (GViewID.mk 0 0) 0 (GViewID.mk 0 0) (GViewID.mk 0 0) [] 0 [] [] 0 0)).2)]) (x_move (.tmp rfl rfl)) ?_
 refine st (v:=v6) (x_extract (.tmp rfl rfl) (i:=0) rfl) ?_
 refine st (v:=.int .i64 ((encC (GFrame.mk 1 1 (GViewID.mk 0 0) 0 (GViewID.mk 0 0) (GViewID.mk 0 0) [] 0 [] [] 0 0)).2)) (x_extract (.tmp rfl rfl) (i:=1) rfl) ?_
 refine st (v:=v6) (x_assign (.tmp rfl rfl)) ?_
 refine st (v:=.int .i64 ((encC (GFrame.mk 1 1 (GViewID.mk 0 0) 0 (GViewID.mk 0 0) (GViewID.mk 0 0) [] 0 [] [] 0 0)).2)) (x_assign (.tmp rfl rfl)) ?_
 refine c_nil (n_then (c_seq (c_region ?_)))
 have hal:((encC (GFrame.mk 1 1 (GViewID.mk 0 0) 0 (GViewID.mk 0 0) (GViewID.mk 0 0) [] 0 [] [] 0 0)).1).length = 10:=by rw [awk]; exact awk_len
 obtain ⟨H10,A11,c12,hle13,hs14,rfl,hp15⟩:=hs3.freezeBs ok7 sm9 (by omega)
 have hy16:By H10 A11 (((encC (GFrame.mk 1 1 (GViewID.mk 0 0) 0 (GViewID.mk 0 0) (GViewID.mk 0 0) [] 0 [] [] 0 0)).1).length) c12 ((encC (GFrame.mk 1 1 (GViewID.mk 0 0) 0 (GViewID.mk 0 0) (GViewID.mk 0 0) [] 0 [] [] 0 0)).1):=⟨hp15,by omega⟩
 skip
 refine st (v:=.int .i64 ((encC (GFrame.mk 1 1 (GViewID.mk 0 0) 0 (GViewID.mk 0 0) (GViewID.mk 0 0) [] 0 [] [] 0 0)).2)) (x_move (.tmp rfl rfl)) ?_
 refine st (v:=.bool (decide ((((encC (GFrame.mk 1 1 (GViewID.mk 0 0) 0 (GViewID.mk 0 0) (GViewID.mk 0 0) [] 0 [] [] 0 0)).2):Int) = 0))) (x_eql (k:=.i64) (a:=((encC (GFrame.mk 1 1 (GViewID.mk 0 0) 0 (GViewID.mk 0 0) (GViewID.mk 0 0) [] 0 [] [] 0 0)).2)) (b:=0) (.tmp rfl rfl) .const) ?_
 refine st (v:=.bool (decide ((((encC (GFrame.mk 1 1 (GViewID.mk 0 0) 0 (GViewID.mk 0 0) (GViewID.mk 0 0) [] 0 [] [] 0 0)).2):Int) = 0))) (x_move (.tmp rfl rfl)) ?_
 have hc17:(decide ((((encC (GFrame.mk 1 1 (GViewID.mk 0 0) 0 (GViewID.mk 0 0) (GViewID.mk 0 0) [] 0 [] [] 0 0)).2):Int) = 0)) = true:=(decide_eq_true (by rw [awk]))
 refine g_yes (yk 10 true rfl rfl hc17) ?_
 refine st (v:=.slice A11 (((encC (GFrame.mk 1 1 (GViewID.mk 0 0) 0 (GViewID.mk 0 0) (GViewID.mk 0 0) [] 0 [] [] 0 0)).1).length) c12) (x_move (.tmp rfl rfl)) ?_
 refine g_yes (yk 10 true rfl rfl hc17) ?_
 refine st (v:=.int .i64 (((((encC (GFrame.mk 1 1 (GViewID.mk 0 0) 0 (GViewID.mk 0 0) (GViewID.mk 0 0) [] 0 [] [] 0 0)).1).length):Nat):Int)) (x_len (n:=(((encC (GFrame.mk 1 1 (GViewID.mk 0 0) 0 (GViewID.mk 0 0) (GViewID.mk 0 0) [] 0 [] [] 0 0)).1).length)) Try.underlying33 (.tmp rfl rfl)) ?_
 refine g_yes (yk 10 true rfl rfl hc17) ?_
 refine st (v:=.bool (decide (((((((encC (GFrame.mk 1 1 (GViewID.mk 0 0) 0 (GViewID.mk 0 0) (GViewID.mk 0 0) [] 0 [] [] 0 0)).1).length):Nat):Int):Int) = 10))) (x_eql (k:=.i64) (a:=(((((encC (GFrame.mk 1 1 (GViewID.mk 0 0) 0 (GViewID.mk 0 0) (GViewID.mk 0 0) [] 0 [] [] 0 0)).1).length):Nat):Int)) (b:=10) (.tmp rfl rfl) .const) ?_
 refine st (v:=.bool (decide (((((((encC (GFrame.mk 1 1 (GViewID.mk 0 0) 0 (GViewID.mk 0 0) (GViewID.mk 0 0) [] 0 [] [] 0 0)).1).length):Nat):Int):Int) = 10))) (x_pick_t (.tmp rfl (cVb hc17)) (.tmp rfl rfl)) ?_
 refine st (v:=.bool (decide (((((((encC (GFrame.mk 1 1 (GViewID.mk 0 0) 0 (GViewID.mk 0 0) (GViewID.mk 0 0) [] 0 [] [] 0 0)).1).length):Nat):Int):Int) = 10))) (x_move (.tmp rfl rfl)) ?_
 have hc18:(decide (((((((encC (GFrame.mk 1 1 (GViewID.mk 0 0) 0 (GViewID.mk 0 0) (GViewID.mk 0 0) [] 0 [] [] 0 0)).1).length):Nat):Int):Int) = 10)) = true:=(decide_eq_true (by rw [awk,awk_len]; rfl))
 refine g_yes (yk 15 true rfl rfl hc18) ?_
 refine st (v:=.slice A11 (((encC (GFrame.mk 1 1 (GViewID.mk 0 0) 0 (GViewID.mk 0 0) (GViewID.mk 0 0) [] 0 [] [] 0 0)).1).length) c12) (x_move (.tmp rfl rfl)) ?_
 refine g_yes (yk 15 true rfl rfl hc18) ?_
 have:=hy16.toBs.le
 refine st (v:=.slice A11 6 c12) (bs_h Try.underlying33 inf5 (a:=6) (.tmp rfl rfl) .const (by omega) (by omega)) ?_
 refine g_yes (yk 15 true rfl rfl hc18) ?_
 refine st (v:=.string (bstr (((encC (GFrame.mk 1 1 (GViewID.mk 0 0) 0 (GViewID.mk 0 0) (GViewID.mk 0 0) [] 0 [] [] 0 0)).1).take 6))) ((hy16.toBs.take (k:=6) (by omega)).str Try.underlying33 Try.underlying5 Try.underlying9 hs14 (.tmp rfl rfl)) ?_
 refine g_yes (yk 15 true rfl rfl hc18) ?_
 refine st (v:=.bool (decide ((bstr (((encC (GFrame.mk 1 1 (GViewID.mk 0 0) 0 (GViewID.mk 0 0) (GViewID.mk 0 0) [] 0 [] [] 0 0)).1).take 6)) = (⟨#[1,1,0,0,0,0]⟩)))) (x_eqlS (.tmp rfl rfl) .const) ?_
 refine st (v:=.bool (decide ((bstr (((encC (GFrame.mk 1 1 (GViewID.mk 0 0) 0 (GViewID.mk 0 0) (GViewID.mk 0 0) [] 0 [] [] 0 0)).1).take 6)) = (⟨#[1,1,0,0,0,0]⟩)))) (x_pick_t (.tmp rfl (cVb hc18)) (.tmp rfl rfl)) ?_
 refine st (v:=.bool (decide ((bstr (((encC (GFrame.mk 1 1 (GViewID.mk 0 0) 0 (GViewID.mk 0 0) (GViewID.mk 0 0) [] 0 [] [] 0 0)).1).take 6)) = (⟨#[1,1,0,0,0,0]⟩)))) (x_move (.tmp rfl rfl)) ?_
 have hc19:(decide ((bstr (((encC (GFrame.mk 1 1 (GViewID.mk 0 0) 0 (GViewID.mk 0 0) (GViewID.mk 0 0) [] 0 [] [] 0 0)).1).take 6)) = (⟨#[1,1,0,0,0,0]⟩))) = true:=(decide_eq_true (by rw [awk]; exact congrArg bstr awk_take))
 refine st (v:=.bool true) (x_pick_t (.tmp rfl (cVb hc19)) .const) ?_
 refine st (v:=.bool true) (x_assign (.tmp rfl rfl)) ?_
 refine c_nil (n_then (c_ret (leave_ret (res_one (v:=.bool true) rfl (.mk rfl rfl)) ?_)))
 exact ⟨rfl,(hs14.weaken (hle5.trans hle13))⟩
end Go.Proofs.Ytlfihfmmhhcigaa
