/- Steps of the proofs over the functions of this seat, printed by a program (gen.py) and checked by Lean. -/
import Derived.Test.YtlfihfmmhhcigaaW02
import Derived.Test.YtlfihfmmhhcigaaW00
import Derived.Test.YtlfihfmmhhcigaaW01
import Derived.Test.YtlfihfmmhhcigaaW08
set_option linter.unusedVariables false
set_option linter.unusedSimpArgs false
namespace Go.Proofs.Ytlfihfmmhhcigaa
open Go Go.FM Go.Proofs
attribute [local irreducible] wpList wpQuiet wpS Code.wp Calls
set_option maxHeartbeats 8000000 in
theorem rform_frame {H:Hp} {w:World} {L:List Res} (hs:St H w (L)) (f:GFrame) {k_f:List Value} (h_f:kFrame.rep H f k_f):Calls Try.prog 12 #[.agg k_f.toArray] w (fun e w' => e = .returned (.bool (formC f))∧St H w' (L)):=by
 obtain ⟨A14,n15,c16,A19,n20,c21,A23,n24,c25,rfl,b1,⟨b2,b3⟩,b4,⟨b5,b6⟩,b7,b8,⟨b9,b10⟩,b11,⟨b12,b13⟩,hl17,b18,hl22,hl26,b27,b28⟩:=h_f
 have:=hl17.len; have:n15 * 48 ≤ 140737488351232:=hl17.bnd; have:=hl17.le
 have:=hl22.len; have:n20 * 24 ≤ 140737488351232:=hl22.bnd; have:=hl22.le
 have:=hl26.len; have:n24 * 32 ≤ 140737488351232:=hl26.bnd; have:=hl26.le
 refine enter (args:=[.agg #[.int .u8 ((f.Kind:Nat):Int),.int .i64 f.From,.int .u64 ((f.ID.N:Nat):Int),.int .i64 f.ID.P,.int .u16 ((f.Set:Nat):Int),.int .u64 ((f.Cur.N:Nat):Int),.int .i64 f.Cur.P,.int .u64 ((f.Prom.N:Nat):Int),.int .i64 f.Prom.P,.slice A14 n15 c16,.int .u64 ((f.Base:Nat):Int),.slice A19 n20 c21,.slice A23 n24 c25,.int .u64 ((f.Ack:Nat):Int),.int .u64 ((f.Safe:Nat):Int)]]) (N:=172) Try.func12 rfl rfl rfl ?_
 refine c_seq (c_region (st_m (m_box (cs:=[.int .u8 ((f.Kind:Nat):Int),.int .i64 f.From,.int .u64 ((f.ID.N:Nat):Int),.int .i64 f.ID.P,.int .u16 ((f.Set:Nat):Int),.int .u64 ((f.Cur.N:Nat):Int),.int .i64 f.Cur.P,.int .u64 ((f.Prom.N:Nat):Int),.int .i64 f.Prom.P,.slice A14 n15 c16,.int .u64 ((f.Base:Nat):Int),.slice A19 n20 c21,.slice A23 n24 c25,.int .u64 ((f.Ack:Nat):Int),.int .u64 ((f.Safe:Nat):Int)]) hs (v:=.agg #[.int .u8 ((f.Kind:Nat):Int),.int .i64 f.From,.int .u64 ((f.ID.N:Nat):Int),.int .i64 f.ID.P,.int .u16 ((f.Set:Nat):Int),.int .u64 ((f.Cur.N:Nat):Int),.int .i64 f.Cur.P,.int .u64 ((f.Prom.N:Nat):Int),.int .i64 f.Prom.P,.slice A14 n15 c16,.int .u64 ((f.Base:Nat):Int),.slice A19 n20 c21,.slice A23 n24 c25,.int .u64 ((f.Ack:Nat):Int),.int .u64 ((f.Safe:Nat):Int)]) (.tmp rfl rfl) rfl) ?_))
 rintro _ w30 ⟨g29,rfl,hs32⟩
 refine st (v:=.bool false) (x_assign .const) ?_
 refine c_nil (n_then (c_seq (c_region (st (v:=.agg #[.int .u64 0,.int .i64 0]) (bl24 (ps:=[]) Evp.nil rfl) ?_))))
 refine st_m (al24 (cs:=[.int .u64 0,.int .i64 0]) hs32 rfl) ?_
 rintro _ w34 ⟨g33,rfl,hs36⟩
 refine st_m0 (sto24 (cs':=[.int .u64 0,.int .i64 0]) (i:=0) hs36 (v:=.agg #[.int .u64 0,.int .i64 0]) (.tmp rfl rfl) (.tmp rfl rfl) rfl (Nat.le_of_ble_eq_true rfl) (oneA rfl) rfl) ?_
 rintro w37 hs39
 refine c_nil (n_then (c_seq (c_region (st (v:=.pointer (some ⟨g29,0 + 0,none⟩)) (fa30_0 (.tmp rfl rfl)) ?_))))
 refine st (v:=.int .u8 ((f.Kind:Nat):Int)) (ld5 (.tmp rfl rfl) (hs39.cell 1 rfl (0 + 0) rfl)) ?_
 refine st (v:=.int .u8 ((f.Kind:Nat):Int)) (x_assign (.tmp rfl rfl)) ?_
 refine c_nil (n_then (c_seq (c_seq (c_region (st (v:=.int .u8 ((f.Kind:Nat):Int)) (x_move (.tmp rfl rfl)) ?_)))))
 refine st (v:=.bool (decide ((((f.Kind:Nat):Int):Int) < 1))) (x_lss (k:=.u8) (a:=((f.Kind:Nat):Int)) (b:=1) (.tmp rfl rfl) .const) ?_
 refine st (v:=.bool (decide ((((f.Kind:Nat):Int):Int) < 1))) (x_move (.tmp rfl rfl)) ?_
 refine jw 3 (fun ρ w => ρ 13 = .bool ((decide ((((f.Kind:Nat):Int):Int) < 1)) || (decide ((7:Int) < ((f.Kind:Nat):Int))))∧ρ 1 = .pointer (some ⟨g29,0,none⟩)∧ρ 3 = .pointer (some ⟨g33,0,none⟩)∧ρ 4 = .int .u8 ((f.Kind:Nat):Int)∧St H w (obj g33 24 [.int .u64 0,.int .i64 0]::obj g29 30 [.int .u8 ((f.Kind:Nat):Int),.int .i64 f.From,.int .u64 ((f.ID.N:Nat):Int),.int .i64 f.ID.P,.int .u16 ((f.Set:Nat):Int),.int .u64 ((f.Cur.N:Nat):Int),.int .i64 f.Cur.P,.int .u64 ((f.Prom.N:Nat):Int),.int .i64 f.Prom.P,.slice A14 n15 c16,.int .u64 ((f.Base:Nat):Int),.slice A19 n20 c21,.slice A23 n24 c25,.int .u64 ((f.Ack:Nat):Int),.int .u64 ((f.Safe:Nat):Int)]::L)) ?_ ?_
 rcases Bool.eq_false_or_eq_true (decide ((((f.Kind:Nat):Int):Int) < 1)) with hc40 | hc40
 have hp40:(((f.Kind:Nat):Int):Int) < 1:=of_decide_eq_true hc40
 refine g_no (yk 10 true rfl rfl hc40) rfl ?_
 refine g_no (yk 10 true rfl rfl hc40) rfl ?_
 refine st (v:=.bool true) (x_pick_t (.tmp rfl (cVb hc40)) .const) ?_
 exact jw_end ⟨(cVb (jor_t hc40)),rfl,rfl,rfl,hs39⟩
 have hp40:¬ ((((f.Kind:Nat):Int):Int) < 1):=of_decide_eq_false hc40
 refine g_yes (yk 10 false rfl rfl hc40) ?_
 refine st (v:=.int .u8 ((f.Kind:Nat):Int)) (x_move (.tmp rfl rfl)) ?_
 refine g_yes (yk 10 false rfl rfl hc40) ?_
 refine st (v:=.bool (decide ((7:Int) < ((f.Kind:Nat):Int)))) (x_gtr (k:=.u8) (a:=((f.Kind:Nat):Int)) (b:=7) (.tmp rfl rfl) .const) ?_
 refine st (v:=.bool (decide ((7:Int) < ((f.Kind:Nat):Int)))) (x_pick_f (.tmp rfl (cVb hc40)) (.tmp rfl rfl)) ?_
 exact jw_end ⟨(cVb (jor_f hc40)),rfl,rfl,rfl,hs39⟩
 rintro ρ w ⟨hρ41,hρ42,hρ43,hρ44,hs45⟩
 refine st (v:=.bool ((decide ((((f.Kind:Nat):Int):Int) < 1)) || (decide ((7:Int) < ((f.Kind:Nat):Int))))) (x_move (.tmp rfl hρ41)) ?_
 refine jw 4 (fun ρ w => ρ 18 = .bool (((decide ((((f.Kind:Nat):Int):Int) < 1)) || (decide ((7:Int) < ((f.Kind:Nat):Int)))) || (decide ((f.From:Int) < 0)))∧ρ 1 = .pointer (some ⟨g29,0,none⟩)∧ρ 3 = .pointer (some ⟨g33,0,none⟩)∧ρ 4 = .int .u8 ((f.Kind:Nat):Int)∧St H w (obj g33 24 [.int .u64 0,.int .i64 0]::obj g29 30 [.int .u8 ((f.Kind:Nat):Int),.int .i64 f.From,.int .u64 ((f.ID.N:Nat):Int),.int .i64 f.ID.P,.int .u16 ((f.Set:Nat):Int),.int .u64 ((f.Cur.N:Nat):Int),.int .i64 f.Cur.P,.int .u64 ((f.Prom.N:Nat):Int),.int .i64 f.Prom.P,.slice A14 n15 c16,.int .u64 ((f.Base:Nat):Int),.slice A19 n20 c21,.slice A23 n24 c25,.int .u64 ((f.Ack:Nat):Int),.int .u64 ((f.Safe:Nat):Int)]::L)) ?_ ?_
 rcases Bool.eq_false_or_eq_true ((decide ((((f.Kind:Nat):Int):Int) < 1)) || (decide ((7:Int) < ((f.Kind:Nat):Int)))) with hc46 | hc46
 have hp46:((((f.Kind:Nat):Int):Int) < 1) ∨ ((7:Int) < ((f.Kind:Nat):Int)):=((J_or decide_eq_true_iff decide_eq_true_iff)).1 hc46
 refine g_no (yk 14 true rfl rfl hc46) rfl ?_
 refine g_no (yk 14 true rfl rfl hc46) rfl ?_
 refine g_no (yk 14 true rfl rfl hc46) rfl ?_
 refine st (v:=.bool true) (x_pick_t (.tmp rfl (cVb hc46)) .const) ?_
 exact jw_end ⟨(cVb (jor_t hc46)),hρ42,hρ43,hρ44,hs45⟩
 have hp46:¬ (((((f.Kind:Nat):Int):Int) < 1) ∨ ((7:Int) < ((f.Kind:Nat):Int))):=J_no (J_or decide_eq_true_iff decide_eq_true_iff) hc46
 refine g_yes (yk 14 false rfl rfl hc46) ?_
 refine st (v:=.pointer (some ⟨g29,0 + 1,none⟩)) (fa30_1 (.tmp rfl hρ42)) ?_
 refine g_yes (yk 14 false rfl rfl hc46) ?_
 refine st (v:=.int .i64 f.From) (ld3 (.tmp rfl rfl) (hs45.cell 1 rfl (0 + 1) rfl)) ?_
 refine g_yes (yk 14 false rfl rfl hc46) ?_
 refine st (v:=.bool (decide ((f.From:Int) < 0))) (x_lss (k:=.i64) (a:=f.From) (b:=0) (.tmp rfl rfl) .const) ?_
 refine st (v:=.bool (decide ((f.From:Int) < 0))) (x_pick_f (.tmp rfl (cVb hc46)) (.tmp rfl rfl)) ?_
 exact jw_end ⟨(cVb (jor_f hc46)),hρ42,hρ43,hρ44,hs45⟩
 rintro ρ w ⟨hρ47,hρ48,hρ49,hρ50,hs51⟩
 refine st (v:=.bool (((decide ((((f.Kind:Nat):Int):Int) < 1)) || (decide ((7:Int) < ((f.Kind:Nat):Int)))) || (decide ((f.From:Int) < 0)))) (x_move (.tmp rfl hρ47)) ?_
 refine jw 4 (fun ρ w => ρ 23 = .bool ((((decide ((((f.Kind:Nat):Int):Int) < 1)) || (decide ((7:Int) < ((f.Kind:Nat):Int)))) || (decide ((f.From:Int) < 0))) || (decide ((15:Int) < f.From)))∧ρ 1 = .pointer (some ⟨g29,0,none⟩)∧ρ 3 = .pointer (some ⟨g33,0,none⟩)∧ρ 4 = .int .u8 ((f.Kind:Nat):Int)∧St H w (obj g33 24 [.int .u64 0,.int .i64 0]::obj g29 30 [.int .u8 ((f.Kind:Nat):Int),.int .i64 f.From,.int .u64 ((f.ID.N:Nat):Int),.int .i64 f.ID.P,.int .u16 ((f.Set:Nat):Int),.int .u64 ((f.Cur.N:Nat):Int),.int .i64 f.Cur.P,.int .u64 ((f.Prom.N:Nat):Int),.int .i64 f.Prom.P,.slice A14 n15 c16,.int .u64 ((f.Base:Nat):Int),.slice A19 n20 c21,.slice A23 n24 c25,.int .u64 ((f.Ack:Nat):Int),.int .u64 ((f.Safe:Nat):Int)]::L)) ?_ ?_
 rcases Bool.eq_false_or_eq_true (((decide ((((f.Kind:Nat):Int):Int) < 1)) || (decide ((7:Int) < ((f.Kind:Nat):Int)))) || (decide ((f.From:Int) < 0))) with hc52 | hc52
 have hp52:(((((f.Kind:Nat):Int):Int) < 1) ∨ ((7:Int) < ((f.Kind:Nat):Int))) ∨ ((f.From:Int) < 0):=((J_or (J_or decide_eq_true_iff decide_eq_true_iff) decide_eq_true_iff)).1 hc52
 refine g_no (yk 19 true rfl rfl hc52) rfl ?_
 refine g_no (yk 19 true rfl rfl hc52) rfl ?_
 refine g_no (yk 19 true rfl rfl hc52) rfl ?_
 refine st (v:=.bool true) (x_pick_t (.tmp rfl (cVb hc52)) .const) ?_
 exact jw_end ⟨(cVb (jor_t hc52)),hρ48,hρ49,hρ50,hs51⟩
 have hp52:¬ ((((((f.Kind:Nat):Int):Int) < 1) ∨ ((7:Int) < ((f.Kind:Nat):Int))) ∨ ((f.From:Int) < 0)):=J_no (J_or (J_or decide_eq_true_iff decide_eq_true_iff) decide_eq_true_iff) hc52
 refine g_yes (yk 19 false rfl rfl hc52) ?_
 refine st (v:=.pointer (some ⟨g29,0 + 1,none⟩)) (fa30_1 (.tmp rfl hρ48)) ?_
 refine g_yes (yk 19 false rfl rfl hc52) ?_
 refine st (v:=.int .i64 f.From) (ld3 (.tmp rfl rfl) (hs51.cell 1 rfl (0 + 1) rfl)) ?_
 refine g_yes (yk 19 false rfl rfl hc52) ?_
 refine st (v:=.bool (decide ((15:Int) < f.From))) (x_gtr (k:=.i64) (a:=f.From) (b:=15) (.tmp rfl rfl) .const) ?_
 refine st (v:=.bool (decide ((15:Int) < f.From))) (x_pick_f (.tmp rfl (cVb hc52)) (.tmp rfl rfl)) ?_
 exact jw_end ⟨(cVb (jor_f hc52)),hρ48,hρ49,hρ50,hs51⟩
 rintro ρ w ⟨hρ53,hρ54,hρ55,hρ56,hs57⟩
 refine c_nil (n_then ?_)
 rcases Bool.eq_false_or_eq_true ((((decide ((((f.Kind:Nat):Int):Int) < 1)) || (decide ((7:Int) < ((f.Kind:Nat):Int)))) || (decide ((f.From:Int) < 0))) || (decide ((15:Int) < f.From))) with hc58 | hc58
 have hp58:((((((f.Kind:Nat):Int):Int) < 1) ∨ ((7:Int) < ((f.Kind:Nat):Int))) ∨ ((f.From:Int) < 0)) ∨ ((15:Int) < f.From):=((J_or (J_or (J_or decide_eq_true_iff decide_eq_true_iff) decide_eq_true_iff) decide_eq_true_iff)).1 hc58
 refine c_cond_t (t:=true) (.tmp rfl (hρ53.trans (cVb hc58))) rfl ?_
 refine c_seq (c_region (st (v:=.bool false) (x_assign .const) ?_))
 refine c_nil (n_then (c_ret (r_then (leave_ret (res_one (v:=.bool false) rfl (.mk rfl rfl)) ?_))))
 have hans59:(formC f) = false:=form_no0 hp58
 rw [hans59]
 exact ⟨rfl,hs57.drop.drop⟩
 have hp58:¬ (((((((f.Kind:Nat):Int):Int) < 1) ∨ ((7:Int) < ((f.Kind:Nat):Int))) ∨ ((f.From:Int) < 0)) ∨ ((15:Int) < f.From)):=J_no (J_or (J_or (J_or decide_eq_true_iff decide_eq_true_iff) decide_eq_true_iff) decide_eq_true_iff) hc58
 refine c_cond_f (t:=false) (.tmp rfl (hρ53.trans (cVb hc58))) rfl ?_
 refine c_skip (n_then (c_seq (c_seq (c_region (st (v:=.int .u8 ((f.Kind:Nat):Int)) (x_move (.tmp rfl hρ56)) ?_)))))
 refine st (v:=.bool (decide ((((f.Kind:Nat):Int):Int) = 1))) (x_eql (k:=.u8) (a:=((f.Kind:Nat):Int)) (b:=1) (.tmp rfl rfl) .const) ?_
 refine st (v:=.bool (decide ((((f.Kind:Nat):Int):Int) = 1))) (x_move (.tmp rfl rfl)) ?_
 refine jw 5 (fun ρ w => ρ 31 = .bool ((decide ((((f.Kind:Nat):Int):Int) = 1)) && (!(decide (f.ID = (GViewID.mk 0 0)))))∧ρ 1 = .pointer (some ⟨g29,0,none⟩)∧ρ 3 = .pointer (some ⟨g33,0,none⟩)∧ρ 4 = .int .u8 ((f.Kind:Nat):Int)∧St H w (obj g33 24 [.int .u64 0,.int .i64 0]::obj g29 30 [.int .u8 ((f.Kind:Nat):Int),.int .i64 f.From,.int .u64 ((f.ID.N:Nat):Int),.int .i64 f.ID.P,.int .u16 ((f.Set:Nat):Int),.int .u64 ((f.Cur.N:Nat):Int),.int .i64 f.Cur.P,.int .u64 ((f.Prom.N:Nat):Int),.int .i64 f.Prom.P,.slice A14 n15 c16,.int .u64 ((f.Base:Nat):Int),.slice A19 n20 c21,.slice A23 n24 c25,.int .u64 ((f.Ack:Nat):Int),.int .u64 ((f.Safe:Nat):Int)]::L)) ?_ ?_
 rcases Bool.eq_false_or_eq_true (decide ((((f.Kind:Nat):Int):Int) = 1)) with hc60 | hc60
 have hp60:(((f.Kind:Nat):Int):Int) = 1:=of_decide_eq_true hc60
 refine g_yes (yk 26 true rfl rfl hc60) ?_
 refine st (v:=.pointer (some ⟨g29,0 + 2,none⟩)) (fa30_2 (.tmp rfl hρ54)) ?_
 refine g_yes (yk 26 true rfl rfl hc60) ?_
 refine st (v:=.agg #[.int .u64 ((f.ID.N:Nat):Int),.int .i64 f.ID.P]) (ld24 (cs:=[.int .u64 ((f.ID.N:Nat):Int),.int .i64 f.ID.P]) (.tmp rfl rfl) (hs57.at_ 1 rfl (0 + 2) rfl) rfl) ?_
 refine g_yes (yk 26 true rfl rfl hc60) ?_
 refine st (v:=.agg #[.int .u64 0,.int .i64 0]) (ld24 (cs:=[.int .u64 0,.int .i64 0]) (.tmp rfl hρ55) (hs57.at_ 0 rfl (0) rfl) rfl) ?_
 refine g_yes (yk 26 true rfl rfl hc60) ?_
 refine st (v:=.bool (!((((f.ID.N:Nat):Int) == 0) && ((f.ID.P == 0) && true)))) (x_neqA eqg24 (.tmp rfl rfl) (.tmp rfl rfl) (fun d => eqs24 (d + 98) _ ((f.ID.N:Nat):Int) 0 f.ID.P 0)) ?_
 refine st (v:=.bool (!(decide (f.ID = (GViewID.mk 0 0))))) (x_pick_t (.tmp rfl (cVb hc60)) (.tmp rfl (congrArg (fun z => Value.bool (!z)) (GViewID.beq_dec f.ID (GViewID.mk 0 0))))) ?_
 exact jw_end ⟨(cVb (jand_t hc60)),hρ54,hρ55,hρ56,hs57⟩
 have hp60:¬ ((((f.Kind:Nat):Int):Int) = 1):=of_decide_eq_false hc60
 refine g_no (yk 26 false rfl rfl hc60) rfl ?_
 refine g_no (yk 26 false rfl rfl hc60) rfl ?_
 refine g_no (yk 26 false rfl rfl hc60) rfl ?_
 refine g_no (yk 26 false rfl rfl hc60) rfl ?_
 refine st (v:=.bool false) (x_pick_f (.tmp rfl (cVb hc60)) .const) ?_
 exact jw_end ⟨(cVb (jand_f hc60)),hρ54,hρ55,hρ56,hs57⟩
 rintro ρ w ⟨hρ61,hρ62,hρ63,hρ64,hs65⟩
 refine st (v:=.bool ((decide ((((f.Kind:Nat):Int):Int) = 1)) && (!(decide (f.ID = (GViewID.mk 0 0)))))) (x_move (.tmp rfl hρ61)) ?_
 refine jw 15 (fun ρ w => ρ 47 = .bool (((decide ((((f.Kind:Nat):Int):Int) = 1)) && (!(decide (f.ID = (GViewID.mk 0 0))))) || ((decide ((((f.Kind:Nat):Int):Int) ≠ 1)) && ((decide ((((f.ID.N:Nat):Int):Int) = 0)) || (!(formV f.ID.N f.ID.P)))))∧ρ 1 = .pointer (some ⟨g29,0,none⟩)∧ρ 3 = .pointer (some ⟨g33,0,none⟩)∧ρ 4 = .int .u8 ((f.Kind:Nat):Int)∧St H w (obj g33 24 [.int .u64 0,.int .i64 0]::obj g29 30 [.int .u8 ((f.Kind:Nat):Int),.int .i64 f.From,.int .u64 ((f.ID.N:Nat):Int),.int .i64 f.ID.P,.int .u16 ((f.Set:Nat):Int),.int .u64 ((f.Cur.N:Nat):Int),.int .i64 f.Cur.P,.int .u64 ((f.Prom.N:Nat):Int),.int .i64 f.Prom.P,.slice A14 n15 c16,.int .u64 ((f.Base:Nat):Int),.slice A19 n20 c21,.slice A23 n24 c25,.int .u64 ((f.Ack:Nat):Int),.int .u64 ((f.Safe:Nat):Int)]::L)) ?_ ?_
 rcases Bool.eq_false_or_eq_true ((decide ((((f.Kind:Nat):Int):Int) = 1)) && (!(decide (f.ID = (GViewID.mk 0 0))))) with hc66 | hc66
 have hp66:((((f.Kind:Nat):Int):Int) = 1)∧(¬ (f.ID = (GViewID.mk 0 0))):=((J_and decide_eq_true_iff (J_not decide_eq_true_iff))).1 hc66
 refine g_no (yk 32 true rfl rfl hc66) rfl ?_
 refine g_no (yk 32 true rfl rfl hc66) rfl ?_
 refine g_no (yk 32 true rfl rfl hc66) rfl ?_
 refine g_no0 (yn (dj:=35) rfl rfl) ?_
 refine g_no0 (yn (dj:=35) rfl rfl) ?_
 refine g_no0 (yn (dj:=35) rfl rfl) ?_
 refine g_no0 (yn (dj:=35) rfl rfl) ?_
 refine g_no0 (yn (dj:=35) rfl rfl) ?_
 refine g_no0 (yn (dj:=40) rfl rfl) ?_
 refine g_no0 (yn (dj:=40) rfl rfl) ?_
 refine g_no0 (yn (dj:=40) rfl rfl) ?_
 refine g_no0 (yn (dj:=40) rfl rfl) ?_
 refine g_no0 (yn (dj:=35) rfl rfl) ?_
 refine g_no (yk 32 true rfl rfl hc66) rfl ?_
 refine st (v:=.bool true) (x_pick_t (.tmp rfl (cVb hc66)) .const) ?_
 exact jw_end ⟨(cVb (jor_t hc66)),hρ62,hρ63,hρ64,hs65⟩
 have hp66:¬ (((((f.Kind:Nat):Int):Int) = 1)∧(¬ (f.ID = (GViewID.mk 0 0)))):=J_no (J_and decide_eq_true_iff (J_not decide_eq_true_iff)) hc66
 refine g_yes (yk 32 false rfl rfl hc66) ?_
 refine st (v:=.int .u8 ((f.Kind:Nat):Int)) (x_move (.tmp rfl hρ64)) ?_
 refine g_yes (yk 32 false rfl rfl hc66) ?_
 refine st (v:=.bool (decide ((((f.Kind:Nat):Int):Int) ≠ 1))) (x_neq (k:=.u8) (a:=((f.Kind:Nat):Int)) (b:=1) (.tmp rfl rfl) .const) ?_
 refine g_yes (yk 32 false rfl rfl hc66) ?_
 refine st (v:=.bool (decide ((((f.Kind:Nat):Int):Int) ≠ 1))) (x_move (.tmp rfl rfl)) ?_
 refine jw 11 (fun ρ w => ρ 46 = .bool ((decide ((((f.Kind:Nat):Int):Int) ≠ 1)) && ((decide ((((f.ID.N:Nat):Int):Int) = 0)) || (!(formV f.ID.N f.ID.P))))∧ρ 1 = .pointer (some ⟨g29,0,none⟩)∧ρ 3 = .pointer (some ⟨g33,0,none⟩)∧ρ 4 = .int .u8 ((f.Kind:Nat):Int)∧ρ 32 = .bool false∧St H w (obj g33 24 [.int .u64 0,.int .i64 0]::obj g29 30 [.int .u8 ((f.Kind:Nat):Int),.int .i64 f.From,.int .u64 ((f.ID.N:Nat):Int),.int .i64 f.ID.P,.int .u16 ((f.Set:Nat):Int),.int .u64 ((f.Cur.N:Nat):Int),.int .i64 f.Cur.P,.int .u64 ((f.Prom.N:Nat):Int),.int .i64 f.Prom.P,.slice A14 n15 c16,.int .u64 ((f.Base:Nat):Int),.slice A19 n20 c21,.slice A23 n24 c25,.int .u64 ((f.Ack:Nat):Int),.int .u64 ((f.Safe:Nat):Int)]::L)) ?_ ?_
 rcases Bool.eq_false_or_eq_true (decide ((((f.Kind:Nat):Int):Int) ≠ 1)) with hc67 | hc67
 have hp67:(((f.Kind:Nat):Int):Int) ≠ 1:=of_decide_eq_true hc67
 refine g_yes (yk 35 true rfl rfl hc67) ?_
 refine st (v:=.pointer (some ⟨g29,0 + 2,none⟩)) (fa30_2 (.tmp rfl hρ62)) ?_
 refine g_yes (yk 35 true rfl rfl hc67) ?_
 refine st (v:=.pointer (some ⟨g29,0 + 2 + 0,none⟩)) (fa24_0 (.tmp rfl rfl)) ?_
 refine g_yes (yk 35 true rfl rfl hc67) ?_
 refine st (v:=.int .u64 ((f.ID.N:Nat):Int)) (ld22 (.tmp rfl rfl) (hs65.cell 1 rfl (0 + 2 + 0) rfl)) ?_
 refine g_yes (yk 35 true rfl rfl hc67) ?_
 refine st (v:=.bool (decide ((((f.ID.N:Nat):Int):Int) = 0))) (x_eql (k:=.u64) (a:=((f.ID.N:Nat):Int)) (b:=0) (.tmp rfl rfl) .const) ?_
 refine g_yes (yk 35 true rfl rfl hc67) ?_
 refine st (v:=.bool (decide ((((f.ID.N:Nat):Int):Int) = 0))) (x_move (.tmp rfl rfl)) ?_
 refine jw 5 (fun ρ w => ρ 45 = .bool ((decide ((((f.ID.N:Nat):Int):Int) = 0)) || (!(formV f.ID.N f.ID.P)))∧ρ 1 = .pointer (some ⟨g29,0,none⟩)∧ρ 3 = .pointer (some ⟨g33,0,none⟩)∧ρ 4 = .int .u8 ((f.Kind:Nat):Int)∧ρ 32 = .bool false∧ρ 35 = .bool true∧St H w (obj g33 24 [.int .u64 0,.int .i64 0]::obj g29 30 [.int .u8 ((f.Kind:Nat):Int),.int .i64 f.From,.int .u64 ((f.ID.N:Nat):Int),.int .i64 f.ID.P,.int .u16 ((f.Set:Nat):Int),.int .u64 ((f.Cur.N:Nat):Int),.int .i64 f.Cur.P,.int .u64 ((f.Prom.N:Nat):Int),.int .i64 f.Prom.P,.slice A14 n15 c16,.int .u64 ((f.Base:Nat):Int),.slice A19 n20 c21,.slice A23 n24 c25,.int .u64 ((f.Ack:Nat):Int),.int .u64 ((f.Safe:Nat):Int)]::L)) ?_ ?_
 rcases Bool.eq_false_or_eq_true (decide ((((f.ID.N:Nat):Int):Int) = 0)) with hc68 | hc68
 have hp68:(((f.ID.N:Nat):Int):Int) = 0:=of_decide_eq_true hc68
 refine g_no (yk 40 true rfl rfl hc68) rfl ?_
 refine g_no (yk 40 true rfl rfl hc68) rfl ?_
 refine g_no (yk 40 true rfl rfl hc68) rfl ?_
 refine g_no (yk 40 true rfl rfl hc68) rfl ?_
 refine g_yes (yk 35 true rfl rfl hc67) ?_
 refine st (v:=.bool true) (x_pick_t (.tmp rfl (cVb hc68)) .const) ?_
 exact jw_end ⟨(cVb (jor_t hc68)),hρ62,hρ63,hρ64,(cVb hc66),(cVb hc67),hs65⟩
 have hp68:¬ ((((f.ID.N:Nat):Int):Int) = 0):=of_decide_eq_false hc68
 refine g_yes (yk 40 false rfl rfl hc68) ?_
 refine st (v:=.pointer (some ⟨g29,0 + 2,none⟩)) (fa30_2 (.tmp rfl hρ62)) ?_
 refine g_yes (yk 40 false rfl rfl hc68) ?_
 refine st (v:=.agg #[.int .u64 ((f.ID.N:Nat):Int),.int .i64 f.ID.P]) (ld24 (cs:=[.int .u64 ((f.ID.N:Nat):Int),.int .i64 f.ID.P]) (.tmp rfl rfl) (hs65.at_ 1 rfl (0 + 2) rfl) rfl) ?_
 refine g_yes (yk 40 false rfl rfl hc68) ?_
 refine st_c cb19 .func (evs1 (.tmp rfl rfl)) (rform_spec hs65 f.ID.N f.ID.P) ?_
 rintro e w69 ⟨rfl,hs70⟩
 refine ⟨_,rfl,?_⟩
 refine g_yes (yk 40 false rfl rfl hc68) ?_
 refine st (v:=.bool (!(formV f.ID.N f.ID.P))) (x_not (.tmp rfl rfl)) ?_
 refine g_yes (yk 35 true rfl rfl hc67) ?_
 refine st (v:=.bool (!(formV f.ID.N f.ID.P))) (x_pick_f (.tmp rfl (cVb hc68)) (.tmp rfl rfl)) ?_
 exact jw_end ⟨(cVb (jor_f hc68)),hρ62,hρ63,hρ64,(cVb hc66),(cVb hc67),hs70⟩
 rintro ρ w ⟨hρ71,hρ72,hρ73,hρ74,hρ75,hρ76,hs77⟩
 refine g_yes (yl (dj:=32) (b:=false) rfl rfl hρ75) ?_
 refine st (v:=.bool ((decide ((((f.ID.N:Nat):Int):Int) = 0)) || (!(formV f.ID.N f.ID.P)))) (x_pick_t (.tmp rfl hρ76) (.tmp rfl hρ71)) ?_
 exact jw_end ⟨(cVb (jand_t hc67)),hρ72,hρ73,hρ74,hρ75,hs77⟩
 have hp67:¬ ((((f.Kind:Nat):Int):Int) ≠ 1):=of_decide_eq_false hc67
 refine g_no (yk 35 false rfl rfl hc67) rfl ?_
 refine g_no (yk 35 false rfl rfl hc67) rfl ?_
 refine g_no (yk 35 false rfl rfl hc67) rfl ?_
 refine g_no (yk 35 false rfl rfl hc67) rfl ?_
 refine g_no (yk 35 false rfl rfl hc67) rfl ?_
 refine g_no0 (yn (dj:=40) rfl rfl) ?_
 refine g_no0 (yn (dj:=40) rfl rfl) ?_
 refine g_no0 (yn (dj:=40) rfl rfl) ?_
 refine g_no0 (yn (dj:=40) rfl rfl) ?_
 refine g_no (yk 35 false rfl rfl hc67) rfl ?_
 refine g_yes (yk 32 false rfl rfl hc66) ?_
 refine st (v:=.bool false) (x_pick_f (.tmp rfl (cVb hc67)) .const) ?_
 exact jw_end ⟨(cVb (jand_f hc67)),hρ62,hρ63,hρ64,(cVb hc66),hs65⟩
 rintro ρ w ⟨hρ78,hρ79,hρ80,hρ81,hρ82,hs83⟩
 refine st (v:=.bool ((decide ((((f.Kind:Nat):Int):Int) ≠ 1)) && ((decide ((((f.ID.N:Nat):Int):Int) = 0)) || (!(formV f.ID.N f.ID.P))))) (x_pick_f (.tmp rfl hρ82) (.tmp rfl hρ78)) ?_
 exact jw_end ⟨(cVb (jor_f hc66)),hρ79,hρ80,hρ81,hs83⟩
 rintro ρ w ⟨hρ84,hρ85,hρ86,hρ87,hs88⟩
 refine c_nil (n_then ?_)
 rcases Bool.eq_false_or_eq_true (((decide ((((f.Kind:Nat):Int):Int) = 1)) && (!(decide (f.ID = (GViewID.mk 0 0))))) || ((decide ((((f.Kind:Nat):Int):Int) ≠ 1)) && ((decide ((((f.ID.N:Nat):Int):Int) = 0)) || (!(formV f.ID.N f.ID.P))))) with hc89 | hc89
 have hp89:(((((f.Kind:Nat):Int):Int) = 1)∧(¬ (f.ID = (GViewID.mk 0 0)))) ∨ (((((f.Kind:Nat):Int):Int) ≠ 1)∧(((((f.ID.N:Nat):Int):Int) = 0) ∨ (¬ ((formV f.ID.N f.ID.P) = true)))):=((J_or (J_and decide_eq_true_iff (J_not decide_eq_true_iff)) (J_and decide_eq_true_iff (J_or decide_eq_true_iff (J_not Iff.rfl))))).1 hc89
 refine c_cond_t (t:=true) (.tmp rfl (hρ84.trans (cVb hc89))) rfl ?_
 refine c_seq (c_region (st (v:=.bool false) (x_assign .const) ?_))
 refine c_nil (n_then (c_ret (r_then (leave_ret (res_one (v:=.bool false) rfl (.mk rfl rfl)) ?_))))
 have hans90:(formC f) = false:=form_no1 hp58 hp89
 rw [hans90]
 exact ⟨rfl,hs88.drop.drop⟩
 have hp89:¬ ((((((f.Kind:Nat):Int):Int) = 1)∧(¬ (f.ID = (GViewID.mk 0 0)))) ∨ (((((f.Kind:Nat):Int):Int) ≠ 1)∧(((((f.ID.N:Nat):Int):Int) = 0) ∨ (¬ ((formV f.ID.N f.ID.P) = true))))):=J_no (J_or (J_and decide_eq_true_iff (J_not decide_eq_true_iff)) (J_and decide_eq_true_iff (J_or decide_eq_true_iff (J_not Iff.rfl)))) hc89
 refine c_cond_f (t:=false) (.tmp rfl (hρ84.trans (cVb hc89))) rfl ?_
 refine c_skip (n_then (c_seq (c_seq (c_region (st (v:=.int .u8 ((f.Kind:Nat):Int)) (x_move (.tmp rfl hρ87)) ?_)))))
 refine st (v:=.bool (decide ((((f.Kind:Nat):Int):Int) ≠ 2))) (x_neq (k:=.u8) (a:=((f.Kind:Nat):Int)) (b:=2) (.tmp rfl rfl) .const) ?_
 refine st (v:=.bool (decide ((((f.Kind:Nat):Int):Int) ≠ 2))) (x_move (.tmp rfl rfl)) ?_
 refine jw 3 (fun ρ w => ρ 53 = .bool ((decide ((((f.Kind:Nat):Int):Int) ≠ 2)) && (decide ((((f.Kind:Nat):Int):Int) ≠ 5)))∧ρ 1 = .pointer (some ⟨g29,0,none⟩)∧ρ 3 = .pointer (some ⟨g33,0,none⟩)∧ρ 4 = .int .u8 ((f.Kind:Nat):Int)∧St H w (obj g33 24 [.int .u64 0,.int .i64 0]::obj g29 30 [.int .u8 ((f.Kind:Nat):Int),.int .i64 f.From,.int .u64 ((f.ID.N:Nat):Int),.int .i64 f.ID.P,.int .u16 ((f.Set:Nat):Int),.int .u64 ((f.Cur.N:Nat):Int),.int .i64 f.Cur.P,.int .u64 ((f.Prom.N:Nat):Int),.int .i64 f.Prom.P,.slice A14 n15 c16,.int .u64 ((f.Base:Nat):Int),.slice A19 n20 c21,.slice A23 n24 c25,.int .u64 ((f.Ack:Nat):Int),.int .u64 ((f.Safe:Nat):Int)]::L)) ?_ ?_
 rcases Bool.eq_false_or_eq_true (decide ((((f.Kind:Nat):Int):Int) ≠ 2)) with hc91 | hc91
 have hp91:(((f.Kind:Nat):Int):Int) ≠ 2:=of_decide_eq_true hc91
 refine g_yes (yk 50 true rfl rfl hc91) ?_
 refine st (v:=.int .u8 ((f.Kind:Nat):Int)) (x_move (.tmp rfl hρ87)) ?_
 refine g_yes (yk 50 true rfl rfl hc91) ?_
 refine st (v:=.bool (decide ((((f.Kind:Nat):Int):Int) ≠ 5))) (x_neq (k:=.u8) (a:=((f.Kind:Nat):Int)) (b:=5) (.tmp rfl rfl) .const) ?_
 refine st (v:=.bool (decide ((((f.Kind:Nat):Int):Int) ≠ 5))) (x_pick_t (.tmp rfl (cVb hc91)) (.tmp rfl rfl)) ?_
 exact jw_end ⟨(cVb (jand_t hc91)),hρ85,hρ86,hρ87,hs88⟩
 have hp91:¬ ((((f.Kind:Nat):Int):Int) ≠ 2):=of_decide_eq_false hc91
 refine g_no (yk 50 false rfl rfl hc91) rfl ?_
 refine g_no (yk 50 false rfl rfl hc91) rfl ?_
 refine st (v:=.bool false) (x_pick_f (.tmp rfl (cVb hc91)) .const) ?_
 exact jw_end ⟨(cVb (jand_f hc91)),hρ85,hρ86,hρ87,hs88⟩
 rintro ρ w ⟨hρ92,hρ93,hρ94,hρ95,hs96⟩
 refine st (v:=.bool ((decide ((((f.Kind:Nat):Int):Int) ≠ 2)) && (decide ((((f.Kind:Nat):Int):Int) ≠ 5)))) (x_move (.tmp rfl hρ92)) ?_
 refine jw 4 (fun ρ w => ρ 58 = .bool (((decide ((((f.Kind:Nat):Int):Int) ≠ 2)) && (decide ((((f.Kind:Nat):Int):Int) ≠ 5))) && (decide ((((f.Set:Nat):Int):Int) ≠ 0)))∧ρ 1 = .pointer (some ⟨g29,0,none⟩)∧ρ 3 = .pointer (some ⟨g33,0,none⟩)∧ρ 4 = .int .u8 ((f.Kind:Nat):Int)∧St H w (obj g33 24 [.int .u64 0,.int .i64 0]::obj g29 30 [.int .u8 ((f.Kind:Nat):Int),.int .i64 f.From,.int .u64 ((f.ID.N:Nat):Int),.int .i64 f.ID.P,.int .u16 ((f.Set:Nat):Int),.int .u64 ((f.Cur.N:Nat):Int),.int .i64 f.Cur.P,.int .u64 ((f.Prom.N:Nat):Int),.int .i64 f.Prom.P,.slice A14 n15 c16,.int .u64 ((f.Base:Nat):Int),.slice A19 n20 c21,.slice A23 n24 c25,.int .u64 ((f.Ack:Nat):Int),.int .u64 ((f.Safe:Nat):Int)]::L)) ?_ ?_
 rcases Bool.eq_false_or_eq_true ((decide ((((f.Kind:Nat):Int):Int) ≠ 2)) && (decide ((((f.Kind:Nat):Int):Int) ≠ 5))) with hc97 | hc97
 have hp97:((((f.Kind:Nat):Int):Int) ≠ 2)∧((((f.Kind:Nat):Int):Int) ≠ 5):=((J_and decide_eq_true_iff decide_eq_true_iff)).1 hc97
 refine g_yes (yk 54 true rfl rfl hc97) ?_
 refine st (v:=.pointer (some ⟨g29,0 + 4,none⟩)) (fa30_3 (.tmp rfl hρ93)) ?_
 refine g_yes (yk 54 true rfl rfl hc97) ?_
 refine st (v:=.int .u16 ((f.Set:Nat):Int)) (ld25 (.tmp rfl rfl) (hs96.cell 1 rfl (0 + 4) rfl)) ?_
 refine g_yes (yk 54 true rfl rfl hc97) ?_
 refine st (v:=.bool (decide ((((f.Set:Nat):Int):Int) ≠ 0))) (x_neq (k:=.u16) (a:=((f.Set:Nat):Int)) (b:=0) (.tmp rfl rfl) .const) ?_
 refine st (v:=.bool (decide ((((f.Set:Nat):Int):Int) ≠ 0))) (x_pick_t (.tmp rfl (cVb hc97)) (.tmp rfl rfl)) ?_
 exact jw_end ⟨(cVb (jand_t hc97)),hρ93,hρ94,hρ95,hs96⟩
 have hp97:¬ (((((f.Kind:Nat):Int):Int) ≠ 2)∧((((f.Kind:Nat):Int):Int) ≠ 5)):=J_no (J_and decide_eq_true_iff decide_eq_true_iff) hc97
 refine g_no (yk 54 false rfl rfl hc97) rfl ?_
 refine g_no (yk 54 false rfl rfl hc97) rfl ?_
 refine g_no (yk 54 false rfl rfl hc97) rfl ?_
 refine st (v:=.bool false) (x_pick_f (.tmp rfl (cVb hc97)) .const) ?_
 exact jw_end ⟨(cVb (jand_f hc97)),hρ93,hρ94,hρ95,hs96⟩
 rintro ρ w ⟨hρ98,hρ99,hρ100,hρ101,hs102⟩
 refine st (v:=.bool (((decide ((((f.Kind:Nat):Int):Int) ≠ 2)) && (decide ((((f.Kind:Nat):Int):Int) ≠ 5))) && (decide ((((f.Set:Nat):Int):Int) ≠ 0)))) (x_move (.tmp rfl hρ98)) ?_
 refine jw 9 (fun ρ w => ρ 68 = .bool ((((decide ((((f.Kind:Nat):Int):Int) ≠ 2)) && (decide ((((f.Kind:Nat):Int):Int) ≠ 5))) && (decide ((((f.Set:Nat):Int):Int) ≠ 0))) || ((decide ((((f.Kind:Nat):Int):Int) ≠ 1)) && (!(decide (f.Cur = (GViewID.mk 0 0))))))∧ρ 1 = .pointer (some ⟨g29,0,none⟩)∧ρ 3 = .pointer (some ⟨g33,0,none⟩)∧ρ 4 = .int .u8 ((f.Kind:Nat):Int)∧St H w (obj g33 24 [.int .u64 0,.int .i64 0]::obj g29 30 [.int .u8 ((f.Kind:Nat):Int),.int .i64 f.From,.int .u64 ((f.ID.N:Nat):Int),.int .i64 f.ID.P,.int .u16 ((f.Set:Nat):Int),.int .u64 ((f.Cur.N:Nat):Int),.int .i64 f.Cur.P,.int .u64 ((f.Prom.N:Nat):Int),.int .i64 f.Prom.P,.slice A14 n15 c16,.int .u64 ((f.Base:Nat):Int),.slice A19 n20 c21,.slice A23 n24 c25,.int .u64 ((f.Ack:Nat):Int),.int .u64 ((f.Safe:Nat):Int)]::L)) ?_ ?_
 rcases Bool.eq_false_or_eq_true (((decide ((((f.Kind:Nat):Int):Int) ≠ 2)) && (decide ((((f.Kind:Nat):Int):Int) ≠ 5))) && (decide ((((f.Set:Nat):Int):Int) ≠ 0))) with hc103 | hc103
 have hp103:(((((f.Kind:Nat):Int):Int) ≠ 2)∧((((f.Kind:Nat):Int):Int) ≠ 5))∧((((f.Set:Nat):Int):Int) ≠ 0):=((J_and (J_and decide_eq_true_iff decide_eq_true_iff) decide_eq_true_iff)).1 hc103
 refine g_no (yk 59 true rfl rfl hc103) rfl ?_
 refine g_no (yk 59 true rfl rfl hc103) rfl ?_
 refine g_no (yk 59 true rfl rfl hc103) rfl ?_
 refine g_no0 (yn (dj:=62) rfl rfl) ?_
 refine g_no0 (yn (dj:=62) rfl rfl) ?_
 refine g_no0 (yn (dj:=62) rfl rfl) ?_
 refine g_no0 (yn (dj:=62) rfl rfl) ?_
 refine g_no (yk 59 true rfl rfl hc103) rfl ?_
 refine st (v:=.bool true) (x_pick_t (.tmp rfl (cVb hc103)) .const) ?_
 exact jw_end ⟨(cVb (jor_t hc103)),hρ99,hρ100,hρ101,hs102⟩
 have hp103:¬ ((((((f.Kind:Nat):Int):Int) ≠ 2)∧((((f.Kind:Nat):Int):Int) ≠ 5))∧((((f.Set:Nat):Int):Int) ≠ 0)):=J_no (J_and (J_and decide_eq_true_iff decide_eq_true_iff) decide_eq_true_iff) hc103
 refine g_yes (yk 59 false rfl rfl hc103) ?_
 refine st (v:=.int .u8 ((f.Kind:Nat):Int)) (x_move (.tmp rfl hρ101)) ?_
 refine g_yes (yk 59 false rfl rfl hc103) ?_
 refine st (v:=.bool (decide ((((f.Kind:Nat):Int):Int) ≠ 1))) (x_neq (k:=.u8) (a:=((f.Kind:Nat):Int)) (b:=1) (.tmp rfl rfl) .const) ?_
 refine g_yes (yk 59 false rfl rfl hc103) ?_
 refine st (v:=.bool (decide ((((f.Kind:Nat):Int):Int) ≠ 1))) (x_move (.tmp rfl rfl)) ?_
 refine jw 5 (fun ρ w => ρ 67 = .bool ((decide ((((f.Kind:Nat):Int):Int) ≠ 1)) && (!(decide (f.Cur = (GViewID.mk 0 0)))))∧ρ 1 = .pointer (some ⟨g29,0,none⟩)∧ρ 3 = .pointer (some ⟨g33,0,none⟩)∧ρ 4 = .int .u8 ((f.Kind:Nat):Int)∧ρ 59 = .bool false∧St H w (obj g33 24 [.int .u64 0,.int .i64 0]::obj g29 30 [.int .u8 ((f.Kind:Nat):Int),.int .i64 f.From,.int .u64 ((f.ID.N:Nat):Int),.int .i64 f.ID.P,.int .u16 ((f.Set:Nat):Int),.int .u64 ((f.Cur.N:Nat):Int),.int .i64 f.Cur.P,.int .u64 ((f.Prom.N:Nat):Int),.int .i64 f.Prom.P,.slice A14 n15 c16,.int .u64 ((f.Base:Nat):Int),.slice A19 n20 c21,.slice A23 n24 c25,.int .u64 ((f.Ack:Nat):Int),.int .u64 ((f.Safe:Nat):Int)]::L)) ?_ ?_
 rcases Bool.eq_false_or_eq_true (decide ((((f.Kind:Nat):Int):Int) ≠ 1)) with hc104 | hc104
 have hp104:(((f.Kind:Nat):Int):Int) ≠ 1:=of_decide_eq_true hc104
 refine g_yes (yk 62 true rfl rfl hc104) ?_
 refine st (v:=.pointer (some ⟨g29,0 + 5,none⟩)) (fa30_4 (.tmp rfl hρ99)) ?_
 refine g_yes (yk 62 true rfl rfl hc104) ?_
 refine st (v:=.agg #[.int .u64 ((f.Cur.N:Nat):Int),.int .i64 f.Cur.P]) (ld24 (cs:=[.int .u64 ((f.Cur.N:Nat):Int),.int .i64 f.Cur.P]) (.tmp rfl rfl) (hs102.at_ 1 rfl (0 + 5) rfl) rfl) ?_
 refine g_yes (yk 62 true rfl rfl hc104) ?_
 refine st (v:=.agg #[.int .u64 0,.int .i64 0]) (ld24 (cs:=[.int .u64 0,.int .i64 0]) (.tmp rfl hρ100) (hs102.at_ 0 rfl (0) rfl) rfl) ?_
 refine g_yes (yk 62 true rfl rfl hc104) ?_
 refine st (v:=.bool (!((((f.Cur.N:Nat):Int) == 0) && ((f.Cur.P == 0) && true)))) (x_neqA eqg24 (.tmp rfl rfl) (.tmp rfl rfl) (fun d => eqs24 (d + 98) _ ((f.Cur.N:Nat):Int) 0 f.Cur.P 0)) ?_
 refine g_yes (yk 59 false rfl rfl hc103) ?_
 refine st (v:=.bool (!(decide (f.Cur = (GViewID.mk 0 0))))) (x_pick_t (.tmp rfl (cVb hc104)) (.tmp rfl (congrArg (fun z => Value.bool (!z)) (GViewID.beq_dec f.Cur (GViewID.mk 0 0))))) ?_
 exact jw_end ⟨(cVb (jand_t hc104)),hρ99,hρ100,hρ101,(cVb hc103),hs102⟩
 have hp104:¬ ((((f.Kind:Nat):Int):Int) ≠ 1):=of_decide_eq_false hc104
 refine g_no (yk 62 false rfl rfl hc104) rfl ?_
 refine g_no (yk 62 false rfl rfl hc104) rfl ?_
 refine g_no (yk 62 false rfl rfl hc104) rfl ?_
 refine g_no (yk 62 false rfl rfl hc104) rfl ?_
 refine g_yes (yk 59 false rfl rfl hc103) ?_
 refine st (v:=.bool false) (x_pick_f (.tmp rfl (cVb hc104)) .const) ?_
 exact jw_end ⟨(cVb (jand_f hc104)),hρ99,hρ100,hρ101,(cVb hc103),hs102⟩
 rintro ρ w ⟨hρ105,hρ106,hρ107,hρ108,hρ109,hs110⟩
 refine st (v:=.bool ((decide ((((f.Kind:Nat):Int):Int) ≠ 1)) && (!(decide (f.Cur = (GViewID.mk 0 0)))))) (x_pick_f (.tmp rfl hρ109) (.tmp rfl hρ105)) ?_
 exact jw_end ⟨(cVb (jor_f hc103)),hρ106,hρ107,hρ108,hs110⟩
 rintro ρ w ⟨hρ111,hρ112,hρ113,hρ114,hs115⟩
 refine st (v:=.bool ((((decide ((((f.Kind:Nat):Int):Int) ≠ 2)) && (decide ((((f.Kind:Nat):Int):Int) ≠ 5))) && (decide ((((f.Set:Nat):Int):Int) ≠ 0))) || ((decide ((((f.Kind:Nat):Int):Int) ≠ 1)) && (!(decide (f.Cur = (GViewID.mk 0 0))))))) (x_move (.tmp rfl hρ111)) ?_
 refine jw 13 (fun ρ w => ρ 82 = .bool (((((decide ((((f.Kind:Nat):Int):Int) ≠ 2)) && (decide ((((f.Kind:Nat):Int):Int) ≠ 5))) && (decide ((((f.Set:Nat):Int):Int) ≠ 0))) || ((decide ((((f.Kind:Nat):Int):Int) ≠ 1)) && (!(decide (f.Cur = (GViewID.mk 0 0)))))) || (((decide ((((f.Kind:Nat):Int):Int) ≠ 1)) && (decide ((((f.Kind:Nat):Int):Int) ≠ 4))) && (!(decide (f.Prom = (GViewID.mk 0 0))))))∧ρ 1 = .pointer (some ⟨g29,0,none⟩)∧ρ 4 = .int .u8 ((f.Kind:Nat):Int)∧St H w (obj g33 24 [.int .u64 0,.int .i64 0]::obj g29 30 [.int .u8 ((f.Kind:Nat):Int),.int .i64 f.From,.int .u64 ((f.ID.N:Nat):Int),.int .i64 f.ID.P,.int .u16 ((f.Set:Nat):Int),.int .u64 ((f.Cur.N:Nat):Int),.int .i64 f.Cur.P,.int .u64 ((f.Prom.N:Nat):Int),.int .i64 f.Prom.P,.slice A14 n15 c16,.int .u64 ((f.Base:Nat):Int),.slice A19 n20 c21,.slice A23 n24 c25,.int .u64 ((f.Ack:Nat):Int),.int .u64 ((f.Safe:Nat):Int)]::L)) ?_ ?_
 rcases Bool.eq_false_or_eq_true ((((decide ((((f.Kind:Nat):Int):Int) ≠ 2)) && (decide ((((f.Kind:Nat):Int):Int) ≠ 5))) && (decide ((((f.Set:Nat):Int):Int) ≠ 0))) || ((decide ((((f.Kind:Nat):Int):Int) ≠ 1)) && (!(decide (f.Cur = (GViewID.mk 0 0)))))) with hc116 | hc116
 have hp116:((((((f.Kind:Nat):Int):Int) ≠ 2)∧((((f.Kind:Nat):Int):Int) ≠ 5))∧((((f.Set:Nat):Int):Int) ≠ 0)) ∨ (((((f.Kind:Nat):Int):Int) ≠ 1)∧(¬ (f.Cur = (GViewID.mk 0 0)))):=((J_or (J_and (J_and decide_eq_true_iff decide_eq_true_iff) decide_eq_true_iff) (J_and decide_eq_true_iff (J_not decide_eq_true_iff)))).1 hc116
 refine g_no (yk 69 true rfl rfl hc116) rfl ?_
 refine g_no (yk 69 true rfl rfl hc116) rfl ?_
 refine g_no (yk 69 true rfl rfl hc116) rfl ?_
 refine g_no0 (yn (dj:=72) rfl rfl) ?_
 refine g_no0 (yn (dj:=72) rfl rfl) ?_
 refine g_no (yk 69 true rfl rfl hc116) rfl ?_
 refine g_no (yk 69 true rfl rfl hc116) rfl ?_
 refine g_no0 (yn (dj:=76) rfl rfl) ?_
 refine g_no0 (yn (dj:=76) rfl rfl) ?_
 refine g_no0 (yn (dj:=76) rfl rfl) ?_
 refine g_no0 (yn (dj:=76) rfl rfl) ?_
 refine g_no (yk 69 true rfl rfl hc116) rfl ?_
 refine st (v:=.bool true) (x_pick_t (.tmp rfl (cVb hc116)) .const) ?_
 exact jw_end ⟨(cVb (jor_t hc116)),hρ112,hρ114,hs115⟩
 have hp116:¬ (((((((f.Kind:Nat):Int):Int) ≠ 2)∧((((f.Kind:Nat):Int):Int) ≠ 5))∧((((f.Set:Nat):Int):Int) ≠ 0)) ∨ (((((f.Kind:Nat):Int):Int) ≠ 1)∧(¬ (f.Cur = (GViewID.mk 0 0))))):=J_no (J_or (J_and (J_and decide_eq_true_iff decide_eq_true_iff) decide_eq_true_iff) (J_and decide_eq_true_iff (J_not decide_eq_true_iff))) hc116
 refine g_yes (yk 69 false rfl rfl hc116) ?_
 refine st (v:=.int .u8 ((f.Kind:Nat):Int)) (x_move (.tmp rfl hρ114)) ?_
 refine g_yes (yk 69 false rfl rfl hc116) ?_
 refine st (v:=.bool (decide ((((f.Kind:Nat):Int):Int) ≠ 1))) (x_neq (k:=.u8) (a:=((f.Kind:Nat):Int)) (b:=1) (.tmp rfl rfl) .const) ?_
 refine g_yes (yk 69 false rfl rfl hc116) ?_
 refine st (v:=.bool (decide ((((f.Kind:Nat):Int):Int) ≠ 1))) (x_move (.tmp rfl rfl)) ?_
 refine jw 3 (fun ρ w => ρ 75 = .bool ((decide ((((f.Kind:Nat):Int):Int) ≠ 1)) && (decide ((((f.Kind:Nat):Int):Int) ≠ 4)))∧ρ 1 = .pointer (some ⟨g29,0,none⟩)∧ρ 3 = .pointer (some ⟨g33,0,none⟩)∧ρ 4 = .int .u8 ((f.Kind:Nat):Int)∧ρ 69 = .bool false∧St H w (obj g33 24 [.int .u64 0,.int .i64 0]::obj g29 30 [.int .u8 ((f.Kind:Nat):Int),.int .i64 f.From,.int .u64 ((f.ID.N:Nat):Int),.int .i64 f.ID.P,.int .u16 ((f.Set:Nat):Int),.int .u64 ((f.Cur.N:Nat):Int),.int .i64 f.Cur.P,.int .u64 ((f.Prom.N:Nat):Int),.int .i64 f.Prom.P,.slice A14 n15 c16,.int .u64 ((f.Base:Nat):Int),.slice A19 n20 c21,.slice A23 n24 c25,.int .u64 ((f.Ack:Nat):Int),.int .u64 ((f.Safe:Nat):Int)]::L)) ?_ ?_
 rcases Bool.eq_false_or_eq_true (decide ((((f.Kind:Nat):Int):Int) ≠ 1)) with hc117 | hc117
 have hp117:(((f.Kind:Nat):Int):Int) ≠ 1:=of_decide_eq_true hc117
 refine g_yes (yk 72 true rfl rfl hc117) ?_
 refine st (v:=.int .u8 ((f.Kind:Nat):Int)) (x_move (.tmp rfl hρ114)) ?_
 refine g_yes (yk 72 true rfl rfl hc117) ?_
 refine st (v:=.bool (decide ((((f.Kind:Nat):Int):Int) ≠ 4))) (x_neq (k:=.u8) (a:=((f.Kind:Nat):Int)) (b:=4) (.tmp rfl rfl) .const) ?_
 refine g_yes (yk 69 false rfl rfl hc116) ?_
 refine st (v:=.bool (decide ((((f.Kind:Nat):Int):Int) ≠ 4))) (x_pick_t (.tmp rfl (cVb hc117)) (.tmp rfl rfl)) ?_
 exact jw_end ⟨(cVb (jand_t hc117)),hρ112,hρ113,hρ114,(cVb hc116),hs115⟩
 have hp117:¬ ((((f.Kind:Nat):Int):Int) ≠ 1):=of_decide_eq_false hc117
 refine g_no (yk 72 false rfl rfl hc117) rfl ?_
 refine g_no (yk 72 false rfl rfl hc117) rfl ?_
 refine g_yes (yk 69 false rfl rfl hc116) ?_
 refine st (v:=.bool false) (x_pick_f (.tmp rfl (cVb hc117)) .const) ?_
 exact jw_end ⟨(cVb (jand_f hc117)),hρ112,hρ113,hρ114,(cVb hc116),hs115⟩
 rintro ρ w ⟨hρ118,hρ119,hρ120,hρ121,hρ122,hs123⟩
 refine g_yes (yl (dj:=69) (b:=false) rfl rfl hρ122) ?_
 refine st (v:=.bool ((decide ((((f.Kind:Nat):Int):Int) ≠ 1)) && (decide ((((f.Kind:Nat):Int):Int) ≠ 4)))) (x_move (.tmp rfl hρ118)) ?_
 refine jw 5 (fun ρ w => ρ 81 = .bool (((decide ((((f.Kind:Nat):Int):Int) ≠ 1)) && (decide ((((f.Kind:Nat):Int):Int) ≠ 4))) && (!(decide (f.Prom = (GViewID.mk 0 0)))))∧ρ 1 = .pointer (some ⟨g29,0,none⟩)∧ρ 4 = .int .u8 ((f.Kind:Nat):Int)∧ρ 69 = .bool false∧St H w (obj g33 24 [.int .u64 0,.int .i64 0]::obj g29 30 [.int .u8 ((f.Kind:Nat):Int),.int .i64 f.From,.int .u64 ((f.ID.N:Nat):Int),.int .i64 f.ID.P,.int .u16 ((f.Set:Nat):Int),.int .u64 ((f.Cur.N:Nat):Int),.int .i64 f.Cur.P,.int .u64 ((f.Prom.N:Nat):Int),.int .i64 f.Prom.P,.slice A14 n15 c16,.int .u64 ((f.Base:Nat):Int),.slice A19 n20 c21,.slice A23 n24 c25,.int .u64 ((f.Ack:Nat):Int),.int .u64 ((f.Safe:Nat):Int)]::L)) ?_ ?_
 rcases Bool.eq_false_or_eq_true ((decide ((((f.Kind:Nat):Int):Int) ≠ 1)) && (decide ((((f.Kind:Nat):Int):Int) ≠ 4))) with hc124 | hc124
 have hp124:((((f.Kind:Nat):Int):Int) ≠ 1)∧((((f.Kind:Nat):Int):Int) ≠ 4):=((J_and decide_eq_true_iff decide_eq_true_iff)).1 hc124
 refine g_yes (yk 76 true rfl rfl hc124) ?_
 refine st (v:=.pointer (some ⟨g29,0 + 7,none⟩)) (fa30_5 (.tmp rfl hρ119)) ?_
 refine g_yes (yk 76 true rfl rfl hc124) ?_
 refine st (v:=.agg #[.int .u64 ((f.Prom.N:Nat):Int),.int .i64 f.Prom.P]) (ld24 (cs:=[.int .u64 ((f.Prom.N:Nat):Int),.int .i64 f.Prom.P]) (.tmp rfl rfl) (hs123.at_ 1 rfl (0 + 7) rfl) rfl) ?_
 refine g_yes (yk 76 true rfl rfl hc124) ?_
 refine st (v:=.agg #[.int .u64 0,.int .i64 0]) (ld24 (cs:=[.int .u64 0,.int .i64 0]) (.tmp rfl hρ120) (hs123.at_ 0 rfl (0) rfl) rfl) ?_
 refine g_yes (yk 76 true rfl rfl hc124) ?_
 refine st (v:=.bool (!((((f.Prom.N:Nat):Int) == 0) && ((f.Prom.P == 0) && true)))) (x_neqA eqg24 (.tmp rfl rfl) (.tmp rfl rfl) (fun d => eqs24 (d + 98) _ ((f.Prom.N:Nat):Int) 0 f.Prom.P 0)) ?_
 refine g_yes (yl (dj:=69) (b:=false) rfl rfl hρ122) ?_
 refine st (v:=.bool (!(decide (f.Prom = (GViewID.mk 0 0))))) (x_pick_t (.tmp rfl (cVb hc124)) (.tmp rfl (congrArg (fun z => Value.bool (!z)) (GViewID.beq_dec f.Prom (GViewID.mk 0 0))))) ?_
 exact jw_end ⟨(cVb (jand_t hc124)),hρ119,hρ121,hρ122,hs123⟩
 have hp124:¬ (((((f.Kind:Nat):Int):Int) ≠ 1)∧((((f.Kind:Nat):Int):Int) ≠ 4)):=J_no (J_and decide_eq_true_iff decide_eq_true_iff) hc124
 refine g_no (yk 76 false rfl rfl hc124) rfl ?_
 refine g_no (yk 76 false rfl rfl hc124) rfl ?_
 refine g_no (yk 76 false rfl rfl hc124) rfl ?_
 refine g_no (yk 76 false rfl rfl hc124) rfl ?_
 refine g_yes (yl (dj:=69) (b:=false) rfl rfl hρ122) ?_
 refine st (v:=.bool false) (x_pick_f (.tmp rfl (cVb hc124)) .const) ?_
 exact jw_end ⟨(cVb (jand_f hc124)),hρ119,hρ121,hρ122,hs123⟩
 rintro ρ w ⟨hρ125,hρ126,hρ127,hρ128,hs129⟩
 refine st (v:=.bool (((decide ((((f.Kind:Nat):Int):Int) ≠ 1)) && (decide ((((f.Kind:Nat):Int):Int) ≠ 4))) && (!(decide (f.Prom = (GViewID.mk 0 0)))))) (x_pick_f (.tmp rfl hρ128) (.tmp rfl hρ125)) ?_
 exact jw_end ⟨(cVb (jor_f hc116)),hρ126,hρ127,hs129⟩
 rintro ρ w ⟨hρ130,hρ131,hρ132,hs133⟩
 refine st (v:=.bool (((((decide ((((f.Kind:Nat):Int):Int) ≠ 2)) && (decide ((((f.Kind:Nat):Int):Int) ≠ 5))) && (decide ((((f.Set:Nat):Int):Int) ≠ 0))) || ((decide ((((f.Kind:Nat):Int):Int) ≠ 1)) && (!(decide (f.Cur = (GViewID.mk 0 0)))))) || (((decide ((((f.Kind:Nat):Int):Int) ≠ 1)) && (decide ((((f.Kind:Nat):Int):Int) ≠ 4))) && (!(decide (f.Prom = (GViewID.mk 0 0))))))) (x_move (.tmp rfl hρ130)) ?_
 refine jw 13 (fun ρ w => ρ 96 = .bool ((((((decide ((((f.Kind:Nat):Int):Int) ≠ 2)) && (decide ((((f.Kind:Nat):Int):Int) ≠ 5))) && (decide ((((f.Set:Nat):Int):Int) ≠ 0))) || ((decide ((((f.Kind:Nat):Int):Int) ≠ 1)) && (!(decide (f.Cur = (GViewID.mk 0 0)))))) || (((decide ((((f.Kind:Nat):Int):Int) ≠ 1)) && (decide ((((f.Kind:Nat):Int):Int) ≠ 4))) && (!(decide (f.Prom = (GViewID.mk 0 0)))))) || (((decide ((((f.Kind:Nat):Int):Int) ≠ 3)) && (decide ((((f.Kind:Nat):Int):Int) ≠ 5))) && (decide ((0:Int) < ((n15:Nat):Int)))))∧ρ 1 = .pointer (some ⟨g29,0,none⟩)∧ρ 4 = .int .u8 ((f.Kind:Nat):Int)∧St H w (obj g33 24 [.int .u64 0,.int .i64 0]::obj g29 30 [.int .u8 ((f.Kind:Nat):Int),.int .i64 f.From,.int .u64 ((f.ID.N:Nat):Int),.int .i64 f.ID.P,.int .u16 ((f.Set:Nat):Int),.int .u64 ((f.Cur.N:Nat):Int),.int .i64 f.Cur.P,.int .u64 ((f.Prom.N:Nat):Int),.int .i64 f.Prom.P,.slice A14 n15 c16,.int .u64 ((f.Base:Nat):Int),.slice A19 n20 c21,.slice A23 n24 c25,.int .u64 ((f.Ack:Nat):Int),.int .u64 ((f.Safe:Nat):Int)]::L)) ?_ ?_
 rcases Bool.eq_false_or_eq_true (((((decide ((((f.Kind:Nat):Int):Int) ≠ 2)) && (decide ((((f.Kind:Nat):Int):Int) ≠ 5))) && (decide ((((f.Set:Nat):Int):Int) ≠ 0))) || ((decide ((((f.Kind:Nat):Int):Int) ≠ 1)) && (!(decide (f.Cur = (GViewID.mk 0 0)))))) || (((decide ((((f.Kind:Nat):Int):Int) ≠ 1)) && (decide ((((f.Kind:Nat):Int):Int) ≠ 4))) && (!(decide (f.Prom = (GViewID.mk 0 0)))))) with hc134 | hc134
 have hp134:(((((((f.Kind:Nat):Int):Int) ≠ 2)∧((((f.Kind:Nat):Int):Int) ≠ 5))∧((((f.Set:Nat):Int):Int) ≠ 0)) ∨ (((((f.Kind:Nat):Int):Int) ≠ 1)∧(¬ (f.Cur = (GViewID.mk 0 0))))) ∨ ((((((f.Kind:Nat):Int):Int) ≠ 1)∧((((f.Kind:Nat):Int):Int) ≠ 4))∧(¬ (f.Prom = (GViewID.mk 0 0)))):=((J_or (J_or (J_and (J_and decide_eq_true_iff decide_eq_true_iff) decide_eq_true_iff) (J_and decide_eq_true_iff (J_not decide_eq_true_iff))) (J_and (J_and decide_eq_true_iff decide_eq_true_iff) (J_not decide_eq_true_iff)))).1 hc134
 refine g_no (yk 83 true rfl rfl hc134) rfl ?_
 refine g_no (yk 83 true rfl rfl hc134) rfl ?_
 refine g_no (yk 83 true rfl rfl hc134) rfl ?_
 refine g_no0 (yn (dj:=86) rfl rfl) ?_
 refine g_no0 (yn (dj:=86) rfl rfl) ?_
 refine g_no (yk 83 true rfl rfl hc134) rfl ?_
 refine g_no (yk 83 true rfl rfl hc134) rfl ?_
 refine g_no0 (yn (dj:=90) rfl rfl) ?_
 refine g_no0 (yn (dj:=90) rfl rfl) ?_
 refine g_no0 (yn (dj:=90) rfl rfl) ?_
 refine g_no0 (yn (dj:=90) rfl rfl) ?_
 refine g_no (yk 83 true rfl rfl hc134) rfl ?_
 refine st (v:=.bool true) (x_pick_t (.tmp rfl (cVb hc134)) .const) ?_
 exact jw_end ⟨(cVb (jor_t hc134)),hρ131,hρ132,hs133⟩
 have hp134:¬ ((((((((f.Kind:Nat):Int):Int) ≠ 2)∧((((f.Kind:Nat):Int):Int) ≠ 5))∧((((f.Set:Nat):Int):Int) ≠ 0)) ∨ (((((f.Kind:Nat):Int):Int) ≠ 1)∧(¬ (f.Cur = (GViewID.mk 0 0))))) ∨ ((((((f.Kind:Nat):Int):Int) ≠ 1)∧((((f.Kind:Nat):Int):Int) ≠ 4))∧(¬ (f.Prom = (GViewID.mk 0 0))))):=J_no (J_or (J_or (J_and (J_and decide_eq_true_iff decide_eq_true_iff) decide_eq_true_iff) (J_and decide_eq_true_iff (J_not decide_eq_true_iff))) (J_and (J_and decide_eq_true_iff decide_eq_true_iff) (J_not decide_eq_true_iff))) hc134
 refine g_yes (yk 83 false rfl rfl hc134) ?_
 refine st (v:=.int .u8 ((f.Kind:Nat):Int)) (x_move (.tmp rfl hρ132)) ?_
 refine g_yes (yk 83 false rfl rfl hc134) ?_
 refine st (v:=.bool (decide ((((f.Kind:Nat):Int):Int) ≠ 3))) (x_neq (k:=.u8) (a:=((f.Kind:Nat):Int)) (b:=3) (.tmp rfl rfl) .const) ?_
 refine g_yes (yk 83 false rfl rfl hc134) ?_
 refine st (v:=.bool (decide ((((f.Kind:Nat):Int):Int) ≠ 3))) (x_move (.tmp rfl rfl)) ?_
 refine jw 3 (fun ρ w => ρ 89 = .bool ((decide ((((f.Kind:Nat):Int):Int) ≠ 3)) && (decide ((((f.Kind:Nat):Int):Int) ≠ 5)))∧ρ 1 = .pointer (some ⟨g29,0,none⟩)∧ρ 4 = .int .u8 ((f.Kind:Nat):Int)∧ρ 83 = .bool false∧St H w (obj g33 24 [.int .u64 0,.int .i64 0]::obj g29 30 [.int .u8 ((f.Kind:Nat):Int),.int .i64 f.From,.int .u64 ((f.ID.N:Nat):Int),.int .i64 f.ID.P,.int .u16 ((f.Set:Nat):Int),.int .u64 ((f.Cur.N:Nat):Int),.int .i64 f.Cur.P,.int .u64 ((f.Prom.N:Nat):Int),.int .i64 f.Prom.P,.slice A14 n15 c16,.int .u64 ((f.Base:Nat):Int),.slice A19 n20 c21,.slice A23 n24 c25,.int .u64 ((f.Ack:Nat):Int),.int .u64 ((f.Safe:Nat):Int)]::L)) ?_ ?_
 rcases Bool.eq_false_or_eq_true (decide ((((f.Kind:Nat):Int):Int) ≠ 3)) with hc135 | hc135
 have hp135:(((f.Kind:Nat):Int):Int) ≠ 3:=of_decide_eq_true hc135
 refine g_yes (yk 86 true rfl rfl hc135) ?_
 refine st (v:=.int .u8 ((f.Kind:Nat):Int)) (x_move (.tmp rfl hρ132)) ?_
 refine g_yes (yk 86 true rfl rfl hc135) ?_
 refine st (v:=.bool (decide ((((f.Kind:Nat):Int):Int) ≠ 5))) (x_neq (k:=.u8) (a:=((f.Kind:Nat):Int)) (b:=5) (.tmp rfl rfl) .const) ?_
 refine g_yes (yk 83 false rfl rfl hc134) ?_
 refine st (v:=.bool (decide ((((f.Kind:Nat):Int):Int) ≠ 5))) (x_pick_t (.tmp rfl (cVb hc135)) (.tmp rfl rfl)) ?_
 exact jw_end ⟨(cVb (jand_t hc135)),hρ131,hρ132,(cVb hc134),hs133⟩
 have hp135:¬ ((((f.Kind:Nat):Int):Int) ≠ 3):=of_decide_eq_false hc135
 refine g_no (yk 86 false rfl rfl hc135) rfl ?_
 refine g_no (yk 86 false rfl rfl hc135) rfl ?_
 refine g_yes (yk 83 false rfl rfl hc134) ?_
 refine st (v:=.bool false) (x_pick_f (.tmp rfl (cVb hc135)) .const) ?_
 exact jw_end ⟨(cVb (jand_f hc135)),hρ131,hρ132,(cVb hc134),hs133⟩
 rintro ρ w ⟨hρ136,hρ137,hρ138,hρ139,hs140⟩
 refine g_yes (yl (dj:=83) (b:=false) rfl rfl hρ139) ?_
 refine st (v:=.bool ((decide ((((f.Kind:Nat):Int):Int) ≠ 3)) && (decide ((((f.Kind:Nat):Int):Int) ≠ 5)))) (x_move (.tmp rfl hρ136)) ?_
 refine jw 5 (fun ρ w => ρ 95 = .bool (((decide ((((f.Kind:Nat):Int):Int) ≠ 3)) && (decide ((((f.Kind:Nat):Int):Int) ≠ 5))) && (decide ((0:Int) < ((n15:Nat):Int))))∧ρ 1 = .pointer (some ⟨g29,0,none⟩)∧ρ 4 = .int .u8 ((f.Kind:Nat):Int)∧ρ 83 = .bool false∧St H w (obj g33 24 [.int .u64 0,.int .i64 0]::obj g29 30 [.int .u8 ((f.Kind:Nat):Int),.int .i64 f.From,.int .u64 ((f.ID.N:Nat):Int),.int .i64 f.ID.P,.int .u16 ((f.Set:Nat):Int),.int .u64 ((f.Cur.N:Nat):Int),.int .i64 f.Cur.P,.int .u64 ((f.Prom.N:Nat):Int),.int .i64 f.Prom.P,.slice A14 n15 c16,.int .u64 ((f.Base:Nat):Int),.slice A19 n20 c21,.slice A23 n24 c25,.int .u64 ((f.Ack:Nat):Int),.int .u64 ((f.Safe:Nat):Int)]::L)) ?_ ?_
 rcases Bool.eq_false_or_eq_true ((decide ((((f.Kind:Nat):Int):Int) ≠ 3)) && (decide ((((f.Kind:Nat):Int):Int) ≠ 5))) with hc141 | hc141
 have hp141:((((f.Kind:Nat):Int):Int) ≠ 3)∧((((f.Kind:Nat):Int):Int) ≠ 5):=((J_and decide_eq_true_iff decide_eq_true_iff)).1 hc141
 refine g_yes (yk 90 true rfl rfl hc141) ?_
 refine st (v:=.pointer (some ⟨g29,0 + 9,none⟩)) (fa30_6 (.tmp rfl hρ137)) ?_
 refine g_yes (yk 90 true rfl rfl hc141) ?_
 refine st (v:=.slice A14 n15 c16) (ld26 (.tmp rfl rfl) (hs140.cell 1 rfl (0 + 9) rfl)) ?_
 refine g_yes (yk 90 true rfl rfl hc141) ?_
 refine st (v:=.int .i64 ((n15:Nat):Int)) (x_len (n:=n15) Try.underlying26 (.tmp rfl rfl)) ?_
 refine g_yes (yk 90 true rfl rfl hc141) ?_
 refine st (v:=.bool (decide ((0:Int) < ((n15:Nat):Int)))) (x_gtr (k:=.i64) (a:=((n15:Nat):Int)) (b:=0) (.tmp rfl rfl) .const) ?_
 refine g_yes (yl (dj:=83) (b:=false) rfl rfl hρ139) ?_
 refine st (v:=.bool (decide ((0:Int) < ((n15:Nat):Int)))) (x_pick_t (.tmp rfl (cVb hc141)) (.tmp rfl rfl)) ?_
 exact jw_end ⟨(cVb (jand_t hc141)),hρ137,hρ138,hρ139,hs140⟩
 have hp141:¬ (((((f.Kind:Nat):Int):Int) ≠ 3)∧((((f.Kind:Nat):Int):Int) ≠ 5)):=J_no (J_and decide_eq_true_iff decide_eq_true_iff) hc141
 refine g_no (yk 90 false rfl rfl hc141) rfl ?_
 refine g_no (yk 90 false rfl rfl hc141) rfl ?_
 refine g_no (yk 90 false rfl rfl hc141) rfl ?_
 refine g_no (yk 90 false rfl rfl hc141) rfl ?_
 refine g_yes (yl (dj:=83) (b:=false) rfl rfl hρ139) ?_
 refine st (v:=.bool false) (x_pick_f (.tmp rfl (cVb hc141)) .const) ?_
 exact jw_end ⟨(cVb (jand_f hc141)),hρ137,hρ138,hρ139,hs140⟩
 rintro ρ w ⟨hρ142,hρ143,hρ144,hρ145,hs146⟩
 refine st (v:=.bool (((decide ((((f.Kind:Nat):Int):Int) ≠ 3)) && (decide ((((f.Kind:Nat):Int):Int) ≠ 5))) && (decide ((0:Int) < ((n15:Nat):Int))))) (x_pick_f (.tmp rfl hρ145) (.tmp rfl hρ142)) ?_
 exact jw_end ⟨(cVb (jor_f hc134)),hρ143,hρ144,hs146⟩
 rintro ρ w ⟨hρ147,hρ148,hρ149,hs150⟩
 refine c_nil (n_then ?_)
 rcases Bool.eq_false_or_eq_true ((((((decide ((((f.Kind:Nat):Int):Int) ≠ 2)) && (decide ((((f.Kind:Nat):Int):Int) ≠ 5))) && (decide ((((f.Set:Nat):Int):Int) ≠ 0))) || ((decide ((((f.Kind:Nat):Int):Int) ≠ 1)) && (!(decide (f.Cur = (GViewID.mk 0 0)))))) || (((decide ((((f.Kind:Nat):Int):Int) ≠ 1)) && (decide ((((f.Kind:Nat):Int):Int) ≠ 4))) && (!(decide (f.Prom = (GViewID.mk 0 0)))))) || (((decide ((((f.Kind:Nat):Int):Int) ≠ 3)) && (decide ((((f.Kind:Nat):Int):Int) ≠ 5))) && (decide ((0:Int) < ((n15:Nat):Int))))) with hc151 | hc151
 have hp151:((((((((f.Kind:Nat):Int):Int) ≠ 2)∧((((f.Kind:Nat):Int):Int) ≠ 5))∧((((f.Set:Nat):Int):Int) ≠ 0)) ∨ (((((f.Kind:Nat):Int):Int) ≠ 1)∧(¬ (f.Cur = (GViewID.mk 0 0))))) ∨ ((((((f.Kind:Nat):Int):Int) ≠ 1)∧((((f.Kind:Nat):Int):Int) ≠ 4))∧(¬ (f.Prom = (GViewID.mk 0 0))))) ∨ ((((((f.Kind:Nat):Int):Int) ≠ 3)∧((((f.Kind:Nat):Int):Int) ≠ 5))∧((0:Int) < ((n15:Nat):Int))):=((J_or (J_or (J_or (J_and (J_and decide_eq_true_iff decide_eq_true_iff) decide_eq_true_iff) (J_and decide_eq_true_iff (J_not decide_eq_true_iff))) (J_and (J_and decide_eq_true_iff decide_eq_true_iff) (J_not decide_eq_true_iff))) (J_and (J_and decide_eq_true_iff decide_eq_true_iff) decide_eq_true_iff))).1 hc151
 refine c_cond_t (t:=true) (.tmp rfl (hρ147.trans (cVb hc151))) rfl ?_
 refine c_seq (c_region (st (v:=.bool false) (x_assign .const) ?_))
 refine c_nil (n_then (c_ret (r_then (leave_ret (res_one (v:=.bool false) rfl (.mk rfl rfl)) ?_))))
 have hans152:(formC f) = false:=form_no2 (by omega) hp58 hp89 hp151
 rw [hans152]
 exact ⟨rfl,hs150.drop.drop⟩
 have hp151:¬ (((((((((f.Kind:Nat):Int):Int) ≠ 2)∧((((f.Kind:Nat):Int):Int) ≠ 5))∧((((f.Set:Nat):Int):Int) ≠ 0)) ∨ (((((f.Kind:Nat):Int):Int) ≠ 1)∧(¬ (f.Cur = (GViewID.mk 0 0))))) ∨ ((((((f.Kind:Nat):Int):Int) ≠ 1)∧((((f.Kind:Nat):Int):Int) ≠ 4))∧(¬ (f.Prom = (GViewID.mk 0 0))))) ∨ ((((((f.Kind:Nat):Int):Int) ≠ 3)∧((((f.Kind:Nat):Int):Int) ≠ 5))∧((0:Int) < ((n15:Nat):Int)))):=J_no (J_or (J_or (J_or (J_and (J_and decide_eq_true_iff decide_eq_true_iff) decide_eq_true_iff) (J_and decide_eq_true_iff (J_not decide_eq_true_iff))) (J_and (J_and decide_eq_true_iff decide_eq_true_iff) (J_not decide_eq_true_iff))) (J_and (J_and decide_eq_true_iff decide_eq_true_iff) decide_eq_true_iff)) hc151
 refine c_cond_f (t:=false) (.tmp rfl (hρ147.trans (cVb hc151))) rfl ?_
 refine c_skip (n_then (c_seq (c_seq (c_region (st (v:=.int .u8 ((f.Kind:Nat):Int)) (x_move (.tmp rfl hρ149)) ?_)))))
 refine st (v:=.bool (decide ((((f.Kind:Nat):Int):Int) ≠ 6))) (x_neq (k:=.u8) (a:=((f.Kind:Nat):Int)) (b:=6) (.tmp rfl rfl) .const) ?_
 refine st (v:=.bool (decide ((((f.Kind:Nat):Int):Int) ≠ 6))) (x_move (.tmp rfl rfl)) ?_
 refine jw 3 (fun ρ w => ρ 102 = .bool ((decide ((((f.Kind:Nat):Int):Int) ≠ 6)) && (decide ((((f.Kind:Nat):Int):Int) ≠ 7)))∧ρ 1 = .pointer (some ⟨g29,0,none⟩)∧ρ 4 = .int .u8 ((f.Kind:Nat):Int)∧St H w (obj g33 24 [.int .u64 0,.int .i64 0]::obj g29 30 [.int .u8 ((f.Kind:Nat):Int),.int .i64 f.From,.int .u64 ((f.ID.N:Nat):Int),.int .i64 f.ID.P,.int .u16 ((f.Set:Nat):Int),.int .u64 ((f.Cur.N:Nat):Int),.int .i64 f.Cur.P,.int .u64 ((f.Prom.N:Nat):Int),.int .i64 f.Prom.P,.slice A14 n15 c16,.int .u64 ((f.Base:Nat):Int),.slice A19 n20 c21,.slice A23 n24 c25,.int .u64 ((f.Ack:Nat):Int),.int .u64 ((f.Safe:Nat):Int)]::L)) ?_ ?_
 rcases Bool.eq_false_or_eq_true (decide ((((f.Kind:Nat):Int):Int) ≠ 6)) with hc153 | hc153
 have hp153:(((f.Kind:Nat):Int):Int) ≠ 6:=of_decide_eq_true hc153
 refine g_yes (yk 99 true rfl rfl hc153) ?_
 refine st (v:=.int .u8 ((f.Kind:Nat):Int)) (x_move (.tmp rfl hρ149)) ?_
 refine g_yes (yk 99 true rfl rfl hc153) ?_
 refine st (v:=.bool (decide ((((f.Kind:Nat):Int):Int) ≠ 7))) (x_neq (k:=.u8) (a:=((f.Kind:Nat):Int)) (b:=7) (.tmp rfl rfl) .const) ?_
 refine st (v:=.bool (decide ((((f.Kind:Nat):Int):Int) ≠ 7))) (x_pick_t (.tmp rfl (cVb hc153)) (.tmp rfl rfl)) ?_
 exact jw_end ⟨(cVb (jand_t hc153)),hρ148,hρ149,hs150⟩
 have hp153:¬ ((((f.Kind:Nat):Int):Int) ≠ 6):=of_decide_eq_false hc153
 refine g_no (yk 99 false rfl rfl hc153) rfl ?_
 refine g_no (yk 99 false rfl rfl hc153) rfl ?_
 refine st (v:=.bool false) (x_pick_f (.tmp rfl (cVb hc153)) .const) ?_
 exact jw_end ⟨(cVb (jand_f hc153)),hρ148,hρ149,hs150⟩
 rintro ρ w ⟨hρ154,hρ155,hρ156,hs157⟩
 refine st (v:=.bool ((decide ((((f.Kind:Nat):Int):Int) ≠ 6)) && (decide ((((f.Kind:Nat):Int):Int) ≠ 7)))) (x_move (.tmp rfl hρ154)) ?_
 refine jw 9 (fun ρ w => ρ 112 = .bool (((decide ((((f.Kind:Nat):Int):Int) ≠ 6)) && (decide ((((f.Kind:Nat):Int):Int) ≠ 7))) && ((decide ((((f.Base:Nat):Int):Int) ≠ 0)) || (decide ((((f.Ack:Nat):Int):Int) ≠ 0))))∧ρ 1 = .pointer (some ⟨g29,0,none⟩)∧ρ 4 = .int .u8 ((f.Kind:Nat):Int)∧St H w (obj g33 24 [.int .u64 0,.int .i64 0]::obj g29 30 [.int .u8 ((f.Kind:Nat):Int),.int .i64 f.From,.int .u64 ((f.ID.N:Nat):Int),.int .i64 f.ID.P,.int .u16 ((f.Set:Nat):Int),.int .u64 ((f.Cur.N:Nat):Int),.int .i64 f.Cur.P,.int .u64 ((f.Prom.N:Nat):Int),.int .i64 f.Prom.P,.slice A14 n15 c16,.int .u64 ((f.Base:Nat):Int),.slice A19 n20 c21,.slice A23 n24 c25,.int .u64 ((f.Ack:Nat):Int),.int .u64 ((f.Safe:Nat):Int)]::L)) ?_ ?_
 rcases Bool.eq_false_or_eq_true ((decide ((((f.Kind:Nat):Int):Int) ≠ 6)) && (decide ((((f.Kind:Nat):Int):Int) ≠ 7))) with hc158 | hc158
 have hp158:((((f.Kind:Nat):Int):Int) ≠ 6)∧((((f.Kind:Nat):Int):Int) ≠ 7):=((J_and decide_eq_true_iff decide_eq_true_iff)).1 hc158
 refine g_yes (yk 103 true rfl rfl hc158) ?_
 refine st (v:=.pointer (some ⟨g29,0 + 10,none⟩)) (fa30_7 (.tmp rfl hρ155)) ?_
 refine g_yes (yk 103 true rfl rfl hc158) ?_
 refine st (v:=.int .u64 ((f.Base:Nat):Int)) (ld22 (.tmp rfl rfl) (hs157.cell 1 rfl (0 + 10) rfl)) ?_
 refine g_yes (yk 103 true rfl rfl hc158) ?_
 refine st (v:=.bool (decide ((((f.Base:Nat):Int):Int) ≠ 0))) (x_neq (k:=.u64) (a:=((f.Base:Nat):Int)) (b:=0) (.tmp rfl rfl) .const) ?_
 refine g_yes (yk 103 true rfl rfl hc158) ?_
 refine st (v:=.bool (decide ((((f.Base:Nat):Int):Int) ≠ 0))) (x_move (.tmp rfl rfl)) ?_
 refine jw 4 (fun ρ w => ρ 111 = .bool ((decide ((((f.Base:Nat):Int):Int) ≠ 0)) || (decide ((((f.Ack:Nat):Int):Int) ≠ 0)))∧ρ 1 = .pointer (some ⟨g29,0,none⟩)∧ρ 4 = .int .u8 ((f.Kind:Nat):Int)∧ρ 103 = .bool true∧St H w (obj g33 24 [.int .u64 0,.int .i64 0]::obj g29 30 [.int .u8 ((f.Kind:Nat):Int),.int .i64 f.From,.int .u64 ((f.ID.N:Nat):Int),.int .i64 f.ID.P,.int .u16 ((f.Set:Nat):Int),.int .u64 ((f.Cur.N:Nat):Int),.int .i64 f.Cur.P,.int .u64 ((f.Prom.N:Nat):Int),.int .i64 f.Prom.P,.slice A14 n15 c16,.int .u64 ((f.Base:Nat):Int),.slice A19 n20 c21,.slice A23 n24 c25,.int .u64 ((f.Ack:Nat):Int),.int .u64 ((f.Safe:Nat):Int)]::L)) ?_ ?_
 rcases Bool.eq_false_or_eq_true (decide ((((f.Base:Nat):Int):Int) ≠ 0)) with hc159 | hc159
 have hp159:(((f.Base:Nat):Int):Int) ≠ 0:=of_decide_eq_true hc159
 refine g_no (yk 107 true rfl rfl hc159) rfl ?_
 refine g_no (yk 107 true rfl rfl hc159) rfl ?_
 refine g_no (yk 107 true rfl rfl hc159) rfl ?_
 refine g_yes (yk 103 true rfl rfl hc158) ?_
 refine st (v:=.bool true) (x_pick_t (.tmp rfl (cVb hc159)) .const) ?_
 exact jw_end ⟨(cVb (jor_t hc159)),hρ155,hρ156,(cVb hc158),hs157⟩
 have hp159:¬ ((((f.Base:Nat):Int):Int) ≠ 0):=of_decide_eq_false hc159
 refine g_yes (yk 107 false rfl rfl hc159) ?_
 refine st (v:=.pointer (some ⟨g29,0 + 13,none⟩)) (fa30_10 (.tmp rfl hρ155)) ?_
 refine g_yes (yk 107 false rfl rfl hc159) ?_
 refine st (v:=.int .u64 ((f.Ack:Nat):Int)) (ld22 (.tmp rfl rfl) (hs157.cell 1 rfl (0 + 13) rfl)) ?_
 refine g_yes (yk 107 false rfl rfl hc159) ?_
 refine st (v:=.bool (decide ((((f.Ack:Nat):Int):Int) ≠ 0))) (x_neq (k:=.u64) (a:=((f.Ack:Nat):Int)) (b:=0) (.tmp rfl rfl) .const) ?_
 refine g_yes (yk 103 true rfl rfl hc158) ?_
 refine st (v:=.bool (decide ((((f.Ack:Nat):Int):Int) ≠ 0))) (x_pick_f (.tmp rfl (cVb hc159)) (.tmp rfl rfl)) ?_
 exact jw_end ⟨(cVb (jor_f hc159)),hρ155,hρ156,(cVb hc158),hs157⟩
 rintro ρ w ⟨hρ160,hρ161,hρ162,hρ163,hs164⟩
 refine st (v:=.bool ((decide ((((f.Base:Nat):Int):Int) ≠ 0)) || (decide ((((f.Ack:Nat):Int):Int) ≠ 0)))) (x_pick_t (.tmp rfl hρ163) (.tmp rfl hρ160)) ?_
 exact jw_end ⟨(cVb (jand_t hc158)),hρ161,hρ162,hs164⟩
 have hp158:¬ (((((f.Kind:Nat):Int):Int) ≠ 6)∧((((f.Kind:Nat):Int):Int) ≠ 7)):=J_no (J_and decide_eq_true_iff decide_eq_true_iff) hc158
 refine g_no (yk 103 false rfl rfl hc158) rfl ?_
 refine g_no (yk 103 false rfl rfl hc158) rfl ?_
 refine g_no (yk 103 false rfl rfl hc158) rfl ?_
 refine g_no (yk 103 false rfl rfl hc158) rfl ?_
 refine g_no0 (yn (dj:=107) rfl rfl) ?_
 refine g_no0 (yn (dj:=107) rfl rfl) ?_
 refine g_no0 (yn (dj:=107) rfl rfl) ?_
 refine g_no (yk 103 false rfl rfl hc158) rfl ?_
 refine st (v:=.bool false) (x_pick_f (.tmp rfl (cVb hc158)) .const) ?_
 exact jw_end ⟨(cVb (jand_f hc158)),hρ155,hρ156,hs157⟩
 rintro ρ w ⟨hρ165,hρ166,hρ167,hs168⟩
 refine st (v:=.bool (((decide ((((f.Kind:Nat):Int):Int) ≠ 6)) && (decide ((((f.Kind:Nat):Int):Int) ≠ 7))) && ((decide ((((f.Base:Nat):Int):Int) ≠ 0)) || (decide ((((f.Ack:Nat):Int):Int) ≠ 0))))) (x_move (.tmp rfl hρ165)) ?_
 refine jw 9 (fun ρ w => ρ 122 = .bool ((((decide ((((f.Kind:Nat):Int):Int) ≠ 6)) && (decide ((((f.Kind:Nat):Int):Int) ≠ 7))) && ((decide ((((f.Base:Nat):Int):Int) ≠ 0)) || (decide ((((f.Ack:Nat):Int):Int) ≠ 0)))) || ((decide ((((f.Kind:Nat):Int):Int) ≠ 6)) && (decide ((0:Int) < ((n20:Nat):Int)))))∧ρ 1 = .pointer (some ⟨g29,0,none⟩)∧ρ 4 = .int .u8 ((f.Kind:Nat):Int)∧St H w (obj g33 24 [.int .u64 0,.int .i64 0]::obj g29 30 [.int .u8 ((f.Kind:Nat):Int),.int .i64 f.From,.int .u64 ((f.ID.N:Nat):Int),.int .i64 f.ID.P,.int .u16 ((f.Set:Nat):Int),.int .u64 ((f.Cur.N:Nat):Int),.int .i64 f.Cur.P,.int .u64 ((f.Prom.N:Nat):Int),.int .i64 f.Prom.P,.slice A14 n15 c16,.int .u64 ((f.Base:Nat):Int),.slice A19 n20 c21,.slice A23 n24 c25,.int .u64 ((f.Ack:Nat):Int),.int .u64 ((f.Safe:Nat):Int)]::L)) ?_ ?_
 rcases Bool.eq_false_or_eq_true (((decide ((((f.Kind:Nat):Int):Int) ≠ 6)) && (decide ((((f.Kind:Nat):Int):Int) ≠ 7))) && ((decide ((((f.Base:Nat):Int):Int) ≠ 0)) || (decide ((((f.Ack:Nat):Int):Int) ≠ 0)))) with hc169 | hc169
 have hp169:(((((f.Kind:Nat):Int):Int) ≠ 6)∧((((f.Kind:Nat):Int):Int) ≠ 7))∧(((((f.Base:Nat):Int):Int) ≠ 0) ∨ ((((f.Ack:Nat):Int):Int) ≠ 0)):=((J_and (J_and decide_eq_true_iff decide_eq_true_iff) (J_or decide_eq_true_iff decide_eq_true_iff))).1 hc169
 refine g_no (yk 113 true rfl rfl hc169) rfl ?_
 refine g_no (yk 113 true rfl rfl hc169) rfl ?_
 refine g_no (yk 113 true rfl rfl hc169) rfl ?_
 refine g_no0 (yn (dj:=116) rfl rfl) ?_
 refine g_no0 (yn (dj:=116) rfl rfl) ?_
 refine g_no0 (yn (dj:=116) rfl rfl) ?_
 refine g_no0 (yn (dj:=116) rfl rfl) ?_
 refine g_no (yk 113 true rfl rfl hc169) rfl ?_
 refine st (v:=.bool true) (x_pick_t (.tmp rfl (cVb hc169)) .const) ?_
 exact jw_end ⟨(cVb (jor_t hc169)),hρ166,hρ167,hs168⟩
 have hp169:¬ ((((((f.Kind:Nat):Int):Int) ≠ 6)∧((((f.Kind:Nat):Int):Int) ≠ 7))∧(((((f.Base:Nat):Int):Int) ≠ 0) ∨ ((((f.Ack:Nat):Int):Int) ≠ 0))):=J_no (J_and (J_and decide_eq_true_iff decide_eq_true_iff) (J_or decide_eq_true_iff decide_eq_true_iff)) hc169
 refine g_yes (yk 113 false rfl rfl hc169) ?_
 refine st (v:=.int .u8 ((f.Kind:Nat):Int)) (x_move (.tmp rfl hρ167)) ?_
 refine g_yes (yk 113 false rfl rfl hc169) ?_
 refine st (v:=.bool (decide ((((f.Kind:Nat):Int):Int) ≠ 6))) (x_neq (k:=.u8) (a:=((f.Kind:Nat):Int)) (b:=6) (.tmp rfl rfl) .const) ?_
 refine g_yes (yk 113 false rfl rfl hc169) ?_
 refine st (v:=.bool (decide ((((f.Kind:Nat):Int):Int) ≠ 6))) (x_move (.tmp rfl rfl)) ?_
 refine jw 5 (fun ρ w => ρ 121 = .bool ((decide ((((f.Kind:Nat):Int):Int) ≠ 6)) && (decide ((0:Int) < ((n20:Nat):Int))))∧ρ 1 = .pointer (some ⟨g29,0,none⟩)∧ρ 4 = .int .u8 ((f.Kind:Nat):Int)∧ρ 113 = .bool false∧St H w (obj g33 24 [.int .u64 0,.int .i64 0]::obj g29 30 [.int .u8 ((f.Kind:Nat):Int),.int .i64 f.From,.int .u64 ((f.ID.N:Nat):Int),.int .i64 f.ID.P,.int .u16 ((f.Set:Nat):Int),.int .u64 ((f.Cur.N:Nat):Int),.int .i64 f.Cur.P,.int .u64 ((f.Prom.N:Nat):Int),.int .i64 f.Prom.P,.slice A14 n15 c16,.int .u64 ((f.Base:Nat):Int),.slice A19 n20 c21,.slice A23 n24 c25,.int .u64 ((f.Ack:Nat):Int),.int .u64 ((f.Safe:Nat):Int)]::L)) ?_ ?_
 rcases Bool.eq_false_or_eq_true (decide ((((f.Kind:Nat):Int):Int) ≠ 6)) with hc170 | hc170
 have hp170:(((f.Kind:Nat):Int):Int) ≠ 6:=of_decide_eq_true hc170
 refine g_yes (yk 116 true rfl rfl hc170) ?_
 refine st (v:=.pointer (some ⟨g29,0 + 11,none⟩)) (fa30_8 (.tmp rfl hρ166)) ?_
 refine g_yes (yk 116 true rfl rfl hc170) ?_
 refine st (v:=.slice A19 n20 c21) (ld27 (.tmp rfl rfl) (hs168.cell 1 rfl (0 + 11) rfl)) ?_
 refine g_yes (yk 116 true rfl rfl hc170) ?_
 refine st (v:=.int .i64 ((n20:Nat):Int)) (x_len (n:=n20) Try.underlying27 (.tmp rfl rfl)) ?_
 refine g_yes (yk 116 true rfl rfl hc170) ?_
 refine st (v:=.bool (decide ((0:Int) < ((n20:Nat):Int)))) (x_gtr (k:=.i64) (a:=((n20:Nat):Int)) (b:=0) (.tmp rfl rfl) .const) ?_
 refine g_yes (yk 113 false rfl rfl hc169) ?_
 refine st (v:=.bool (decide ((0:Int) < ((n20:Nat):Int)))) (x_pick_t (.tmp rfl (cVb hc170)) (.tmp rfl rfl)) ?_
 exact jw_end ⟨(cVb (jand_t hc170)),hρ166,hρ167,(cVb hc169),hs168⟩
 have hp170:¬ ((((f.Kind:Nat):Int):Int) ≠ 6):=of_decide_eq_false hc170
 refine g_no (yk 116 false rfl rfl hc170) rfl ?_
 refine g_no (yk 116 false rfl rfl hc170) rfl ?_
 refine g_no (yk 116 false rfl rfl hc170) rfl ?_
 refine g_no (yk 116 false rfl rfl hc170) rfl ?_
 refine g_yes (yk 113 false rfl rfl hc169) ?_
 refine st (v:=.bool false) (x_pick_f (.tmp rfl (cVb hc170)) .const) ?_
 exact jw_end ⟨(cVb (jand_f hc170)),hρ166,hρ167,(cVb hc169),hs168⟩
 rintro ρ w ⟨hρ171,hρ172,hρ173,hρ174,hs175⟩
 refine st (v:=.bool ((decide ((((f.Kind:Nat):Int):Int) ≠ 6)) && (decide ((0:Int) < ((n20:Nat):Int))))) (x_pick_f (.tmp rfl hρ174) (.tmp rfl hρ171)) ?_
 exact jw_end ⟨(cVb (jor_f hc169)),hρ172,hρ173,hs175⟩
 rintro ρ w ⟨hρ176,hρ177,hρ178,hs179⟩
 refine st (v:=.bool ((((decide ((((f.Kind:Nat):Int):Int) ≠ 6)) && (decide ((((f.Kind:Nat):Int):Int) ≠ 7))) && ((decide ((((f.Base:Nat):Int):Int) ≠ 0)) || (decide ((((f.Ack:Nat):Int):Int) ≠ 0)))) || ((decide ((((f.Kind:Nat):Int):Int) ≠ 6)) && (decide ((0:Int) < ((n20:Nat):Int)))))) (x_move (.tmp rfl hρ176)) ?_
 refine jw 14 (fun ρ w => ρ 137 = .bool (((((decide ((((f.Kind:Nat):Int):Int) ≠ 6)) && (decide ((((f.Kind:Nat):Int):Int) ≠ 7))) && ((decide ((((f.Base:Nat):Int):Int) ≠ 0)) || (decide ((((f.Ack:Nat):Int):Int) ≠ 0)))) || ((decide ((((f.Kind:Nat):Int):Int) ≠ 6)) && (decide ((0:Int) < ((n20:Nat):Int))))) || ((decide ((((f.Kind:Nat):Int):Int) ≠ 7)) && ((decide ((0:Int) < ((n24:Nat):Int))) || (decide ((((f.Safe:Nat):Int):Int) ≠ 0)))))∧ρ 1 = .pointer (some ⟨g29,0,none⟩)∧ρ 4 = .int .u8 ((f.Kind:Nat):Int)∧St H w (obj g33 24 [.int .u64 0,.int .i64 0]::obj g29 30 [.int .u8 ((f.Kind:Nat):Int),.int .i64 f.From,.int .u64 ((f.ID.N:Nat):Int),.int .i64 f.ID.P,.int .u16 ((f.Set:Nat):Int),.int .u64 ((f.Cur.N:Nat):Int),.int .i64 f.Cur.P,.int .u64 ((f.Prom.N:Nat):Int),.int .i64 f.Prom.P,.slice A14 n15 c16,.int .u64 ((f.Base:Nat):Int),.slice A19 n20 c21,.slice A23 n24 c25,.int .u64 ((f.Ack:Nat):Int),.int .u64 ((f.Safe:Nat):Int)]::L)) ?_ ?_
 rcases Bool.eq_false_or_eq_true ((((decide ((((f.Kind:Nat):Int):Int) ≠ 6)) && (decide ((((f.Kind:Nat):Int):Int) ≠ 7))) && ((decide ((((f.Base:Nat):Int):Int) ≠ 0)) || (decide ((((f.Ack:Nat):Int):Int) ≠ 0)))) || ((decide ((((f.Kind:Nat):Int):Int) ≠ 6)) && (decide ((0:Int) < ((n20:Nat):Int))))) with hc180 | hc180
 have hp180:((((((f.Kind:Nat):Int):Int) ≠ 6)∧((((f.Kind:Nat):Int):Int) ≠ 7))∧(((((f.Base:Nat):Int):Int) ≠ 0) ∨ ((((f.Ack:Nat):Int):Int) ≠ 0))) ∨ (((((f.Kind:Nat):Int):Int) ≠ 6)∧((0:Int) < ((n20:Nat):Int))):=((J_or (J_and (J_and decide_eq_true_iff decide_eq_true_iff) (J_or decide_eq_true_iff decide_eq_true_iff)) (J_and decide_eq_true_iff decide_eq_true_iff))).1 hc180
 refine g_no (yk 123 true rfl rfl hc180) rfl ?_
 refine g_no (yk 123 true rfl rfl hc180) rfl ?_
 refine g_no (yk 123 true rfl rfl hc180) rfl ?_
 refine g_no0 (yn (dj:=126) rfl rfl) ?_
 refine g_no0 (yn (dj:=126) rfl rfl) ?_
 refine g_no0 (yn (dj:=126) rfl rfl) ?_
 refine g_no0 (yn (dj:=126) rfl rfl) ?_
 refine g_no0 (yn (dj:=126) rfl rfl) ?_
 refine g_no0 (yn (dj:=131) rfl rfl) ?_
 refine g_no0 (yn (dj:=131) rfl rfl) ?_
 refine g_no0 (yn (dj:=131) rfl rfl) ?_
 refine g_no0 (yn (dj:=126) rfl rfl) ?_
 refine g_no (yk 123 true rfl rfl hc180) rfl ?_
 refine st (v:=.bool true) (x_pick_t (.tmp rfl (cVb hc180)) .const) ?_
 exact jw_end ⟨(cVb (jor_t hc180)),hρ177,hρ178,hs179⟩
 have hp180:¬ (((((((f.Kind:Nat):Int):Int) ≠ 6)∧((((f.Kind:Nat):Int):Int) ≠ 7))∧(((((f.Base:Nat):Int):Int) ≠ 0) ∨ ((((f.Ack:Nat):Int):Int) ≠ 0))) ∨ (((((f.Kind:Nat):Int):Int) ≠ 6)∧((0:Int) < ((n20:Nat):Int)))):=J_no (J_or (J_and (J_and decide_eq_true_iff decide_eq_true_iff) (J_or decide_eq_true_iff decide_eq_true_iff)) (J_and decide_eq_true_iff decide_eq_true_iff)) hc180
 refine g_yes (yk 123 false rfl rfl hc180) ?_
 refine st (v:=.int .u8 ((f.Kind:Nat):Int)) (x_move (.tmp rfl hρ178)) ?_
 refine g_yes (yk 123 false rfl rfl hc180) ?_
 refine st (v:=.bool (decide ((((f.Kind:Nat):Int):Int) ≠ 7))) (x_neq (k:=.u8) (a:=((f.Kind:Nat):Int)) (b:=7) (.tmp rfl rfl) .const) ?_
 refine g_yes (yk 123 false rfl rfl hc180) ?_
 refine st (v:=.bool (decide ((((f.Kind:Nat):Int):Int) ≠ 7))) (x_move (.tmp rfl rfl)) ?_
 refine jw 10 (fun ρ w => ρ 136 = .bool ((decide ((((f.Kind:Nat):Int):Int) ≠ 7)) && ((decide ((0:Int) < ((n24:Nat):Int))) || (decide ((((f.Safe:Nat):Int):Int) ≠ 0))))∧ρ 1 = .pointer (some ⟨g29,0,none⟩)∧ρ 4 = .int .u8 ((f.Kind:Nat):Int)∧ρ 123 = .bool false∧St H w (obj g33 24 [.int .u64 0,.int .i64 0]::obj g29 30 [.int .u8 ((f.Kind:Nat):Int),.int .i64 f.From,.int .u64 ((f.ID.N:Nat):Int),.int .i64 f.ID.P,.int .u16 ((f.Set:Nat):Int),.int .u64 ((f.Cur.N:Nat):Int),.int .i64 f.Cur.P,.int .u64 ((f.Prom.N:Nat):Int),.int .i64 f.Prom.P,.slice A14 n15 c16,.int .u64 ((f.Base:Nat):Int),.slice A19 n20 c21,.slice A23 n24 c25,.int .u64 ((f.Ack:Nat):Int),.int .u64 ((f.Safe:Nat):Int)]::L)) ?_ ?_
 rcases Bool.eq_false_or_eq_true (decide ((((f.Kind:Nat):Int):Int) ≠ 7)) with hc181 | hc181
 have hp181:(((f.Kind:Nat):Int):Int) ≠ 7:=of_decide_eq_true hc181
 refine g_yes (yk 126 true rfl rfl hc181) ?_
 refine st (v:=.pointer (some ⟨g29,0 + 12,none⟩)) (fa30_9 (.tmp rfl hρ177)) ?_
 refine g_yes (yk 126 true rfl rfl hc181) ?_
 refine st (v:=.slice A23 n24 c25) (ld28 (.tmp rfl rfl) (hs179.cell 1 rfl (0 + 12) rfl)) ?_
 refine g_yes (yk 126 true rfl rfl hc181) ?_
 refine st (v:=.int .i64 ((n24:Nat):Int)) (x_len (n:=n24) Try.underlying28 (.tmp rfl rfl)) ?_
 refine g_yes (yk 126 true rfl rfl hc181) ?_
 refine st (v:=.bool (decide ((0:Int) < ((n24:Nat):Int)))) (x_gtr (k:=.i64) (a:=((n24:Nat):Int)) (b:=0) (.tmp rfl rfl) .const) ?_
 refine g_yes (yk 126 true rfl rfl hc181) ?_
 refine st (v:=.bool (decide ((0:Int) < ((n24:Nat):Int)))) (x_move (.tmp rfl rfl)) ?_
 refine jw 4 (fun ρ w => ρ 135 = .bool ((decide ((0:Int) < ((n24:Nat):Int))) || (decide ((((f.Safe:Nat):Int):Int) ≠ 0)))∧ρ 1 = .pointer (some ⟨g29,0,none⟩)∧ρ 4 = .int .u8 ((f.Kind:Nat):Int)∧ρ 123 = .bool false∧ρ 126 = .bool true∧St H w (obj g33 24 [.int .u64 0,.int .i64 0]::obj g29 30 [.int .u8 ((f.Kind:Nat):Int),.int .i64 f.From,.int .u64 ((f.ID.N:Nat):Int),.int .i64 f.ID.P,.int .u16 ((f.Set:Nat):Int),.int .u64 ((f.Cur.N:Nat):Int),.int .i64 f.Cur.P,.int .u64 ((f.Prom.N:Nat):Int),.int .i64 f.Prom.P,.slice A14 n15 c16,.int .u64 ((f.Base:Nat):Int),.slice A19 n20 c21,.slice A23 n24 c25,.int .u64 ((f.Ack:Nat):Int),.int .u64 ((f.Safe:Nat):Int)]::L)) ?_ ?_
 rcases Bool.eq_false_or_eq_true (decide ((0:Int) < ((n24:Nat):Int))) with hc182 | hc182
 have hp182:(0:Int) < ((n24:Nat):Int):=of_decide_eq_true hc182
 refine g_no (yk 131 true rfl rfl hc182) rfl ?_
 refine g_no (yk 131 true rfl rfl hc182) rfl ?_
 refine g_no (yk 131 true rfl rfl hc182) rfl ?_
 refine g_yes (yk 126 true rfl rfl hc181) ?_
 refine st (v:=.bool true) (x_pick_t (.tmp rfl (cVb hc182)) .const) ?_
 exact jw_end ⟨(cVb (jor_t hc182)),hρ177,hρ178,(cVb hc180),(cVb hc181),hs179⟩
 have hp182:¬ ((0:Int) < ((n24:Nat):Int)):=of_decide_eq_false hc182
 refine g_yes (yk 131 false rfl rfl hc182) ?_
 refine st (v:=.pointer (some ⟨g29,0 + 14,none⟩)) (fa30_11 (.tmp rfl hρ177)) ?_
 refine g_yes (yk 131 false rfl rfl hc182) ?_
 refine st (v:=.int .u64 ((f.Safe:Nat):Int)) (ld22 (.tmp rfl rfl) (hs179.cell 1 rfl (0 + 14) rfl)) ?_
 refine g_yes (yk 131 false rfl rfl hc182) ?_
 refine st (v:=.bool (decide ((((f.Safe:Nat):Int):Int) ≠ 0))) (x_neq (k:=.u64) (a:=((f.Safe:Nat):Int)) (b:=0) (.tmp rfl rfl) .const) ?_
 refine g_yes (yk 126 true rfl rfl hc181) ?_
 refine st (v:=.bool (decide ((((f.Safe:Nat):Int):Int) ≠ 0))) (x_pick_f (.tmp rfl (cVb hc182)) (.tmp rfl rfl)) ?_
 exact jw_end ⟨(cVb (jor_f hc182)),hρ177,hρ178,(cVb hc180),(cVb hc181),hs179⟩
 rintro ρ w ⟨hρ183,hρ184,hρ185,hρ186,hρ187,hs188⟩
 refine g_yes (yl (dj:=123) (b:=false) rfl rfl hρ186) ?_
 refine st (v:=.bool ((decide ((0:Int) < ((n24:Nat):Int))) || (decide ((((f.Safe:Nat):Int):Int) ≠ 0)))) (x_pick_t (.tmp rfl hρ187) (.tmp rfl hρ183)) ?_
 exact jw_end ⟨(cVb (jand_t hc181)),hρ184,hρ185,hρ186,hs188⟩
 have hp181:¬ ((((f.Kind:Nat):Int):Int) ≠ 7):=of_decide_eq_false hc181
 refine g_no (yk 126 false rfl rfl hc181) rfl ?_
 refine g_no (yk 126 false rfl rfl hc181) rfl ?_
 refine g_no (yk 126 false rfl rfl hc181) rfl ?_
 refine g_no (yk 126 false rfl rfl hc181) rfl ?_
 refine g_no (yk 126 false rfl rfl hc181) rfl ?_
 refine g_no0 (yn (dj:=131) rfl rfl) ?_
 refine g_no0 (yn (dj:=131) rfl rfl) ?_
 refine g_no0 (yn (dj:=131) rfl rfl) ?_
 refine g_no (yk 126 false rfl rfl hc181) rfl ?_
 refine g_yes (yk 123 false rfl rfl hc180) ?_
 refine st (v:=.bool false) (x_pick_f (.tmp rfl (cVb hc181)) .const) ?_
 exact jw_end ⟨(cVb (jand_f hc181)),hρ177,hρ178,(cVb hc180),hs179⟩
 rintro ρ w ⟨hρ189,hρ190,hρ191,hρ192,hs193⟩
 refine st (v:=.bool ((decide ((((f.Kind:Nat):Int):Int) ≠ 7)) && ((decide ((0:Int) < ((n24:Nat):Int))) || (decide ((((f.Safe:Nat):Int):Int) ≠ 0))))) (x_pick_f (.tmp rfl hρ192) (.tmp rfl hρ189)) ?_
 exact jw_end ⟨(cVb (jor_f hc180)),hρ190,hρ191,hs193⟩
 rintro ρ w ⟨hρ194,hρ195,hρ196,hs197⟩
 refine c_nil (n_then ?_)
 rcases Bool.eq_false_or_eq_true (((((decide ((((f.Kind:Nat):Int):Int) ≠ 6)) && (decide ((((f.Kind:Nat):Int):Int) ≠ 7))) && ((decide ((((f.Base:Nat):Int):Int) ≠ 0)) || (decide ((((f.Ack:Nat):Int):Int) ≠ 0)))) || ((decide ((((f.Kind:Nat):Int):Int) ≠ 6)) && (decide ((0:Int) < ((n20:Nat):Int))))) || ((decide ((((f.Kind:Nat):Int):Int) ≠ 7)) && ((decide ((0:Int) < ((n24:Nat):Int))) || (decide ((((f.Safe:Nat):Int):Int) ≠ 0))))) with hc198 | hc198
 have hp198:(((((((f.Kind:Nat):Int):Int) ≠ 6)∧((((f.Kind:Nat):Int):Int) ≠ 7))∧(((((f.Base:Nat):Int):Int) ≠ 0) ∨ ((((f.Ack:Nat):Int):Int) ≠ 0))) ∨ (((((f.Kind:Nat):Int):Int) ≠ 6)∧((0:Int) < ((n20:Nat):Int)))) ∨ (((((f.Kind:Nat):Int):Int) ≠ 7)∧(((0:Int) < ((n24:Nat):Int)) ∨ ((((f.Safe:Nat):Int):Int) ≠ 0))):=((J_or (J_or (J_and (J_and decide_eq_true_iff decide_eq_true_iff) (J_or decide_eq_true_iff decide_eq_true_iff)) (J_and decide_eq_true_iff decide_eq_true_iff)) (J_and decide_eq_true_iff (J_or decide_eq_true_iff decide_eq_true_iff)))).1 hc198
 refine c_cond_t (t:=true) (.tmp rfl (hρ194.trans (cVb hc198))) rfl ?_
 refine c_seq (c_region (st (v:=.bool false) (x_assign .const) ?_))
 refine c_nil (n_then (c_ret (r_then (leave_ret (res_one (v:=.bool false) rfl (.mk rfl rfl)) ?_))))
 have hans199:(formC f) = false:=form_no3 (by omega) (by omega) (by omega) hp58 hp89 hp151 hp198
 rw [hans199]
 exact ⟨rfl,hs197.drop.drop⟩
 have hp198:¬ ((((((((f.Kind:Nat):Int):Int) ≠ 6)∧((((f.Kind:Nat):Int):Int) ≠ 7))∧(((((f.Base:Nat):Int):Int) ≠ 0) ∨ ((((f.Ack:Nat):Int):Int) ≠ 0))) ∨ (((((f.Kind:Nat):Int):Int) ≠ 6)∧((0:Int) < ((n20:Nat):Int)))) ∨ (((((f.Kind:Nat):Int):Int) ≠ 7)∧(((0:Int) < ((n24:Nat):Int)) ∨ ((((f.Safe:Nat):Int):Int) ≠ 0)))):=J_no (J_or (J_or (J_and (J_and decide_eq_true_iff decide_eq_true_iff) (J_or decide_eq_true_iff decide_eq_true_iff)) (J_and decide_eq_true_iff decide_eq_true_iff)) (J_and decide_eq_true_iff (J_or decide_eq_true_iff decide_eq_true_iff))) hc198
 refine c_cond_f (t:=false) (.tmp rfl (hρ194.trans (cVb hc198))) rfl ?_
 refine c_skip (n_then (c_seq (c_region (st (v:=.pointer (some ⟨g29,0 + 5,none⟩)) (fa30_4 (.tmp rfl hρ195)) ?_))))
 refine st (v:=.agg #[.int .u64 ((f.Cur.N:Nat):Int),.int .i64 f.Cur.P]) (ld24 (cs:=[.int .u64 ((f.Cur.N:Nat):Int),.int .i64 f.Cur.P]) (.tmp rfl rfl) (hs197.at_ 1 rfl (0 + 5) rfl) rfl) ?_
 refine st_c cb19 .func (evs1 (.tmp rfl rfl)) (rform_spec hs197 f.Cur.N f.Cur.P) ?_
 rintro e w200 ⟨rfl,hs201⟩
 refine ⟨_,rfl,?_⟩
 refine st (v:=.bool (formV f.Cur.N f.Cur.P)) (x_move (.tmp rfl rfl)) ?_
 refine jw 4 (fun ρ w => ρ 145 = .bool ((formV f.Cur.N f.Cur.P) && (formV f.Prom.N f.Prom.P))∧ρ 1 = .pointer (some ⟨g29,0,none⟩)∧ρ 4 = .int .u8 ((f.Kind:Nat):Int)∧St H w (obj g33 24 [.int .u64 0,.int .i64 0]::obj g29 30 [.int .u8 ((f.Kind:Nat):Int),.int .i64 f.From,.int .u64 ((f.ID.N:Nat):Int),.int .i64 f.ID.P,.int .u16 ((f.Set:Nat):Int),.int .u64 ((f.Cur.N:Nat):Int),.int .i64 f.Cur.P,.int .u64 ((f.Prom.N:Nat):Int),.int .i64 f.Prom.P,.slice A14 n15 c16,.int .u64 ((f.Base:Nat):Int),.slice A19 n20 c21,.slice A23 n24 c25,.int .u64 ((f.Ack:Nat):Int),.int .u64 ((f.Safe:Nat):Int)]::L)) ?_ ?_
 rcases Bool.eq_false_or_eq_true (formV f.Cur.N f.Cur.P) with hc202 | hc202
 refine g_yes (yk 141 true rfl rfl hc202) ?_
 refine st (v:=.pointer (some ⟨g29,0 + 7,none⟩)) (fa30_5 (.tmp rfl hρ195)) ?_
 refine g_yes (yk 141 true rfl rfl hc202) ?_
 refine st (v:=.agg #[.int .u64 ((f.Prom.N:Nat):Int),.int .i64 f.Prom.P]) (ld24 (cs:=[.int .u64 ((f.Prom.N:Nat):Int),.int .i64 f.Prom.P]) (.tmp rfl rfl) (hs201.at_ 1 rfl (0 + 7) rfl) rfl) ?_
 refine g_yes (yk 141 true rfl rfl hc202) ?_
 refine st_c cb19 .func (evs1 (.tmp rfl rfl)) (rform_spec hs201 f.Prom.N f.Prom.P) ?_
 rintro e w203 ⟨rfl,hs204⟩
 refine ⟨_,rfl,?_⟩
 refine st (v:=.bool (formV f.Prom.N f.Prom.P)) (x_pick_t (.tmp rfl (cVb hc202)) (.tmp rfl rfl)) ?_
 exact jw_end ⟨(cVb (jand_t hc202)),hρ195,hρ196,hs204⟩
 refine g_no (yk 141 false rfl rfl hc202) rfl ?_
 refine g_no (yk 141 false rfl rfl hc202) rfl ?_
 refine g_no (yk 141 false rfl rfl hc202) rfl ?_
 refine st (v:=.bool false) (x_pick_f (.tmp rfl (cVb hc202)) .const) ?_
 exact jw_end ⟨(cVb (jand_f hc202)),hρ195,hρ196,hs201⟩
 rintro ρ w ⟨hρ205,hρ206,hρ207,hs208⟩
 refine st (v:=.bool ((formV f.Cur.N f.Cur.P) && (formV f.Prom.N f.Prom.P))) (x_move (.tmp rfl hρ205)) ?_
 refine jw 9 (fun ρ w => ρ 155 = .bool (((formV f.Cur.N f.Cur.P) && (formV f.Prom.N f.Prom.P)) && ((decide ((((f.Kind:Nat):Int):Int) ≠ 3)) || (decide ((((n15:Nat):Int):Int) = 1))))∧ρ 1 = .pointer (some ⟨g29,0,none⟩)∧St H w (obj g33 24 [.int .u64 0,.int .i64 0]::obj g29 30 [.int .u8 ((f.Kind:Nat):Int),.int .i64 f.From,.int .u64 ((f.ID.N:Nat):Int),.int .i64 f.ID.P,.int .u16 ((f.Set:Nat):Int),.int .u64 ((f.Cur.N:Nat):Int),.int .i64 f.Cur.P,.int .u64 ((f.Prom.N:Nat):Int),.int .i64 f.Prom.P,.slice A14 n15 c16,.int .u64 ((f.Base:Nat):Int),.slice A19 n20 c21,.slice A23 n24 c25,.int .u64 ((f.Ack:Nat):Int),.int .u64 ((f.Safe:Nat):Int)]::L)) ?_ ?_
 rcases Bool.eq_false_or_eq_true ((formV f.Cur.N f.Cur.P) && (formV f.Prom.N f.Prom.P)) with hc209 | hc209
 have hp209:((formV f.Cur.N f.Cur.P) = true)∧((formV f.Prom.N f.Prom.P) = true):=((J_and Iff.rfl Iff.rfl)).1 hc209
 refine g_yes (yk 146 true rfl rfl hc209) ?_
 refine st (v:=.int .u8 ((f.Kind:Nat):Int)) (x_move (.tmp rfl hρ207)) ?_
 refine g_yes (yk 146 true rfl rfl hc209) ?_
 refine st (v:=.bool (decide ((((f.Kind:Nat):Int):Int) ≠ 3))) (x_neq (k:=.u8) (a:=((f.Kind:Nat):Int)) (b:=3) (.tmp rfl rfl) .const) ?_
 refine g_yes (yk 146 true rfl rfl hc209) ?_
 refine st (v:=.bool (decide ((((f.Kind:Nat):Int):Int) ≠ 3))) (x_move (.tmp rfl rfl)) ?_
 refine jw 5 (fun ρ w => ρ 154 = .bool ((decide ((((f.Kind:Nat):Int):Int) ≠ 3)) || (decide ((((n15:Nat):Int):Int) = 1)))∧ρ 1 = .pointer (some ⟨g29,0,none⟩)∧ρ 146 = .bool true∧St H w (obj g33 24 [.int .u64 0,.int .i64 0]::obj g29 30 [.int .u8 ((f.Kind:Nat):Int),.int .i64 f.From,.int .u64 ((f.ID.N:Nat):Int),.int .i64 f.ID.P,.int .u16 ((f.Set:Nat):Int),.int .u64 ((f.Cur.N:Nat):Int),.int .i64 f.Cur.P,.int .u64 ((f.Prom.N:Nat):Int),.int .i64 f.Prom.P,.slice A14 n15 c16,.int .u64 ((f.Base:Nat):Int),.slice A19 n20 c21,.slice A23 n24 c25,.int .u64 ((f.Ack:Nat):Int),.int .u64 ((f.Safe:Nat):Int)]::L)) ?_ ?_
 rcases Bool.eq_false_or_eq_true (decide ((((f.Kind:Nat):Int):Int) ≠ 3)) with hc210 | hc210
 have hp210:(((f.Kind:Nat):Int):Int) ≠ 3:=of_decide_eq_true hc210
 refine g_no (yk 149 true rfl rfl hc210) rfl ?_
 refine g_no (yk 149 true rfl rfl hc210) rfl ?_
 refine g_no (yk 149 true rfl rfl hc210) rfl ?_
 refine g_no (yk 149 true rfl rfl hc210) rfl ?_
 refine g_yes (yk 146 true rfl rfl hc209) ?_
 refine st (v:=.bool true) (x_pick_t (.tmp rfl (cVb hc210)) .const) ?_
 exact jw_end ⟨(cVb (jor_t hc210)),hρ206,(cVb hc209),hs208⟩
 have hp210:¬ ((((f.Kind:Nat):Int):Int) ≠ 3):=of_decide_eq_false hc210
 refine g_yes (yk 149 false rfl rfl hc210) ?_
 refine st (v:=.pointer (some ⟨g29,0 + 9,none⟩)) (fa30_6 (.tmp rfl hρ206)) ?_
 refine g_yes (yk 149 false rfl rfl hc210) ?_
 refine st (v:=.slice A14 n15 c16) (ld26 (.tmp rfl rfl) (hs208.cell 1 rfl (0 + 9) rfl)) ?_
 refine g_yes (yk 149 false rfl rfl hc210) ?_
 refine st (v:=.int .i64 ((n15:Nat):Int)) (x_len (n:=n15) Try.underlying26 (.tmp rfl rfl)) ?_
 refine g_yes (yk 149 false rfl rfl hc210) ?_
 refine st (v:=.bool (decide ((((n15:Nat):Int):Int) = 1))) (x_eql (k:=.i64) (a:=((n15:Nat):Int)) (b:=1) (.tmp rfl rfl) .const) ?_
 refine g_yes (yk 146 true rfl rfl hc209) ?_
 refine st (v:=.bool (decide ((((n15:Nat):Int):Int) = 1))) (x_pick_f (.tmp rfl (cVb hc210)) (.tmp rfl rfl)) ?_
 exact jw_end ⟨(cVb (jor_f hc210)),hρ206,(cVb hc209),hs208⟩
 rintro ρ w ⟨hρ211,hρ212,hρ213,hs214⟩
 refine st (v:=.bool ((decide ((((f.Kind:Nat):Int):Int) ≠ 3)) || (decide ((((n15:Nat):Int):Int) = 1)))) (x_pick_t (.tmp rfl hρ213) (.tmp rfl hρ211)) ?_
 exact jw_end ⟨(cVb (jand_t hc209)),hρ212,hs214⟩
 have hp209:¬ (((formV f.Cur.N f.Cur.P) = true)∧((formV f.Prom.N f.Prom.P) = true)):=J_no (J_and Iff.rfl Iff.rfl) hc209
 refine g_no (yk 146 false rfl rfl hc209) rfl ?_
 refine g_no (yk 146 false rfl rfl hc209) rfl ?_
 refine g_no (yk 146 false rfl rfl hc209) rfl ?_
 refine g_no0 (yn (dj:=149) rfl rfl) ?_
 refine g_no0 (yn (dj:=149) rfl rfl) ?_
 refine g_no0 (yn (dj:=149) rfl rfl) ?_
 refine g_no0 (yn (dj:=149) rfl rfl) ?_
 refine g_no (yk 146 false rfl rfl hc209) rfl ?_
 refine st (v:=.bool false) (x_pick_f (.tmp rfl (cVb hc209)) .const) ?_
 exact jw_end ⟨(cVb (jand_f hc209)),hρ206,hs208⟩
 rintro ρ w ⟨hρ215,hρ216,hs217⟩
 refine st (v:=.bool (((formV f.Cur.N f.Cur.P) && (formV f.Prom.N f.Prom.P)) && ((decide ((((f.Kind:Nat):Int):Int) ≠ 3)) || (decide ((((n15:Nat):Int):Int) = 1))))) (x_move (.tmp rfl hρ215)) ?_
 refine jw 4 (fun ρ w => ρ 160 = .bool ((((formV f.Cur.N f.Cur.P) && (formV f.Prom.N f.Prom.P)) && ((decide ((((f.Kind:Nat):Int):Int) ≠ 3)) || (decide ((((n15:Nat):Int):Int) = 1)))) && (okStates f.States))∧ρ 1 = .pointer (some ⟨g29,0,none⟩)∧St H w (obj g33 24 [.int .u64 0,.int .i64 0]::obj g29 30 [.int .u8 ((f.Kind:Nat):Int),.int .i64 f.From,.int .u64 ((f.ID.N:Nat):Int),.int .i64 f.ID.P,.int .u16 ((f.Set:Nat):Int),.int .u64 ((f.Cur.N:Nat):Int),.int .i64 f.Cur.P,.int .u64 ((f.Prom.N:Nat):Int),.int .i64 f.Prom.P,.slice A14 n15 c16,.int .u64 ((f.Base:Nat):Int),.slice A19 n20 c21,.slice A23 n24 c25,.int .u64 ((f.Ack:Nat):Int),.int .u64 ((f.Safe:Nat):Int)]::L)) ?_ ?_
 rcases Bool.eq_false_or_eq_true (((formV f.Cur.N f.Cur.P) && (formV f.Prom.N f.Prom.P)) && ((decide ((((f.Kind:Nat):Int):Int) ≠ 3)) || (decide ((((n15:Nat):Int):Int) = 1)))) with hc218 | hc218
 have hp218:(((formV f.Cur.N f.Cur.P) = true)∧((formV f.Prom.N f.Prom.P) = true))∧(((((f.Kind:Nat):Int):Int) ≠ 3) ∨ ((((n15:Nat):Int):Int) = 1)):=((J_and (J_and Iff.rfl Iff.rfl) (J_or decide_eq_true_iff decide_eq_true_iff))).1 hc218
 refine g_yes (yk 156 true rfl rfl hc218) ?_
 refine st (v:=.pointer (some ⟨g29,0 + 9,none⟩)) (fa30_6 (.tmp rfl hρ216)) ?_
 refine g_yes (yk 156 true rfl rfl hc218) ?_
 refine st (v:=.slice A14 n15 c16) (ld26 (.tmp rfl rfl) (hs217.cell 1 rfl (0 + 9) rfl)) ?_
 refine g_yes (yk 156 true rfl rfl hc218) ?_
 refine st_c cb20 .func (evs1 (.tmp rfl rfl)) (rfine_spec hs217 f.States hl17 ) ?_
 rintro e w219 ⟨rfl,hs220⟩
 refine ⟨_,rfl,?_⟩
 refine st (v:=.bool (okStates f.States)) (x_pick_t (.tmp rfl (cVb hc218)) (.tmp rfl rfl)) ?_
 exact jw_end ⟨(cVb (jand_t hc218)),hρ216,hs220⟩
 have hp218:¬ ((((formV f.Cur.N f.Cur.P) = true)∧((formV f.Prom.N f.Prom.P) = true))∧(((((f.Kind:Nat):Int):Int) ≠ 3) ∨ ((((n15:Nat):Int):Int) = 1))):=J_no (J_and (J_and Iff.rfl Iff.rfl) (J_or decide_eq_true_iff decide_eq_true_iff)) hc218
 refine g_no (yk 156 false rfl rfl hc218) rfl ?_
 refine g_no (yk 156 false rfl rfl hc218) rfl ?_
 refine g_no (yk 156 false rfl rfl hc218) rfl ?_
 refine st (v:=.bool false) (x_pick_f (.tmp rfl (cVb hc218)) .const) ?_
 exact jw_end ⟨(cVb (jand_f hc218)),hρ216,hs217⟩
 rintro ρ w ⟨hρ221,hρ222,hs223⟩
 refine st (v:=.bool ((((formV f.Cur.N f.Cur.P) && (formV f.Prom.N f.Prom.P)) && ((decide ((((f.Kind:Nat):Int):Int) ≠ 3)) || (decide ((((n15:Nat):Int):Int) = 1)))) && (okStates f.States))) (x_move (.tmp rfl hρ221)) ?_
 refine jw 4 (fun ρ w => ρ 165 = .bool (((((formV f.Cur.N f.Cur.P) && (formV f.Prom.N f.Prom.P)) && ((decide ((((f.Kind:Nat):Int):Int) ≠ 3)) || (decide ((((n15:Nat):Int):Int) = 1)))) && (okStates f.States)) && (okItems f.Items))∧ρ 1 = .pointer (some ⟨g29,0,none⟩)∧St H w (obj g33 24 [.int .u64 0,.int .i64 0]::obj g29 30 [.int .u8 ((f.Kind:Nat):Int),.int .i64 f.From,.int .u64 ((f.ID.N:Nat):Int),.int .i64 f.ID.P,.int .u16 ((f.Set:Nat):Int),.int .u64 ((f.Cur.N:Nat):Int),.int .i64 f.Cur.P,.int .u64 ((f.Prom.N:Nat):Int),.int .i64 f.Prom.P,.slice A14 n15 c16,.int .u64 ((f.Base:Nat):Int),.slice A19 n20 c21,.slice A23 n24 c25,.int .u64 ((f.Ack:Nat):Int),.int .u64 ((f.Safe:Nat):Int)]::L)) ?_ ?_
 rcases Bool.eq_false_or_eq_true ((((formV f.Cur.N f.Cur.P) && (formV f.Prom.N f.Prom.P)) && ((decide ((((f.Kind:Nat):Int):Int) ≠ 3)) || (decide ((((n15:Nat):Int):Int) = 1)))) && (okStates f.States)) with hc224 | hc224
 have hp224:((((formV f.Cur.N f.Cur.P) = true)∧((formV f.Prom.N f.Prom.P) = true))∧(((((f.Kind:Nat):Int):Int) ≠ 3) ∨ ((((n15:Nat):Int):Int) = 1)))∧((okStates f.States) = true):=((J_and (J_and (J_and Iff.rfl Iff.rfl) (J_or decide_eq_true_iff decide_eq_true_iff)) Iff.rfl)).1 hc224
 refine g_yes (yk 161 true rfl rfl hc224) ?_
 refine st (v:=.pointer (some ⟨g29,0 + 12,none⟩)) (fa30_9 (.tmp rfl hρ222)) ?_
 refine g_yes (yk 161 true rfl rfl hc224) ?_
 refine st (v:=.slice A23 n24 c25) (ld28 (.tmp rfl rfl) (hs223.cell 1 rfl (0 + 12) rfl)) ?_
 refine g_yes (yk 161 true rfl rfl hc224) ?_
 refine st_c cb21 .func (evs1 (.tmp rfl rfl)) (rright_spec hs223 f.Items hl26 ) ?_
 rintro e w225 ⟨rfl,hs226⟩
 refine ⟨_,rfl,?_⟩
 refine st (v:=.bool (okItems f.Items)) (x_pick_t (.tmp rfl (cVb hc224)) (.tmp rfl rfl)) ?_
 exact jw_end ⟨(cVb (jand_t hc224)),hρ222,hs226⟩
 have hp224:¬ (((((formV f.Cur.N f.Cur.P) = true)∧((formV f.Prom.N f.Prom.P) = true))∧(((((f.Kind:Nat):Int):Int) ≠ 3) ∨ ((((n15:Nat):Int):Int) = 1)))∧((okStates f.States) = true)):=J_no (J_and (J_and (J_and Iff.rfl Iff.rfl) (J_or decide_eq_true_iff decide_eq_true_iff)) Iff.rfl) hc224
 refine g_no (yk 161 false rfl rfl hc224) rfl ?_
 refine g_no (yk 161 false rfl rfl hc224) rfl ?_
 refine g_no (yk 161 false rfl rfl hc224) rfl ?_
 refine st (v:=.bool false) (x_pick_f (.tmp rfl (cVb hc224)) .const) ?_
 exact jw_end ⟨(cVb (jand_f hc224)),hρ222,hs223⟩
 rintro ρ w ⟨hρ227,hρ228,hs229⟩
 refine st (v:=.bool (((((formV f.Cur.N f.Cur.P) && (formV f.Prom.N f.Prom.P)) && ((decide ((((f.Kind:Nat):Int):Int) ≠ 3)) || (decide ((((n15:Nat):Int):Int) = 1)))) && (okStates f.States)) && (okItems f.Items))) (x_move (.tmp rfl hρ227)) ?_
 refine jw 5 (fun ρ w => ρ 171 = .bool ((((((formV f.Cur.N f.Cur.P) && (formV f.Prom.N f.Prom.P)) && ((decide ((((f.Kind:Nat):Int):Int) ≠ 3)) || (decide ((((n15:Nat):Int):Int) = 1)))) && (okStates f.States)) && (okItems f.Items)) && (decide ((((n20:Nat):Int):Int) ≤ 4096)))∧St H w (obj g33 24 [.int .u64 0,.int .i64 0]::obj g29 30 [.int .u8 ((f.Kind:Nat):Int),.int .i64 f.From,.int .u64 ((f.ID.N:Nat):Int),.int .i64 f.ID.P,.int .u16 ((f.Set:Nat):Int),.int .u64 ((f.Cur.N:Nat):Int),.int .i64 f.Cur.P,.int .u64 ((f.Prom.N:Nat):Int),.int .i64 f.Prom.P,.slice A14 n15 c16,.int .u64 ((f.Base:Nat):Int),.slice A19 n20 c21,.slice A23 n24 c25,.int .u64 ((f.Ack:Nat):Int),.int .u64 ((f.Safe:Nat):Int)]::L)) ?_ ?_
 rcases Bool.eq_false_or_eq_true (((((formV f.Cur.N f.Cur.P) && (formV f.Prom.N f.Prom.P)) && ((decide ((((f.Kind:Nat):Int):Int) ≠ 3)) || (decide ((((n15:Nat):Int):Int) = 1)))) && (okStates f.States)) && (okItems f.Items)) with hc230 | hc230
 have hp230:(((((formV f.Cur.N f.Cur.P) = true)∧((formV f.Prom.N f.Prom.P) = true))∧(((((f.Kind:Nat):Int):Int) ≠ 3) ∨ ((((n15:Nat):Int):Int) = 1)))∧((okStates f.States) = true))∧((okItems f.Items) = true):=((J_and (J_and (J_and (J_and Iff.rfl Iff.rfl) (J_or decide_eq_true_iff decide_eq_true_iff)) Iff.rfl) Iff.rfl)).1 hc230
 refine g_yes (yk 166 true rfl rfl hc230) ?_
 refine st (v:=.pointer (some ⟨g29,0 + 11,none⟩)) (fa30_8 (.tmp rfl hρ228)) ?_
 refine g_yes (yk 166 true rfl rfl hc230) ?_
 refine st (v:=.slice A19 n20 c21) (ld27 (.tmp rfl rfl) (hs229.cell 1 rfl (0 + 11) rfl)) ?_
 refine g_yes (yk 166 true rfl rfl hc230) ?_
 refine st (v:=.int .i64 ((n20:Nat):Int)) (x_len (n:=n20) Try.underlying27 (.tmp rfl rfl)) ?_
 refine g_yes (yk 166 true rfl rfl hc230) ?_
 refine st (v:=.bool (decide ((((n20:Nat):Int):Int) ≤ 4096))) (x_leq (k:=.i64) (a:=((n20:Nat):Int)) (b:=4096) (.tmp rfl rfl) .const) ?_
 refine st (v:=.bool (decide ((((n20:Nat):Int):Int) ≤ 4096))) (x_pick_t (.tmp rfl (cVb hc230)) (.tmp rfl rfl)) ?_
 exact jw_end ⟨(cVb (jand_t hc230)),hs229⟩
 have hp230:¬ ((((((formV f.Cur.N f.Cur.P) = true)∧((formV f.Prom.N f.Prom.P) = true))∧(((((f.Kind:Nat):Int):Int) ≠ 3) ∨ ((((n15:Nat):Int):Int) = 1)))∧((okStates f.States) = true))∧((okItems f.Items) = true)):=J_no (J_and (J_and (J_and (J_and Iff.rfl Iff.rfl) (J_or decide_eq_true_iff decide_eq_true_iff)) Iff.rfl) Iff.rfl) hc230
 refine g_no (yk 166 false rfl rfl hc230) rfl ?_
 refine g_no (yk 166 false rfl rfl hc230) rfl ?_
 refine g_no (yk 166 false rfl rfl hc230) rfl ?_
 refine g_no (yk 166 false rfl rfl hc230) rfl ?_
 refine st (v:=.bool false) (x_pick_f (.tmp rfl (cVb hc230)) .const) ?_
 exact jw_end ⟨(cVb (jand_f hc230)),hs229⟩
 rintro ρ w ⟨hρ231,hs232⟩
 refine st (v:=.bool ((((((formV f.Cur.N f.Cur.P) && (formV f.Prom.N f.Prom.P)) && ((decide ((((f.Kind:Nat):Int):Int) ≠ 3)) || (decide ((((n15:Nat):Int):Int) = 1)))) && (okStates f.States)) && (okItems f.Items)) && (decide ((((n20:Nat):Int):Int) ≤ 4096)))) (x_assign (.tmp rfl hρ231)) ?_
 refine c_nil (n_then (c_ret (leave_ret (res_one (v:=.bool ((((((formV f.Cur.N f.Cur.P) && (formV f.Prom.N f.Prom.P)) && ((decide ((((f.Kind:Nat):Int):Int) ≠ 3)) || (decide ((((n15:Nat):Int):Int) = 1)))) && (okStates f.States)) && (okItems f.Items)) && (decide ((((n20:Nat):Int):Int) ≤ 4096)))) rfl (.mk rfl rfl)) ?_)))
 have hans233:(formC f) = ((((((formV f.Cur.N f.Cur.P) && (formV f.Prom.N f.Prom.P)) && ((decide ((((f.Kind:Nat):Int):Int) ≠ 3)) || (decide ((((n15:Nat):Int):Int) = 1)))) && (okStates f.States)) && (okItems f.Items)) && (decide ((((n20:Nat):Int):Int) ≤ 4096))):=Bool.eq_iff_iff.2 ((form_end (by omega) (by omega) (by omega) hp58 hp89 hp151 hp198).trans ((J_and (J_and (J_and (J_and (J_and Iff.rfl Iff.rfl) (J_or decide_eq_true_iff decide_eq_true_iff)) Iff.rfl) Iff.rfl) decide_eq_true_iff)).symm)
 rw [hans233]
 exact ⟨rfl,hs232.drop.drop⟩
end Go.Proofs.Ytlfihfmmhhcigaa
