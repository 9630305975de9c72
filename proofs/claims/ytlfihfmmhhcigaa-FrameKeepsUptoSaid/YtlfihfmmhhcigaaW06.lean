/- Steps of the proofs over the functions of this seat, printed by a program (gen.py) and checked by Lean. -/
import Derived.Test.YtlfihfmmhhcigaaW02
import Derived.Test.YtlfihfmmhhcigaaW00
import Derived.Test.YtlfihfmmhhcigaaW01
import Derived.Test.YtlfihfmmhhcigaaW05
set_option linter.unusedVariables false
set_option linter.unusedSimpArgs false
namespace Go.Proofs.Ytlfihfmmhhcigaa
open Go Go.FM Go.Proofs
attribute [local irreducible] wpList wpQuiet wpS Code.wp Calls
set_option maxHeartbeats 8000000 in
theorem bare_spec {H:Hp} {w:World} {L:List Res} (hs:St H w (L)) (f:GFrame) {k_f:List Value} (h_f:kFrame.rep H f k_f):Calls Try.prog 22 #[.agg k_f.toArray] w (fun e w' => e = .returned (.bool (bareF f))∧St H w' (L)):=by
 obtain ⟨A14,n15,c16,A19,n20,c21,A23,n24,c25,rfl,b1,⟨b2,b3⟩,b4,⟨b5,b6⟩,b7,b8,⟨b9,b10⟩,b11,⟨b12,b13⟩,hl17,b18,hl22,hl26,b27,b28⟩:=h_f
 have:=hl17.len; have:n15 * 48 ≤ 140737488351232:=hl17.bnd; have:=hl17.le
 have:=hl22.len; have:n20 * 24 ≤ 140737488351232:=hl22.bnd; have:=hl22.le
 have:=hl26.len; have:n24 * 32 ≤ 140737488351232:=hl26.bnd; have:=hl26.le
 refine enter (args:=[.agg #[.int .u8 ((f.Kind:Nat):Int),.int .i64 f.From,.int .u64 ((f.ID.N:Nat):Int),.int .i64 f.ID.P,.int .u16 ((f.Set:Nat):Int),.int .u64 ((f.Cur.N:Nat):Int),.int .i64 f.Cur.P,.int .u64 ((f.Prom.N:Nat):Int),.int .i64 f.Prom.P,.slice A14 n15 c16,.int .u64 ((f.Base:Nat):Int),.slice A19 n20 c21,.slice A23 n24 c25,.int .u64 ((f.Ack:Nat):Int),.int .u64 ((f.Safe:Nat):Int)]]) (N:=116) Try.func22 rfl rfl rfl ?_
 refine c_seq (c_region (st_m (m_box (cs:=[.int .u8 ((f.Kind:Nat):Int),.int .i64 f.From,.int .u64 ((f.ID.N:Nat):Int),.int .i64 f.ID.P,.int .u16 ((f.Set:Nat):Int),.int .u64 ((f.Cur.N:Nat):Int),.int .i64 f.Cur.P,.int .u64 ((f.Prom.N:Nat):Int),.int .i64 f.Prom.P,.slice A14 n15 c16,.int .u64 ((f.Base:Nat):Int),.slice A19 n20 c21,.slice A23 n24 c25,.int .u64 ((f.Ack:Nat):Int),.int .u64 ((f.Safe:Nat):Int)]) hs (v:=.agg #[.int .u8 ((f.Kind:Nat):Int),.int .i64 f.From,.int .u64 ((f.ID.N:Nat):Int),.int .i64 f.ID.P,.int .u16 ((f.Set:Nat):Int),.int .u64 ((f.Cur.N:Nat):Int),.int .i64 f.Cur.P,.int .u64 ((f.Prom.N:Nat):Int),.int .i64 f.Prom.P,.slice A14 n15 c16,.int .u64 ((f.Base:Nat):Int),.slice A19 n20 c21,.slice A23 n24 c25,.int .u64 ((f.Ack:Nat):Int),.int .u64 ((f.Safe:Nat):Int)]) (.tmp rfl rfl) rfl) ?_))
 rintro _ w30 ⟨g29,rfl,hs32⟩
 refine st (v:=.bool false) (x_assign .const) ?_
 refine c_nil (n_then (c_seq (c_region (st (v:=.pointer (some ⟨g29,0 + 0,none⟩)) (fa30_0 (.tmp rfl rfl)) ?_))))
 refine st (v:=.int .u8 ((f.Kind:Nat):Int)) (ld5 (.tmp rfl rfl) (hs32.cell 0 rfl (0 + 0) rfl)) ?_
 refine st (v:=.int .u8 ((f.Kind:Nat):Int)) (x_assign (.tmp rfl rfl)) ?_
 refine c_nil (n_then (c_seq (c_region (st (v:=.int .u8 ((f.Kind:Nat):Int)) (x_move (.tmp rfl rfl)) ?_))))
 refine st (v:=.bool (decide ((((f.Kind:Nat):Int):Int) ≠ 1))) (x_neq (k:=.u8) (a:=((f.Kind:Nat):Int)) (b:=1) (.tmp rfl rfl) .const) ?_
 refine st (v:=.int .u8 ((f.Kind:Nat):Int)) (x_move (.tmp rfl rfl)) ?_
 refine st (v:=.bool (decide ((((f.Kind:Nat):Int):Int) = 2))) (x_eql (k:=.u8) (a:=((f.Kind:Nat):Int)) (b:=2) (.tmp rfl rfl) .const) ?_
 refine st (v:=.bool (decide ((((f.Kind:Nat):Int):Int) = 2))) (x_move (.tmp rfl rfl)) ?_
 refine jw 3 (fun ρ w => ρ 17 = .bool ((decide ((((f.Kind:Nat):Int):Int) = 2)) || (decide ((((f.Kind:Nat):Int):Int) = 5)))∧ρ 1 = .pointer (some ⟨g29,0,none⟩)∧ρ 3 = .int .u8 ((f.Kind:Nat):Int)∧ρ 11 = .bool (decide ((((f.Kind:Nat):Int):Int) ≠ 1))∧St H w (obj g29 30 [.int .u8 ((f.Kind:Nat):Int),.int .i64 f.From,.int .u64 ((f.ID.N:Nat):Int),.int .i64 f.ID.P,.int .u16 ((f.Set:Nat):Int),.int .u64 ((f.Cur.N:Nat):Int),.int .i64 f.Cur.P,.int .u64 ((f.Prom.N:Nat):Int),.int .i64 f.Prom.P,.slice A14 n15 c16,.int .u64 ((f.Base:Nat):Int),.slice A19 n20 c21,.slice A23 n24 c25,.int .u64 ((f.Ack:Nat):Int),.int .u64 ((f.Safe:Nat):Int)]::L)) ?_ ?_
 rcases Bool.eq_false_or_eq_true (decide ((((f.Kind:Nat):Int):Int) = 2)) with hc33 | hc33
 have hp33:(((f.Kind:Nat):Int):Int) = 2:=of_decide_eq_true hc33
 refine g_no (yk 14 true rfl rfl hc33) rfl ?_
 refine g_no (yk 14 true rfl rfl hc33) rfl ?_
 refine st (v:=.bool true) (x_pick_t (.tmp rfl (cVb hc33)) .const) ?_
 exact jw_end ⟨(cVb (jor_t hc33)),rfl,rfl,rfl,hs32⟩
 have hp33:¬ ((((f.Kind:Nat):Int):Int) = 2):=of_decide_eq_false hc33
 refine g_yes (yk 14 false rfl rfl hc33) ?_
 refine st (v:=.int .u8 ((f.Kind:Nat):Int)) (x_move (.tmp rfl rfl)) ?_
 refine g_yes (yk 14 false rfl rfl hc33) ?_
 refine st (v:=.bool (decide ((((f.Kind:Nat):Int):Int) = 5))) (x_eql (k:=.u8) (a:=((f.Kind:Nat):Int)) (b:=5) (.tmp rfl rfl) .const) ?_
 refine st (v:=.bool (decide ((((f.Kind:Nat):Int):Int) = 5))) (x_pick_f (.tmp rfl (cVb hc33)) (.tmp rfl rfl)) ?_
 exact jw_end ⟨(cVb (jor_f hc33)),rfl,rfl,rfl,hs32⟩
 rintro ρ w ⟨hρ34,hρ35,hρ36,hρ37,hs38⟩
 refine st (v:=.bool (decide ((((f.Kind:Nat):Int):Int) ≠ 1))) (x_assign (.tmp rfl hρ37)) ?_
 refine st (v:=.bool ((decide ((((f.Kind:Nat):Int):Int) = 2)) || (decide ((((f.Kind:Nat):Int):Int) = 5)))) (x_assign (.tmp rfl hρ34)) ?_
 refine c_nil (n_then (c_seq (c_region (st (v:=.int .u8 ((f.Kind:Nat):Int)) (x_move (.tmp rfl hρ36)) ?_))))
 refine st (v:=.bool (decide ((((f.Kind:Nat):Int):Int) = 6))) (x_eql (k:=.u8) (a:=((f.Kind:Nat):Int)) (b:=6) (.tmp rfl rfl) .const) ?_
 refine st (v:=.bool (decide ((((f.Kind:Nat):Int):Int) = 6))) (x_move (.tmp rfl rfl)) ?_
 refine jw 3 (fun ρ w => ρ 23 = .bool ((decide ((((f.Kind:Nat):Int):Int) = 6)) || (decide ((((f.Kind:Nat):Int):Int) = 7)))∧ρ 1 = .pointer (some ⟨g29,0,none⟩)∧ρ 3 = .int .u8 ((f.Kind:Nat):Int)∧ρ 4 = .bool (decide ((((f.Kind:Nat):Int):Int) ≠ 1))∧ρ 5 = .bool ((decide ((((f.Kind:Nat):Int):Int) = 2)) || (decide ((((f.Kind:Nat):Int):Int) = 5)))∧St H w (obj g29 30 [.int .u8 ((f.Kind:Nat):Int),.int .i64 f.From,.int .u64 ((f.ID.N:Nat):Int),.int .i64 f.ID.P,.int .u16 ((f.Set:Nat):Int),.int .u64 ((f.Cur.N:Nat):Int),.int .i64 f.Cur.P,.int .u64 ((f.Prom.N:Nat):Int),.int .i64 f.Prom.P,.slice A14 n15 c16,.int .u64 ((f.Base:Nat):Int),.slice A19 n20 c21,.slice A23 n24 c25,.int .u64 ((f.Ack:Nat):Int),.int .u64 ((f.Safe:Nat):Int)]::L)) ?_ ?_
 rcases Bool.eq_false_or_eq_true (decide ((((f.Kind:Nat):Int):Int) = 6)) with hc39 | hc39
 have hp39:(((f.Kind:Nat):Int):Int) = 6:=of_decide_eq_true hc39
 refine g_no (yk 20 true rfl rfl hc39) rfl ?_
 refine g_no (yk 20 true rfl rfl hc39) rfl ?_
 refine st (v:=.bool true) (x_pick_t (.tmp rfl (cVb hc39)) .const) ?_
 exact jw_end ⟨(cVb (jor_t hc39)),hρ35,hρ36,rfl,rfl,hs38⟩
 have hp39:¬ ((((f.Kind:Nat):Int):Int) = 6):=of_decide_eq_false hc39
 refine g_yes (yk 20 false rfl rfl hc39) ?_
 refine st (v:=.int .u8 ((f.Kind:Nat):Int)) (x_move (.tmp rfl hρ36)) ?_
 refine g_yes (yk 20 false rfl rfl hc39) ?_
 refine st (v:=.bool (decide ((((f.Kind:Nat):Int):Int) = 7))) (x_eql (k:=.u8) (a:=((f.Kind:Nat):Int)) (b:=7) (.tmp rfl rfl) .const) ?_
 refine st (v:=.bool (decide ((((f.Kind:Nat):Int):Int) = 7))) (x_pick_f (.tmp rfl (cVb hc39)) (.tmp rfl rfl)) ?_
 exact jw_end ⟨(cVb (jor_f hc39)),hρ35,hρ36,rfl,rfl,hs38⟩
 rintro ρ w ⟨hρ40,hρ41,hρ42,hρ43,hρ44,hs45⟩
 refine st (v:=.bool ((decide ((((f.Kind:Nat):Int):Int) = 6)) || (decide ((((f.Kind:Nat):Int):Int) = 7)))) (x_assign (.tmp rfl hρ40)) ?_
 refine c_nil (n_then (c_seq (c_region (st (v:=.agg #[.int .u64 0,.int .i64 0]) (bl24 (ps:=[]) Evp.nil rfl) ?_))))
 refine st_m (al24 (cs:=[.int .u64 0,.int .i64 0]) hs45 rfl) ?_
 rintro _ w47 ⟨g46,rfl,hs49⟩
 refine st_m0 (sto24 (cs':=[.int .u64 0,.int .i64 0]) (i:=0) hs49 (v:=.agg #[.int .u64 0,.int .i64 0]) (.tmp rfl rfl) (.tmp rfl rfl) rfl (Nat.le_of_ble_eq_true rfl) (oneA rfl) rfl) ?_
 rintro w50 hs52
 refine c_nil (n_then (c_seq (c_region (st (v:=.bool (decide ((((f.Kind:Nat):Int):Int) ≠ 1))) (x_move (.tmp rfl hρ43)) ?_))))
 refine st (v:=.bool (decide ((((f.Kind:Nat):Int):Int) ≠ 1))) (x_move (.tmp rfl rfl)) ?_
 refine jw 5 (fun ρ w => ρ 31 = .bool ((decide ((((f.Kind:Nat):Int):Int) ≠ 1)) || (decide (f.ID = (GViewID.mk 0 0))))∧ρ 1 = .pointer (some ⟨g29,0,none⟩)∧ρ 3 = .int .u8 ((f.Kind:Nat):Int)∧ρ 5 = .bool ((decide ((((f.Kind:Nat):Int):Int) = 2)) || (decide ((((f.Kind:Nat):Int):Int) = 5)))∧ρ 6 = .bool ((decide ((((f.Kind:Nat):Int):Int) = 6)) || (decide ((((f.Kind:Nat):Int):Int) = 7)))∧ρ 7 = .pointer (some ⟨g46,0,none⟩)∧St H w (obj g46 24 [.int .u64 0,.int .i64 0]::obj g29 30 [.int .u8 ((f.Kind:Nat):Int),.int .i64 f.From,.int .u64 ((f.ID.N:Nat):Int),.int .i64 f.ID.P,.int .u16 ((f.Set:Nat):Int),.int .u64 ((f.Cur.N:Nat):Int),.int .i64 f.Cur.P,.int .u64 ((f.Prom.N:Nat):Int),.int .i64 f.Prom.P,.slice A14 n15 c16,.int .u64 ((f.Base:Nat):Int),.slice A19 n20 c21,.slice A23 n24 c25,.int .u64 ((f.Ack:Nat):Int),.int .u64 ((f.Safe:Nat):Int)]::L)) ?_ ?_
 rcases Bool.eq_false_or_eq_true (decide ((((f.Kind:Nat):Int):Int) ≠ 1)) with hc53 | hc53
 have hp53:(((f.Kind:Nat):Int):Int) ≠ 1:=of_decide_eq_true hc53
 refine g_no (yk 26 true rfl rfl hc53) rfl ?_
 refine g_no (yk 26 true rfl rfl hc53) rfl ?_
 refine g_no (yk 26 true rfl rfl hc53) rfl ?_
 refine g_no (yk 26 true rfl rfl hc53) rfl ?_
 refine st (v:=.bool true) (x_pick_t (.tmp rfl (cVb hc53)) .const) ?_
 exact jw_end ⟨(cVb (jor_t hc53)),hρ41,hρ42,hρ44,rfl,rfl,hs52⟩
 have hp53:¬ ((((f.Kind:Nat):Int):Int) ≠ 1):=of_decide_eq_false hc53
 refine g_yes (yk 26 false rfl rfl hc53) ?_
 refine st (v:=.pointer (some ⟨g29,0 + 2,none⟩)) (fa30_2 (.tmp rfl hρ41)) ?_
 refine g_yes (yk 26 false rfl rfl hc53) ?_
 refine st (v:=.agg #[.int .u64 ((f.ID.N:Nat):Int),.int .i64 f.ID.P]) (ld24 (cs:=[.int .u64 ((f.ID.N:Nat):Int),.int .i64 f.ID.P]) (.tmp rfl rfl) (hs52.at_ 1 rfl (0 + 2) rfl) rfl) ?_
 refine g_yes (yk 26 false rfl rfl hc53) ?_
 refine st (v:=.agg #[.int .u64 0,.int .i64 0]) (ld24 (cs:=[.int .u64 0,.int .i64 0]) (.tmp rfl rfl) (hs52.at_ 0 rfl (0) rfl) rfl) ?_
 refine g_yes (yk 26 false rfl rfl hc53) ?_
 refine st (v:=.bool ((((f.ID.N:Nat):Int) == 0) && ((f.ID.P == 0) && true))) (x_eqlA eqg24 (.tmp rfl rfl) (.tmp rfl rfl) (fun d => eqs24 (d + 98) _ ((f.ID.N:Nat):Int) 0 f.ID.P 0)) ?_
 refine st (v:=.bool (decide (f.ID = (GViewID.mk 0 0)))) (x_pick_f (.tmp rfl (cVb hc53)) (.tmp rfl (cVb (GViewID.beq_dec f.ID (GViewID.mk 0 0))))) ?_
 exact jw_end ⟨(cVb (jor_f hc53)),hρ41,hρ42,hρ44,rfl,rfl,hs52⟩
 rintro ρ w ⟨hρ54,hρ55,hρ56,hρ57,hρ58,hρ59,hs60⟩
 refine st (v:=.bool ((decide ((((f.Kind:Nat):Int):Int) ≠ 1)) || (decide (f.ID = (GViewID.mk 0 0))))) (x_move (.tmp rfl hρ54)) ?_
 refine jw 7 (fun ρ w => ρ 39 = .bool (((decide ((((f.Kind:Nat):Int):Int) ≠ 1)) || (decide (f.ID = (GViewID.mk 0 0)))) && (((decide ((((f.Kind:Nat):Int):Int) = 2)) || (decide ((((f.Kind:Nat):Int):Int) = 5))) || (decide ((((f.Set:Nat):Int):Int) = 0))))∧ρ 1 = .pointer (some ⟨g29,0,none⟩)∧ρ 3 = .int .u8 ((f.Kind:Nat):Int)∧ρ 6 = .bool ((decide ((((f.Kind:Nat):Int):Int) = 6)) || (decide ((((f.Kind:Nat):Int):Int) = 7)))∧ρ 7 = .pointer (some ⟨g46,0,none⟩)∧St H w (obj g46 24 [.int .u64 0,.int .i64 0]::obj g29 30 [.int .u8 ((f.Kind:Nat):Int),.int .i64 f.From,.int .u64 ((f.ID.N:Nat):Int),.int .i64 f.ID.P,.int .u16 ((f.Set:Nat):Int),.int .u64 ((f.Cur.N:Nat):Int),.int .i64 f.Cur.P,.int .u64 ((f.Prom.N:Nat):Int),.int .i64 f.Prom.P,.slice A14 n15 c16,.int .u64 ((f.Base:Nat):Int),.slice A19 n20 c21,.slice A23 n24 c25,.int .u64 ((f.Ack:Nat):Int),.int .u64 ((f.Safe:Nat):Int)]::L)) ?_ ?_
 rcases Bool.eq_false_or_eq_true ((decide ((((f.Kind:Nat):Int):Int) ≠ 1)) || (decide (f.ID = (GViewID.mk 0 0)))) with hc61 | hc61
 have hp61:((((f.Kind:Nat):Int):Int) ≠ 1) ∨ (f.ID = (GViewID.mk 0 0)):=((J_or decide_eq_true_iff decide_eq_true_iff)).1 hc61
 refine g_yes (yk 32 true rfl rfl hc61) ?_
 refine st (v:=.bool ((decide ((((f.Kind:Nat):Int):Int) = 2)) || (decide ((((f.Kind:Nat):Int):Int) = 5)))) (x_move (.tmp rfl hρ57)) ?_
 refine g_yes (yk 32 true rfl rfl hc61) ?_
 refine st (v:=.bool ((decide ((((f.Kind:Nat):Int):Int) = 2)) || (decide ((((f.Kind:Nat):Int):Int) = 5)))) (x_move (.tmp rfl rfl)) ?_
 refine jw 4 (fun ρ w => ρ 38 = .bool (((decide ((((f.Kind:Nat):Int):Int) = 2)) || (decide ((((f.Kind:Nat):Int):Int) = 5))) || (decide ((((f.Set:Nat):Int):Int) = 0)))∧ρ 1 = .pointer (some ⟨g29,0,none⟩)∧ρ 3 = .int .u8 ((f.Kind:Nat):Int)∧ρ 6 = .bool ((decide ((((f.Kind:Nat):Int):Int) = 6)) || (decide ((((f.Kind:Nat):Int):Int) = 7)))∧ρ 7 = .pointer (some ⟨g46,0,none⟩)∧ρ 32 = .bool true∧St H w (obj g46 24 [.int .u64 0,.int .i64 0]::obj g29 30 [.int .u8 ((f.Kind:Nat):Int),.int .i64 f.From,.int .u64 ((f.ID.N:Nat):Int),.int .i64 f.ID.P,.int .u16 ((f.Set:Nat):Int),.int .u64 ((f.Cur.N:Nat):Int),.int .i64 f.Cur.P,.int .u64 ((f.Prom.N:Nat):Int),.int .i64 f.Prom.P,.slice A14 n15 c16,.int .u64 ((f.Base:Nat):Int),.slice A19 n20 c21,.slice A23 n24 c25,.int .u64 ((f.Ack:Nat):Int),.int .u64 ((f.Safe:Nat):Int)]::L)) ?_ ?_
 rcases Bool.eq_false_or_eq_true ((decide ((((f.Kind:Nat):Int):Int) = 2)) || (decide ((((f.Kind:Nat):Int):Int) = 5))) with hc62 | hc62
 have hp62:((((f.Kind:Nat):Int):Int) = 2) ∨ ((((f.Kind:Nat):Int):Int) = 5):=((J_or decide_eq_true_iff decide_eq_true_iff)).1 hc62
 refine g_no (yk 34 true rfl rfl hc62) rfl ?_
 refine g_no (yk 34 true rfl rfl hc62) rfl ?_
 refine g_no (yk 34 true rfl rfl hc62) rfl ?_
 refine g_yes (yk 32 true rfl rfl hc61) ?_
 refine st (v:=.bool true) (x_pick_t (.tmp rfl (cVb hc62)) .const) ?_
 exact jw_end ⟨(cVb (jor_t hc62)),hρ55,hρ56,hρ58,hρ59,(cVb hc61),hs60⟩
 have hp62:¬ (((((f.Kind:Nat):Int):Int) = 2) ∨ ((((f.Kind:Nat):Int):Int) = 5)):=J_no (J_or decide_eq_true_iff decide_eq_true_iff) hc62
 refine g_yes (yk 34 false rfl rfl hc62) ?_
 refine st (v:=.pointer (some ⟨g29,0 + 4,none⟩)) (fa30_3 (.tmp rfl hρ55)) ?_
 refine g_yes (yk 34 false rfl rfl hc62) ?_
 refine st (v:=.int .u16 ((f.Set:Nat):Int)) (ld25 (.tmp rfl rfl) (hs60.cell 1 rfl (0 + 4) rfl)) ?_
 refine g_yes (yk 34 false rfl rfl hc62) ?_
 refine st (v:=.bool (decide ((((f.Set:Nat):Int):Int) = 0))) (x_eql (k:=.u16) (a:=((f.Set:Nat):Int)) (b:=0) (.tmp rfl rfl) .const) ?_
 refine g_yes (yk 32 true rfl rfl hc61) ?_
 refine st (v:=.bool (decide ((((f.Set:Nat):Int):Int) = 0))) (x_pick_f (.tmp rfl (cVb hc62)) (.tmp rfl rfl)) ?_
 exact jw_end ⟨(cVb (jor_f hc62)),hρ55,hρ56,hρ58,hρ59,(cVb hc61),hs60⟩
 rintro ρ w ⟨hρ63,hρ64,hρ65,hρ66,hρ67,hρ68,hs69⟩
 refine st (v:=.bool (((decide ((((f.Kind:Nat):Int):Int) = 2)) || (decide ((((f.Kind:Nat):Int):Int) = 5))) || (decide ((((f.Set:Nat):Int):Int) = 0)))) (x_pick_t (.tmp rfl hρ68) (.tmp rfl hρ63)) ?_
 exact jw_end ⟨(cVb (jand_t hc61)),hρ64,hρ65,hρ66,hρ67,hs69⟩
 have hp61:¬ (((((f.Kind:Nat):Int):Int) ≠ 1) ∨ (f.ID = (GViewID.mk 0 0))):=J_no (J_or decide_eq_true_iff decide_eq_true_iff) hc61
 refine g_no (yk 32 false rfl rfl hc61) rfl ?_
 refine g_no (yk 32 false rfl rfl hc61) rfl ?_
 refine g_no0 (yn (dj:=34) rfl rfl) ?_
 refine g_no0 (yn (dj:=34) rfl rfl) ?_
 refine g_no0 (yn (dj:=34) rfl rfl) ?_
 refine g_no (yk 32 false rfl rfl hc61) rfl ?_
 refine st (v:=.bool false) (x_pick_f (.tmp rfl (cVb hc61)) .const) ?_
 exact jw_end ⟨(cVb (jand_f hc61)),hρ55,hρ56,hρ58,hρ59,hs60⟩
 rintro ρ w ⟨hρ70,hρ71,hρ72,hρ73,hρ74,hs75⟩
 refine st (v:=.bool (((decide ((((f.Kind:Nat):Int):Int) ≠ 1)) || (decide (f.ID = (GViewID.mk 0 0)))) && (((decide ((((f.Kind:Nat):Int):Int) = 2)) || (decide ((((f.Kind:Nat):Int):Int) = 5))) || (decide ((((f.Set:Nat):Int):Int) = 0))))) (x_move (.tmp rfl hρ70)) ?_
 refine jw 9 (fun ρ w => ρ 49 = .bool ((((decide ((((f.Kind:Nat):Int):Int) ≠ 1)) || (decide (f.ID = (GViewID.mk 0 0)))) && (((decide ((((f.Kind:Nat):Int):Int) = 2)) || (decide ((((f.Kind:Nat):Int):Int) = 5))) || (decide ((((f.Set:Nat):Int):Int) = 0)))) && ((decide ((((f.Kind:Nat):Int):Int) = 1)) || (decide (f.Cur = (GViewID.mk 0 0)))))∧ρ 1 = .pointer (some ⟨g29,0,none⟩)∧ρ 3 = .int .u8 ((f.Kind:Nat):Int)∧ρ 6 = .bool ((decide ((((f.Kind:Nat):Int):Int) = 6)) || (decide ((((f.Kind:Nat):Int):Int) = 7)))∧ρ 7 = .pointer (some ⟨g46,0,none⟩)∧St H w (obj g46 24 [.int .u64 0,.int .i64 0]::obj g29 30 [.int .u8 ((f.Kind:Nat):Int),.int .i64 f.From,.int .u64 ((f.ID.N:Nat):Int),.int .i64 f.ID.P,.int .u16 ((f.Set:Nat):Int),.int .u64 ((f.Cur.N:Nat):Int),.int .i64 f.Cur.P,.int .u64 ((f.Prom.N:Nat):Int),.int .i64 f.Prom.P,.slice A14 n15 c16,.int .u64 ((f.Base:Nat):Int),.slice A19 n20 c21,.slice A23 n24 c25,.int .u64 ((f.Ack:Nat):Int),.int .u64 ((f.Safe:Nat):Int)]::L)) ?_ ?_
 rcases Bool.eq_false_or_eq_true (((decide ((((f.Kind:Nat):Int):Int) ≠ 1)) || (decide (f.ID = (GViewID.mk 0 0)))) && (((decide ((((f.Kind:Nat):Int):Int) = 2)) || (decide ((((f.Kind:Nat):Int):Int) = 5))) || (decide ((((f.Set:Nat):Int):Int) = 0)))) with hc76 | hc76
 have hp76:(((((f.Kind:Nat):Int):Int) ≠ 1) ∨ (f.ID = (GViewID.mk 0 0)))∧((((((f.Kind:Nat):Int):Int) = 2) ∨ ((((f.Kind:Nat):Int):Int) = 5)) ∨ ((((f.Set:Nat):Int):Int) = 0)):=((J_and (J_or decide_eq_true_iff decide_eq_true_iff) (J_or (J_or decide_eq_true_iff decide_eq_true_iff) decide_eq_true_iff))).1 hc76
 refine g_yes (yk 40 true rfl rfl hc76) ?_
 refine st (v:=.int .u8 ((f.Kind:Nat):Int)) (x_move (.tmp rfl hρ72)) ?_
 refine g_yes (yk 40 true rfl rfl hc76) ?_
 refine st (v:=.bool (decide ((((f.Kind:Nat):Int):Int) = 1))) (x_eql (k:=.u8) (a:=((f.Kind:Nat):Int)) (b:=1) (.tmp rfl rfl) .const) ?_
 refine g_yes (yk 40 true rfl rfl hc76) ?_
 refine st (v:=.bool (decide ((((f.Kind:Nat):Int):Int) = 1))) (x_move (.tmp rfl rfl)) ?_
 refine jw 5 (fun ρ w => ρ 48 = .bool ((decide ((((f.Kind:Nat):Int):Int) = 1)) || (decide (f.Cur = (GViewID.mk 0 0))))∧ρ 1 = .pointer (some ⟨g29,0,none⟩)∧ρ 3 = .int .u8 ((f.Kind:Nat):Int)∧ρ 6 = .bool ((decide ((((f.Kind:Nat):Int):Int) = 6)) || (decide ((((f.Kind:Nat):Int):Int) = 7)))∧ρ 7 = .pointer (some ⟨g46,0,none⟩)∧ρ 40 = .bool true∧St H w (obj g46 24 [.int .u64 0,.int .i64 0]::obj g29 30 [.int .u8 ((f.Kind:Nat):Int),.int .i64 f.From,.int .u64 ((f.ID.N:Nat):Int),.int .i64 f.ID.P,.int .u16 ((f.Set:Nat):Int),.int .u64 ((f.Cur.N:Nat):Int),.int .i64 f.Cur.P,.int .u64 ((f.Prom.N:Nat):Int),.int .i64 f.Prom.P,.slice A14 n15 c16,.int .u64 ((f.Base:Nat):Int),.slice A19 n20 c21,.slice A23 n24 c25,.int .u64 ((f.Ack:Nat):Int),.int .u64 ((f.Safe:Nat):Int)]::L)) ?_ ?_
 rcases Bool.eq_false_or_eq_true (decide ((((f.Kind:Nat):Int):Int) = 1)) with hc77 | hc77
 have hp77:(((f.Kind:Nat):Int):Int) = 1:=of_decide_eq_true hc77
 refine g_no (yk 43 true rfl rfl hc77) rfl ?_
 refine g_no (yk 43 true rfl rfl hc77) rfl ?_
 refine g_no (yk 43 true rfl rfl hc77) rfl ?_
 refine g_no (yk 43 true rfl rfl hc77) rfl ?_
 refine g_yes (yk 40 true rfl rfl hc76) ?_
 refine st (v:=.bool true) (x_pick_t (.tmp rfl (cVb hc77)) .const) ?_
 exact jw_end ⟨(cVb (jor_t hc77)),hρ71,hρ72,hρ73,hρ74,(cVb hc76),hs75⟩
 have hp77:¬ ((((f.Kind:Nat):Int):Int) = 1):=of_decide_eq_false hc77
 refine g_yes (yk 43 false rfl rfl hc77) ?_
 refine st (v:=.pointer (some ⟨g29,0 + 5,none⟩)) (fa30_4 (.tmp rfl hρ71)) ?_
 refine g_yes (yk 43 false rfl rfl hc77) ?_
 refine st (v:=.agg #[.int .u64 ((f.Cur.N:Nat):Int),.int .i64 f.Cur.P]) (ld24 (cs:=[.int .u64 ((f.Cur.N:Nat):Int),.int .i64 f.Cur.P]) (.tmp rfl rfl) (hs75.at_ 1 rfl (0 + 5) rfl) rfl) ?_
 refine g_yes (yk 43 false rfl rfl hc77) ?_
 refine st (v:=.agg #[.int .u64 0,.int .i64 0]) (ld24 (cs:=[.int .u64 0,.int .i64 0]) (.tmp rfl hρ74) (hs75.at_ 0 rfl (0) rfl) rfl) ?_
 refine g_yes (yk 43 false rfl rfl hc77) ?_
 refine st (v:=.bool ((((f.Cur.N:Nat):Int) == 0) && ((f.Cur.P == 0) && true))) (x_eqlA eqg24 (.tmp rfl rfl) (.tmp rfl rfl) (fun d => eqs24 (d + 98) _ ((f.Cur.N:Nat):Int) 0 f.Cur.P 0)) ?_
 refine g_yes (yk 40 true rfl rfl hc76) ?_
 refine st (v:=.bool (decide (f.Cur = (GViewID.mk 0 0)))) (x_pick_f (.tmp rfl (cVb hc77)) (.tmp rfl (cVb (GViewID.beq_dec f.Cur (GViewID.mk 0 0))))) ?_
 exact jw_end ⟨(cVb (jor_f hc77)),hρ71,hρ72,hρ73,hρ74,(cVb hc76),hs75⟩
 rintro ρ w ⟨hρ78,hρ79,hρ80,hρ81,hρ82,hρ83,hs84⟩
 refine st (v:=.bool ((decide ((((f.Kind:Nat):Int):Int) = 1)) || (decide (f.Cur = (GViewID.mk 0 0))))) (x_pick_t (.tmp rfl hρ83) (.tmp rfl hρ78)) ?_
 exact jw_end ⟨(cVb (jand_t hc76)),hρ79,hρ80,hρ81,hρ82,hs84⟩
 have hp76:¬ ((((((f.Kind:Nat):Int):Int) ≠ 1) ∨ (f.ID = (GViewID.mk 0 0)))∧((((((f.Kind:Nat):Int):Int) = 2) ∨ ((((f.Kind:Nat):Int):Int) = 5)) ∨ ((((f.Set:Nat):Int):Int) = 0))):=J_no (J_and (J_or decide_eq_true_iff decide_eq_true_iff) (J_or (J_or decide_eq_true_iff decide_eq_true_iff) decide_eq_true_iff)) hc76
 refine g_no (yk 40 false rfl rfl hc76) rfl ?_
 refine g_no (yk 40 false rfl rfl hc76) rfl ?_
 refine g_no (yk 40 false rfl rfl hc76) rfl ?_
 refine g_no0 (yn (dj:=43) rfl rfl) ?_
 refine g_no0 (yn (dj:=43) rfl rfl) ?_
 refine g_no0 (yn (dj:=43) rfl rfl) ?_
 refine g_no0 (yn (dj:=43) rfl rfl) ?_
 refine g_no (yk 40 false rfl rfl hc76) rfl ?_
 refine st (v:=.bool false) (x_pick_f (.tmp rfl (cVb hc76)) .const) ?_
 exact jw_end ⟨(cVb (jand_f hc76)),hρ71,hρ72,hρ73,hρ74,hs75⟩
 rintro ρ w ⟨hρ85,hρ86,hρ87,hρ88,hρ89,hs90⟩
 refine st (v:=.bool ((((decide ((((f.Kind:Nat):Int):Int) ≠ 1)) || (decide (f.ID = (GViewID.mk 0 0)))) && (((decide ((((f.Kind:Nat):Int):Int) = 2)) || (decide ((((f.Kind:Nat):Int):Int) = 5))) || (decide ((((f.Set:Nat):Int):Int) = 0)))) && ((decide ((((f.Kind:Nat):Int):Int) = 1)) || (decide (f.Cur = (GViewID.mk 0 0)))))) (x_move (.tmp rfl hρ85)) ?_
 refine jw 13 (fun ρ w => ρ 63 = .bool (((((decide ((((f.Kind:Nat):Int):Int) ≠ 1)) || (decide (f.ID = (GViewID.mk 0 0)))) && (((decide ((((f.Kind:Nat):Int):Int) = 2)) || (decide ((((f.Kind:Nat):Int):Int) = 5))) || (decide ((((f.Set:Nat):Int):Int) = 0)))) && ((decide ((((f.Kind:Nat):Int):Int) = 1)) || (decide (f.Cur = (GViewID.mk 0 0))))) && (((decide ((((f.Kind:Nat):Int):Int) = 1)) || (decide ((((f.Kind:Nat):Int):Int) = 4))) || (decide (f.Prom = (GViewID.mk 0 0)))))∧ρ 1 = .pointer (some ⟨g29,0,none⟩)∧ρ 3 = .int .u8 ((f.Kind:Nat):Int)∧ρ 6 = .bool ((decide ((((f.Kind:Nat):Int):Int) = 6)) || (decide ((((f.Kind:Nat):Int):Int) = 7)))∧St H w (obj g46 24 [.int .u64 0,.int .i64 0]::obj g29 30 [.int .u8 ((f.Kind:Nat):Int),.int .i64 f.From,.int .u64 ((f.ID.N:Nat):Int),.int .i64 f.ID.P,.int .u16 ((f.Set:Nat):Int),.int .u64 ((f.Cur.N:Nat):Int),.int .i64 f.Cur.P,.int .u64 ((f.Prom.N:Nat):Int),.int .i64 f.Prom.P,.slice A14 n15 c16,.int .u64 ((f.Base:Nat):Int),.slice A19 n20 c21,.slice A23 n24 c25,.int .u64 ((f.Ack:Nat):Int),.int .u64 ((f.Safe:Nat):Int)]::L)) ?_ ?_
 rcases Bool.eq_false_or_eq_true ((((decide ((((f.Kind:Nat):Int):Int) ≠ 1)) || (decide (f.ID = (GViewID.mk 0 0)))) && (((decide ((((f.Kind:Nat):Int):Int) = 2)) || (decide ((((f.Kind:Nat):Int):Int) = 5))) || (decide ((((f.Set:Nat):Int):Int) = 0)))) && ((decide ((((f.Kind:Nat):Int):Int) = 1)) || (decide (f.Cur = (GViewID.mk 0 0))))) with hc91 | hc91
 have hp91:((((((f.Kind:Nat):Int):Int) ≠ 1) ∨ (f.ID = (GViewID.mk 0 0)))∧((((((f.Kind:Nat):Int):Int) = 2) ∨ ((((f.Kind:Nat):Int):Int) = 5)) ∨ ((((f.Set:Nat):Int):Int) = 0)))∧(((((f.Kind:Nat):Int):Int) = 1) ∨ (f.Cur = (GViewID.mk 0 0))):=((J_and (J_and (J_or decide_eq_true_iff decide_eq_true_iff) (J_or (J_or decide_eq_true_iff decide_eq_true_iff) decide_eq_true_iff)) (J_or decide_eq_true_iff decide_eq_true_iff))).1 hc91
 refine g_yes (yk 50 true rfl rfl hc91) ?_
 refine st (v:=.int .u8 ((f.Kind:Nat):Int)) (x_move (.tmp rfl hρ87)) ?_
 refine g_yes (yk 50 true rfl rfl hc91) ?_
 refine st (v:=.bool (decide ((((f.Kind:Nat):Int):Int) = 1))) (x_eql (k:=.u8) (a:=((f.Kind:Nat):Int)) (b:=1) (.tmp rfl rfl) .const) ?_
 refine g_yes (yk 50 true rfl rfl hc91) ?_
 refine st (v:=.bool (decide ((((f.Kind:Nat):Int):Int) = 1))) (x_move (.tmp rfl rfl)) ?_
 refine jw 3 (fun ρ w => ρ 56 = .bool ((decide ((((f.Kind:Nat):Int):Int) = 1)) || (decide ((((f.Kind:Nat):Int):Int) = 4)))∧ρ 1 = .pointer (some ⟨g29,0,none⟩)∧ρ 3 = .int .u8 ((f.Kind:Nat):Int)∧ρ 6 = .bool ((decide ((((f.Kind:Nat):Int):Int) = 6)) || (decide ((((f.Kind:Nat):Int):Int) = 7)))∧ρ 7 = .pointer (some ⟨g46,0,none⟩)∧ρ 50 = .bool true∧St H w (obj g46 24 [.int .u64 0,.int .i64 0]::obj g29 30 [.int .u8 ((f.Kind:Nat):Int),.int .i64 f.From,.int .u64 ((f.ID.N:Nat):Int),.int .i64 f.ID.P,.int .u16 ((f.Set:Nat):Int),.int .u64 ((f.Cur.N:Nat):Int),.int .i64 f.Cur.P,.int .u64 ((f.Prom.N:Nat):Int),.int .i64 f.Prom.P,.slice A14 n15 c16,.int .u64 ((f.Base:Nat):Int),.slice A19 n20 c21,.slice A23 n24 c25,.int .u64 ((f.Ack:Nat):Int),.int .u64 ((f.Safe:Nat):Int)]::L)) ?_ ?_
 rcases Bool.eq_false_or_eq_true (decide ((((f.Kind:Nat):Int):Int) = 1)) with hc92 | hc92
 have hp92:(((f.Kind:Nat):Int):Int) = 1:=of_decide_eq_true hc92
 refine g_no (yk 53 true rfl rfl hc92) rfl ?_
 refine g_no (yk 53 true rfl rfl hc92) rfl ?_
 refine g_yes (yk 50 true rfl rfl hc91) ?_
 refine st (v:=.bool true) (x_pick_t (.tmp rfl (cVb hc92)) .const) ?_
 exact jw_end ⟨(cVb (jor_t hc92)),hρ86,hρ87,hρ88,hρ89,(cVb hc91),hs90⟩
 have hp92:¬ ((((f.Kind:Nat):Int):Int) = 1):=of_decide_eq_false hc92
 refine g_yes (yk 53 false rfl rfl hc92) ?_
 refine st (v:=.int .u8 ((f.Kind:Nat):Int)) (x_move (.tmp rfl hρ87)) ?_
 refine g_yes (yk 53 false rfl rfl hc92) ?_
 refine st (v:=.bool (decide ((((f.Kind:Nat):Int):Int) = 4))) (x_eql (k:=.u8) (a:=((f.Kind:Nat):Int)) (b:=4) (.tmp rfl rfl) .const) ?_
 refine g_yes (yk 50 true rfl rfl hc91) ?_
 refine st (v:=.bool (decide ((((f.Kind:Nat):Int):Int) = 4))) (x_pick_f (.tmp rfl (cVb hc92)) (.tmp rfl rfl)) ?_
 exact jw_end ⟨(cVb (jor_f hc92)),hρ86,hρ87,hρ88,hρ89,(cVb hc91),hs90⟩
 rintro ρ w ⟨hρ93,hρ94,hρ95,hρ96,hρ97,hρ98,hs99⟩
 refine g_yes (yl (dj:=50) (b:=true) rfl rfl hρ98) ?_
 refine st (v:=.bool ((decide ((((f.Kind:Nat):Int):Int) = 1)) || (decide ((((f.Kind:Nat):Int):Int) = 4)))) (x_move (.tmp rfl hρ93)) ?_
 refine jw 5 (fun ρ w => ρ 62 = .bool (((decide ((((f.Kind:Nat):Int):Int) = 1)) || (decide ((((f.Kind:Nat):Int):Int) = 4))) || (decide (f.Prom = (GViewID.mk 0 0))))∧ρ 1 = .pointer (some ⟨g29,0,none⟩)∧ρ 3 = .int .u8 ((f.Kind:Nat):Int)∧ρ 6 = .bool ((decide ((((f.Kind:Nat):Int):Int) = 6)) || (decide ((((f.Kind:Nat):Int):Int) = 7)))∧ρ 50 = .bool true∧St H w (obj g46 24 [.int .u64 0,.int .i64 0]::obj g29 30 [.int .u8 ((f.Kind:Nat):Int),.int .i64 f.From,.int .u64 ((f.ID.N:Nat):Int),.int .i64 f.ID.P,.int .u16 ((f.Set:Nat):Int),.int .u64 ((f.Cur.N:Nat):Int),.int .i64 f.Cur.P,.int .u64 ((f.Prom.N:Nat):Int),.int .i64 f.Prom.P,.slice A14 n15 c16,.int .u64 ((f.Base:Nat):Int),.slice A19 n20 c21,.slice A23 n24 c25,.int .u64 ((f.Ack:Nat):Int),.int .u64 ((f.Safe:Nat):Int)]::L)) ?_ ?_
 rcases Bool.eq_false_or_eq_true ((decide ((((f.Kind:Nat):Int):Int) = 1)) || (decide ((((f.Kind:Nat):Int):Int) = 4))) with hc100 | hc100
 have hp100:((((f.Kind:Nat):Int):Int) = 1) ∨ ((((f.Kind:Nat):Int):Int) = 4):=((J_or decide_eq_true_iff decide_eq_true_iff)).1 hc100
 refine g_no (yk 57 true rfl rfl hc100) rfl ?_
 refine g_no (yk 57 true rfl rfl hc100) rfl ?_
 refine g_no (yk 57 true rfl rfl hc100) rfl ?_
 refine g_no (yk 57 true rfl rfl hc100) rfl ?_
 refine g_yes (yl (dj:=50) (b:=true) rfl rfl hρ98) ?_
 refine st (v:=.bool true) (x_pick_t (.tmp rfl (cVb hc100)) .const) ?_
 exact jw_end ⟨(cVb (jor_t hc100)),hρ94,hρ95,hρ96,hρ98,hs99⟩
 have hp100:¬ (((((f.Kind:Nat):Int):Int) = 1) ∨ ((((f.Kind:Nat):Int):Int) = 4)):=J_no (J_or decide_eq_true_iff decide_eq_true_iff) hc100
 refine g_yes (yk 57 false rfl rfl hc100) ?_
 refine st (v:=.pointer (some ⟨g29,0 + 7,none⟩)) (fa30_5 (.tmp rfl hρ94)) ?_
 refine g_yes (yk 57 false rfl rfl hc100) ?_
 refine st (v:=.agg #[.int .u64 ((f.Prom.N:Nat):Int),.int .i64 f.Prom.P]) (ld24 (cs:=[.int .u64 ((f.Prom.N:Nat):Int),.int .i64 f.Prom.P]) (.tmp rfl rfl) (hs99.at_ 1 rfl (0 + 7) rfl) rfl) ?_
 refine g_yes (yk 57 false rfl rfl hc100) ?_
 refine st (v:=.agg #[.int .u64 0,.int .i64 0]) (ld24 (cs:=[.int .u64 0,.int .i64 0]) (.tmp rfl hρ97) (hs99.at_ 0 rfl (0) rfl) rfl) ?_
 refine g_yes (yk 57 false rfl rfl hc100) ?_
 refine st (v:=.bool ((((f.Prom.N:Nat):Int) == 0) && ((f.Prom.P == 0) && true))) (x_eqlA eqg24 (.tmp rfl rfl) (.tmp rfl rfl) (fun d => eqs24 (d + 98) _ ((f.Prom.N:Nat):Int) 0 f.Prom.P 0)) ?_
 refine g_yes (yl (dj:=50) (b:=true) rfl rfl hρ98) ?_
 refine st (v:=.bool (decide (f.Prom = (GViewID.mk 0 0)))) (x_pick_f (.tmp rfl (cVb hc100)) (.tmp rfl (cVb (GViewID.beq_dec f.Prom (GViewID.mk 0 0))))) ?_
 exact jw_end ⟨(cVb (jor_f hc100)),hρ94,hρ95,hρ96,hρ98,hs99⟩
 rintro ρ w ⟨hρ101,hρ102,hρ103,hρ104,hρ105,hs106⟩
 refine st (v:=.bool (((decide ((((f.Kind:Nat):Int):Int) = 1)) || (decide ((((f.Kind:Nat):Int):Int) = 4))) || (decide (f.Prom = (GViewID.mk 0 0))))) (x_pick_t (.tmp rfl hρ105) (.tmp rfl hρ101)) ?_
 exact jw_end ⟨(cVb (jand_t hc91)),hρ102,hρ103,hρ104,hs106⟩
 have hp91:¬ (((((((f.Kind:Nat):Int):Int) ≠ 1) ∨ (f.ID = (GViewID.mk 0 0)))∧((((((f.Kind:Nat):Int):Int) = 2) ∨ ((((f.Kind:Nat):Int):Int) = 5)) ∨ ((((f.Set:Nat):Int):Int) = 0)))∧(((((f.Kind:Nat):Int):Int) = 1) ∨ (f.Cur = (GViewID.mk 0 0)))):=J_no (J_and (J_and (J_or decide_eq_true_iff decide_eq_true_iff) (J_or (J_or decide_eq_true_iff decide_eq_true_iff) decide_eq_true_iff)) (J_or decide_eq_true_iff decide_eq_true_iff)) hc91
 refine g_no (yk 50 false rfl rfl hc91) rfl ?_
 refine g_no (yk 50 false rfl rfl hc91) rfl ?_
 refine g_no (yk 50 false rfl rfl hc91) rfl ?_
 refine g_no0 (yn (dj:=53) rfl rfl) ?_
 refine g_no0 (yn (dj:=53) rfl rfl) ?_
 refine g_no (yk 50 false rfl rfl hc91) rfl ?_
 refine g_no (yk 50 false rfl rfl hc91) rfl ?_
 refine g_no0 (yn (dj:=57) rfl rfl) ?_
 refine g_no0 (yn (dj:=57) rfl rfl) ?_
 refine g_no0 (yn (dj:=57) rfl rfl) ?_
 refine g_no0 (yn (dj:=57) rfl rfl) ?_
 refine g_no (yk 50 false rfl rfl hc91) rfl ?_
 refine st (v:=.bool false) (x_pick_f (.tmp rfl (cVb hc91)) .const) ?_
 exact jw_end ⟨(cVb (jand_f hc91)),hρ86,hρ87,hρ88,hs90⟩
 rintro ρ w ⟨hρ107,hρ108,hρ109,hρ110,hs111⟩
 refine st (v:=.bool (((((decide ((((f.Kind:Nat):Int):Int) ≠ 1)) || (decide (f.ID = (GViewID.mk 0 0)))) && (((decide ((((f.Kind:Nat):Int):Int) = 2)) || (decide ((((f.Kind:Nat):Int):Int) = 5))) || (decide ((((f.Set:Nat):Int):Int) = 0)))) && ((decide ((((f.Kind:Nat):Int):Int) = 1)) || (decide (f.Cur = (GViewID.mk 0 0))))) && (((decide ((((f.Kind:Nat):Int):Int) = 1)) || (decide ((((f.Kind:Nat):Int):Int) = 4))) || (decide (f.Prom = (GViewID.mk 0 0)))))) (x_move (.tmp rfl hρ107)) ?_
 refine jw 13 (fun ρ w => ρ 77 = .bool ((((((decide ((((f.Kind:Nat):Int):Int) ≠ 1)) || (decide (f.ID = (GViewID.mk 0 0)))) && (((decide ((((f.Kind:Nat):Int):Int) = 2)) || (decide ((((f.Kind:Nat):Int):Int) = 5))) || (decide ((((f.Set:Nat):Int):Int) = 0)))) && ((decide ((((f.Kind:Nat):Int):Int) = 1)) || (decide (f.Cur = (GViewID.mk 0 0))))) && (((decide ((((f.Kind:Nat):Int):Int) = 1)) || (decide ((((f.Kind:Nat):Int):Int) = 4))) || (decide (f.Prom = (GViewID.mk 0 0))))) && (((decide ((((f.Kind:Nat):Int):Int) = 3)) || (decide ((((f.Kind:Nat):Int):Int) = 5))) || (decide ((((n15:Nat):Int):Int) = 0))))∧ρ 1 = .pointer (some ⟨g29,0,none⟩)∧ρ 3 = .int .u8 ((f.Kind:Nat):Int)∧ρ 6 = .bool ((decide ((((f.Kind:Nat):Int):Int) = 6)) || (decide ((((f.Kind:Nat):Int):Int) = 7)))∧St H w (obj g46 24 [.int .u64 0,.int .i64 0]::obj g29 30 [.int .u8 ((f.Kind:Nat):Int),.int .i64 f.From,.int .u64 ((f.ID.N:Nat):Int),.int .i64 f.ID.P,.int .u16 ((f.Set:Nat):Int),.int .u64 ((f.Cur.N:Nat):Int),.int .i64 f.Cur.P,.int .u64 ((f.Prom.N:Nat):Int),.int .i64 f.Prom.P,.slice A14 n15 c16,.int .u64 ((f.Base:Nat):Int),.slice A19 n20 c21,.slice A23 n24 c25,.int .u64 ((f.Ack:Nat):Int),.int .u64 ((f.Safe:Nat):Int)]::L)) ?_ ?_
 rcases Bool.eq_false_or_eq_true (((((decide ((((f.Kind:Nat):Int):Int) ≠ 1)) || (decide (f.ID = (GViewID.mk 0 0)))) && (((decide ((((f.Kind:Nat):Int):Int) = 2)) || (decide ((((f.Kind:Nat):Int):Int) = 5))) || (decide ((((f.Set:Nat):Int):Int) = 0)))) && ((decide ((((f.Kind:Nat):Int):Int) = 1)) || (decide (f.Cur = (GViewID.mk 0 0))))) && (((decide ((((f.Kind:Nat):Int):Int) = 1)) || (decide ((((f.Kind:Nat):Int):Int) = 4))) || (decide (f.Prom = (GViewID.mk 0 0))))) with hc112 | hc112
 have hp112:(((((((f.Kind:Nat):Int):Int) ≠ 1) ∨ (f.ID = (GViewID.mk 0 0)))∧((((((f.Kind:Nat):Int):Int) = 2) ∨ ((((f.Kind:Nat):Int):Int) = 5)) ∨ ((((f.Set:Nat):Int):Int) = 0)))∧(((((f.Kind:Nat):Int):Int) = 1) ∨ (f.Cur = (GViewID.mk 0 0))))∧((((((f.Kind:Nat):Int):Int) = 1) ∨ ((((f.Kind:Nat):Int):Int) = 4)) ∨ (f.Prom = (GViewID.mk 0 0))):=((J_and (J_and (J_and (J_or decide_eq_true_iff decide_eq_true_iff) (J_or (J_or decide_eq_true_iff decide_eq_true_iff) decide_eq_true_iff)) (J_or decide_eq_true_iff decide_eq_true_iff)) (J_or (J_or decide_eq_true_iff decide_eq_true_iff) decide_eq_true_iff))).1 hc112
 refine g_yes (yk 64 true rfl rfl hc112) ?_
 refine st (v:=.int .u8 ((f.Kind:Nat):Int)) (x_move (.tmp rfl hρ109)) ?_
 refine g_yes (yk 64 true rfl rfl hc112) ?_
 refine st (v:=.bool (decide ((((f.Kind:Nat):Int):Int) = 3))) (x_eql (k:=.u8) (a:=((f.Kind:Nat):Int)) (b:=3) (.tmp rfl rfl) .const) ?_
 refine g_yes (yk 64 true rfl rfl hc112) ?_
 refine st (v:=.bool (decide ((((f.Kind:Nat):Int):Int) = 3))) (x_move (.tmp rfl rfl)) ?_
 refine jw 3 (fun ρ w => ρ 70 = .bool ((decide ((((f.Kind:Nat):Int):Int) = 3)) || (decide ((((f.Kind:Nat):Int):Int) = 5)))∧ρ 1 = .pointer (some ⟨g29,0,none⟩)∧ρ 3 = .int .u8 ((f.Kind:Nat):Int)∧ρ 6 = .bool ((decide ((((f.Kind:Nat):Int):Int) = 6)) || (decide ((((f.Kind:Nat):Int):Int) = 7)))∧ρ 64 = .bool true∧St H w (obj g46 24 [.int .u64 0,.int .i64 0]::obj g29 30 [.int .u8 ((f.Kind:Nat):Int),.int .i64 f.From,.int .u64 ((f.ID.N:Nat):Int),.int .i64 f.ID.P,.int .u16 ((f.Set:Nat):Int),.int .u64 ((f.Cur.N:Nat):Int),.int .i64 f.Cur.P,.int .u64 ((f.Prom.N:Nat):Int),.int .i64 f.Prom.P,.slice A14 n15 c16,.int .u64 ((f.Base:Nat):Int),.slice A19 n20 c21,.slice A23 n24 c25,.int .u64 ((f.Ack:Nat):Int),.int .u64 ((f.Safe:Nat):Int)]::L)) ?_ ?_
 rcases Bool.eq_false_or_eq_true (decide ((((f.Kind:Nat):Int):Int) = 3)) with hc113 | hc113
 have hp113:(((f.Kind:Nat):Int):Int) = 3:=of_decide_eq_true hc113
 refine g_no (yk 67 true rfl rfl hc113) rfl ?_
 refine g_no (yk 67 true rfl rfl hc113) rfl ?_
 refine g_yes (yk 64 true rfl rfl hc112) ?_
 refine st (v:=.bool true) (x_pick_t (.tmp rfl (cVb hc113)) .const) ?_
 exact jw_end ⟨(cVb (jor_t hc113)),hρ108,hρ109,hρ110,(cVb hc112),hs111⟩
 have hp113:¬ ((((f.Kind:Nat):Int):Int) = 3):=of_decide_eq_false hc113
 refine g_yes (yk 67 false rfl rfl hc113) ?_
 refine st (v:=.int .u8 ((f.Kind:Nat):Int)) (x_move (.tmp rfl hρ109)) ?_
 refine g_yes (yk 67 false rfl rfl hc113) ?_
 refine st (v:=.bool (decide ((((f.Kind:Nat):Int):Int) = 5))) (x_eql (k:=.u8) (a:=((f.Kind:Nat):Int)) (b:=5) (.tmp rfl rfl) .const) ?_
 refine g_yes (yk 64 true rfl rfl hc112) ?_
 refine st (v:=.bool (decide ((((f.Kind:Nat):Int):Int) = 5))) (x_pick_f (.tmp rfl (cVb hc113)) (.tmp rfl rfl)) ?_
 exact jw_end ⟨(cVb (jor_f hc113)),hρ108,hρ109,hρ110,(cVb hc112),hs111⟩
 rintro ρ w ⟨hρ114,hρ115,hρ116,hρ117,hρ118,hs119⟩
 refine g_yes (yl (dj:=64) (b:=true) rfl rfl hρ118) ?_
 refine st (v:=.bool ((decide ((((f.Kind:Nat):Int):Int) = 3)) || (decide ((((f.Kind:Nat):Int):Int) = 5)))) (x_move (.tmp rfl hρ114)) ?_
 refine jw 5 (fun ρ w => ρ 76 = .bool (((decide ((((f.Kind:Nat):Int):Int) = 3)) || (decide ((((f.Kind:Nat):Int):Int) = 5))) || (decide ((((n15:Nat):Int):Int) = 0)))∧ρ 1 = .pointer (some ⟨g29,0,none⟩)∧ρ 3 = .int .u8 ((f.Kind:Nat):Int)∧ρ 6 = .bool ((decide ((((f.Kind:Nat):Int):Int) = 6)) || (decide ((((f.Kind:Nat):Int):Int) = 7)))∧ρ 64 = .bool true∧St H w (obj g46 24 [.int .u64 0,.int .i64 0]::obj g29 30 [.int .u8 ((f.Kind:Nat):Int),.int .i64 f.From,.int .u64 ((f.ID.N:Nat):Int),.int .i64 f.ID.P,.int .u16 ((f.Set:Nat):Int),.int .u64 ((f.Cur.N:Nat):Int),.int .i64 f.Cur.P,.int .u64 ((f.Prom.N:Nat):Int),.int .i64 f.Prom.P,.slice A14 n15 c16,.int .u64 ((f.Base:Nat):Int),.slice A19 n20 c21,.slice A23 n24 c25,.int .u64 ((f.Ack:Nat):Int),.int .u64 ((f.Safe:Nat):Int)]::L)) ?_ ?_
 rcases Bool.eq_false_or_eq_true ((decide ((((f.Kind:Nat):Int):Int) = 3)) || (decide ((((f.Kind:Nat):Int):Int) = 5))) with hc120 | hc120
 have hp120:((((f.Kind:Nat):Int):Int) = 3) ∨ ((((f.Kind:Nat):Int):Int) = 5):=((J_or decide_eq_true_iff decide_eq_true_iff)).1 hc120
 refine g_no (yk 71 true rfl rfl hc120) rfl ?_
 refine g_no (yk 71 true rfl rfl hc120) rfl ?_
 refine g_no (yk 71 true rfl rfl hc120) rfl ?_
 refine g_no (yk 71 true rfl rfl hc120) rfl ?_
 refine g_yes (yl (dj:=64) (b:=true) rfl rfl hρ118) ?_
 refine st (v:=.bool true) (x_pick_t (.tmp rfl (cVb hc120)) .const) ?_
 exact jw_end ⟨(cVb (jor_t hc120)),hρ115,hρ116,hρ117,hρ118,hs119⟩
 have hp120:¬ (((((f.Kind:Nat):Int):Int) = 3) ∨ ((((f.Kind:Nat):Int):Int) = 5)):=J_no (J_or decide_eq_true_iff decide_eq_true_iff) hc120
 refine g_yes (yk 71 false rfl rfl hc120) ?_
 refine st (v:=.pointer (some ⟨g29,0 + 9,none⟩)) (fa30_6 (.tmp rfl hρ115)) ?_
 refine g_yes (yk 71 false rfl rfl hc120) ?_
 refine st (v:=.slice A14 n15 c16) (ld26 (.tmp rfl rfl) (hs119.cell 1 rfl (0 + 9) rfl)) ?_
 refine g_yes (yk 71 false rfl rfl hc120) ?_
 refine st (v:=.int .i64 ((n15:Nat):Int)) (x_len (n:=n15) Try.underlying26 (.tmp rfl rfl)) ?_
 refine g_yes (yk 71 false rfl rfl hc120) ?_
 refine st (v:=.bool (decide ((((n15:Nat):Int):Int) = 0))) (x_eql (k:=.i64) (a:=((n15:Nat):Int)) (b:=0) (.tmp rfl rfl) .const) ?_
 refine g_yes (yl (dj:=64) (b:=true) rfl rfl hρ118) ?_
 refine st (v:=.bool (decide ((((n15:Nat):Int):Int) = 0))) (x_pick_f (.tmp rfl (cVb hc120)) (.tmp rfl rfl)) ?_
 exact jw_end ⟨(cVb (jor_f hc120)),hρ115,hρ116,hρ117,hρ118,hs119⟩
 rintro ρ w ⟨hρ121,hρ122,hρ123,hρ124,hρ125,hs126⟩
 refine st (v:=.bool (((decide ((((f.Kind:Nat):Int):Int) = 3)) || (decide ((((f.Kind:Nat):Int):Int) = 5))) || (decide ((((n15:Nat):Int):Int) = 0)))) (x_pick_t (.tmp rfl hρ125) (.tmp rfl hρ121)) ?_
 exact jw_end ⟨(cVb (jand_t hc112)),hρ122,hρ123,hρ124,hs126⟩
 have hp112:¬ ((((((((f.Kind:Nat):Int):Int) ≠ 1) ∨ (f.ID = (GViewID.mk 0 0)))∧((((((f.Kind:Nat):Int):Int) = 2) ∨ ((((f.Kind:Nat):Int):Int) = 5)) ∨ ((((f.Set:Nat):Int):Int) = 0)))∧(((((f.Kind:Nat):Int):Int) = 1) ∨ (f.Cur = (GViewID.mk 0 0))))∧((((((f.Kind:Nat):Int):Int) = 1) ∨ ((((f.Kind:Nat):Int):Int) = 4)) ∨ (f.Prom = (GViewID.mk 0 0)))):=J_no (J_and (J_and (J_and (J_or decide_eq_true_iff decide_eq_true_iff) (J_or (J_or decide_eq_true_iff decide_eq_true_iff) decide_eq_true_iff)) (J_or decide_eq_true_iff decide_eq_true_iff)) (J_or (J_or decide_eq_true_iff decide_eq_true_iff) decide_eq_true_iff)) hc112
 refine g_no (yk 64 false rfl rfl hc112) rfl ?_
 refine g_no (yk 64 false rfl rfl hc112) rfl ?_
 refine g_no (yk 64 false rfl rfl hc112) rfl ?_
 refine g_no0 (yn (dj:=67) rfl rfl) ?_
 refine g_no0 (yn (dj:=67) rfl rfl) ?_
 refine g_no (yk 64 false rfl rfl hc112) rfl ?_
 refine g_no (yk 64 false rfl rfl hc112) rfl ?_
 refine g_no0 (yn (dj:=71) rfl rfl) ?_
 refine g_no0 (yn (dj:=71) rfl rfl) ?_
 refine g_no0 (yn (dj:=71) rfl rfl) ?_
 refine g_no0 (yn (dj:=71) rfl rfl) ?_
 refine g_no (yk 64 false rfl rfl hc112) rfl ?_
 refine st (v:=.bool false) (x_pick_f (.tmp rfl (cVb hc112)) .const) ?_
 exact jw_end ⟨(cVb (jand_f hc112)),hρ108,hρ109,hρ110,hs111⟩
 rintro ρ w ⟨hρ127,hρ128,hρ129,hρ130,hs131⟩
 refine st (v:=.bool ((((((decide ((((f.Kind:Nat):Int):Int) ≠ 1)) || (decide (f.ID = (GViewID.mk 0 0)))) && (((decide ((((f.Kind:Nat):Int):Int) = 2)) || (decide ((((f.Kind:Nat):Int):Int) = 5))) || (decide ((((f.Set:Nat):Int):Int) = 0)))) && ((decide ((((f.Kind:Nat):Int):Int) = 1)) || (decide (f.Cur = (GViewID.mk 0 0))))) && (((decide ((((f.Kind:Nat):Int):Int) = 1)) || (decide ((((f.Kind:Nat):Int):Int) = 4))) || (decide (f.Prom = (GViewID.mk 0 0))))) && (((decide ((((f.Kind:Nat):Int):Int) = 3)) || (decide ((((f.Kind:Nat):Int):Int) = 5))) || (decide ((((n15:Nat):Int):Int) = 0))))) (x_move (.tmp rfl hρ127)) ?_
 refine jw 12 (fun ρ w => ρ 90 = .bool (((((((decide ((((f.Kind:Nat):Int):Int) ≠ 1)) || (decide (f.ID = (GViewID.mk 0 0)))) && (((decide ((((f.Kind:Nat):Int):Int) = 2)) || (decide ((((f.Kind:Nat):Int):Int) = 5))) || (decide ((((f.Set:Nat):Int):Int) = 0)))) && ((decide ((((f.Kind:Nat):Int):Int) = 1)) || (decide (f.Cur = (GViewID.mk 0 0))))) && (((decide ((((f.Kind:Nat):Int):Int) = 1)) || (decide ((((f.Kind:Nat):Int):Int) = 4))) || (decide (f.Prom = (GViewID.mk 0 0))))) && (((decide ((((f.Kind:Nat):Int):Int) = 3)) || (decide ((((f.Kind:Nat):Int):Int) = 5))) || (decide ((((n15:Nat):Int):Int) = 0)))) && (((decide ((((f.Kind:Nat):Int):Int) = 6)) || (decide ((((f.Kind:Nat):Int):Int) = 7))) || ((decide ((((f.Base:Nat):Int):Int) = 0)) && (decide ((((f.Ack:Nat):Int):Int) = 0)))))∧ρ 1 = .pointer (some ⟨g29,0,none⟩)∧ρ 3 = .int .u8 ((f.Kind:Nat):Int)∧St H w (obj g46 24 [.int .u64 0,.int .i64 0]::obj g29 30 [.int .u8 ((f.Kind:Nat):Int),.int .i64 f.From,.int .u64 ((f.ID.N:Nat):Int),.int .i64 f.ID.P,.int .u16 ((f.Set:Nat):Int),.int .u64 ((f.Cur.N:Nat):Int),.int .i64 f.Cur.P,.int .u64 ((f.Prom.N:Nat):Int),.int .i64 f.Prom.P,.slice A14 n15 c16,.int .u64 ((f.Base:Nat):Int),.slice A19 n20 c21,.slice A23 n24 c25,.int .u64 ((f.Ack:Nat):Int),.int .u64 ((f.Safe:Nat):Int)]::L)) ?_ ?_
 rcases Bool.eq_false_or_eq_true ((((((decide ((((f.Kind:Nat):Int):Int) ≠ 1)) || (decide (f.ID = (GViewID.mk 0 0)))) && (((decide ((((f.Kind:Nat):Int):Int) = 2)) || (decide ((((f.Kind:Nat):Int):Int) = 5))) || (decide ((((f.Set:Nat):Int):Int) = 0)))) && ((decide ((((f.Kind:Nat):Int):Int) = 1)) || (decide (f.Cur = (GViewID.mk 0 0))))) && (((decide ((((f.Kind:Nat):Int):Int) = 1)) || (decide ((((f.Kind:Nat):Int):Int) = 4))) || (decide (f.Prom = (GViewID.mk 0 0))))) && (((decide ((((f.Kind:Nat):Int):Int) = 3)) || (decide ((((f.Kind:Nat):Int):Int) = 5))) || (decide ((((n15:Nat):Int):Int) = 0)))) with hc132 | hc132
 have hp132:((((((((f.Kind:Nat):Int):Int) ≠ 1) ∨ (f.ID = (GViewID.mk 0 0)))∧((((((f.Kind:Nat):Int):Int) = 2) ∨ ((((f.Kind:Nat):Int):Int) = 5)) ∨ ((((f.Set:Nat):Int):Int) = 0)))∧(((((f.Kind:Nat):Int):Int) = 1) ∨ (f.Cur = (GViewID.mk 0 0))))∧((((((f.Kind:Nat):Int):Int) = 1) ∨ ((((f.Kind:Nat):Int):Int) = 4)) ∨ (f.Prom = (GViewID.mk 0 0))))∧((((((f.Kind:Nat):Int):Int) = 3) ∨ ((((f.Kind:Nat):Int):Int) = 5)) ∨ ((((n15:Nat):Int):Int) = 0)):=((J_and (J_and (J_and (J_and (J_or decide_eq_true_iff decide_eq_true_iff) (J_or (J_or decide_eq_true_iff decide_eq_true_iff) decide_eq_true_iff)) (J_or decide_eq_true_iff decide_eq_true_iff)) (J_or (J_or decide_eq_true_iff decide_eq_true_iff) decide_eq_true_iff)) (J_or (J_or decide_eq_true_iff decide_eq_true_iff) decide_eq_true_iff))).1 hc132
 refine g_yes (yk 78 true rfl rfl hc132) ?_
 refine st (v:=.bool ((decide ((((f.Kind:Nat):Int):Int) = 6)) || (decide ((((f.Kind:Nat):Int):Int) = 7)))) (x_move (.tmp rfl hρ130)) ?_
 refine g_yes (yk 78 true rfl rfl hc132) ?_
 refine st (v:=.bool ((decide ((((f.Kind:Nat):Int):Int) = 6)) || (decide ((((f.Kind:Nat):Int):Int) = 7)))) (x_move (.tmp rfl rfl)) ?_
 refine jw 9 (fun ρ w => ρ 89 = .bool (((decide ((((f.Kind:Nat):Int):Int) = 6)) || (decide ((((f.Kind:Nat):Int):Int) = 7))) || ((decide ((((f.Base:Nat):Int):Int) = 0)) && (decide ((((f.Ack:Nat):Int):Int) = 0))))∧ρ 1 = .pointer (some ⟨g29,0,none⟩)∧ρ 3 = .int .u8 ((f.Kind:Nat):Int)∧ρ 78 = .bool true∧St H w (obj g46 24 [.int .u64 0,.int .i64 0]::obj g29 30 [.int .u8 ((f.Kind:Nat):Int),.int .i64 f.From,.int .u64 ((f.ID.N:Nat):Int),.int .i64 f.ID.P,.int .u16 ((f.Set:Nat):Int),.int .u64 ((f.Cur.N:Nat):Int),.int .i64 f.Cur.P,.int .u64 ((f.Prom.N:Nat):Int),.int .i64 f.Prom.P,.slice A14 n15 c16,.int .u64 ((f.Base:Nat):Int),.slice A19 n20 c21,.slice A23 n24 c25,.int .u64 ((f.Ack:Nat):Int),.int .u64 ((f.Safe:Nat):Int)]::L)) ?_ ?_
 rcases Bool.eq_false_or_eq_true ((decide ((((f.Kind:Nat):Int):Int) = 6)) || (decide ((((f.Kind:Nat):Int):Int) = 7))) with hc133 | hc133
 have hp133:((((f.Kind:Nat):Int):Int) = 6) ∨ ((((f.Kind:Nat):Int):Int) = 7):=((J_or decide_eq_true_iff decide_eq_true_iff)).1 hc133
 refine g_no (yk 80 true rfl rfl hc133) rfl ?_
 refine g_no (yk 80 true rfl rfl hc133) rfl ?_
 refine g_no (yk 80 true rfl rfl hc133) rfl ?_
 refine g_no (yk 80 true rfl rfl hc133) rfl ?_
 refine g_no0 (yn (dj:=84) rfl rfl) ?_
 refine g_no0 (yn (dj:=84) rfl rfl) ?_
 refine g_no0 (yn (dj:=84) rfl rfl) ?_
 refine g_no (yk 80 true rfl rfl hc133) rfl ?_
 refine g_yes (yk 78 true rfl rfl hc132) ?_
 refine st (v:=.bool true) (x_pick_t (.tmp rfl (cVb hc133)) .const) ?_
 exact jw_end ⟨(cVb (jor_t hc133)),hρ128,hρ129,(cVb hc132),hs131⟩
 have hp133:¬ (((((f.Kind:Nat):Int):Int) = 6) ∨ ((((f.Kind:Nat):Int):Int) = 7)):=J_no (J_or decide_eq_true_iff decide_eq_true_iff) hc133
 refine g_yes (yk 80 false rfl rfl hc133) ?_
 refine st (v:=.pointer (some ⟨g29,0 + 10,none⟩)) (fa30_7 (.tmp rfl hρ128)) ?_
 refine g_yes (yk 80 false rfl rfl hc133) ?_
 refine st (v:=.int .u64 ((f.Base:Nat):Int)) (ld22 (.tmp rfl rfl) (hs131.cell 1 rfl (0 + 10) rfl)) ?_
 refine g_yes (yk 80 false rfl rfl hc133) ?_
 refine st (v:=.bool (decide ((((f.Base:Nat):Int):Int) = 0))) (x_eql (k:=.u64) (a:=((f.Base:Nat):Int)) (b:=0) (.tmp rfl rfl) .const) ?_
 refine g_yes (yk 80 false rfl rfl hc133) ?_
 refine st (v:=.bool (decide ((((f.Base:Nat):Int):Int) = 0))) (x_move (.tmp rfl rfl)) ?_
 refine jw 4 (fun ρ w => ρ 88 = .bool ((decide ((((f.Base:Nat):Int):Int) = 0)) && (decide ((((f.Ack:Nat):Int):Int) = 0)))∧ρ 1 = .pointer (some ⟨g29,0,none⟩)∧ρ 3 = .int .u8 ((f.Kind:Nat):Int)∧ρ 78 = .bool true∧ρ 80 = .bool false∧St H w (obj g46 24 [.int .u64 0,.int .i64 0]::obj g29 30 [.int .u8 ((f.Kind:Nat):Int),.int .i64 f.From,.int .u64 ((f.ID.N:Nat):Int),.int .i64 f.ID.P,.int .u16 ((f.Set:Nat):Int),.int .u64 ((f.Cur.N:Nat):Int),.int .i64 f.Cur.P,.int .u64 ((f.Prom.N:Nat):Int),.int .i64 f.Prom.P,.slice A14 n15 c16,.int .u64 ((f.Base:Nat):Int),.slice A19 n20 c21,.slice A23 n24 c25,.int .u64 ((f.Ack:Nat):Int),.int .u64 ((f.Safe:Nat):Int)]::L)) ?_ ?_
 rcases Bool.eq_false_or_eq_true (decide ((((f.Base:Nat):Int):Int) = 0)) with hc134 | hc134
 have hp134:(((f.Base:Nat):Int):Int) = 0:=of_decide_eq_true hc134
 refine g_yes (yk 84 true rfl rfl hc134) ?_
 refine st (v:=.pointer (some ⟨g29,0 + 13,none⟩)) (fa30_10 (.tmp rfl hρ128)) ?_
 refine g_yes (yk 84 true rfl rfl hc134) ?_
 refine st (v:=.int .u64 ((f.Ack:Nat):Int)) (ld22 (.tmp rfl rfl) (hs131.cell 1 rfl (0 + 13) rfl)) ?_
 refine g_yes (yk 84 true rfl rfl hc134) ?_
 refine st (v:=.bool (decide ((((f.Ack:Nat):Int):Int) = 0))) (x_eql (k:=.u64) (a:=((f.Ack:Nat):Int)) (b:=0) (.tmp rfl rfl) .const) ?_
 refine g_yes (yk 80 false rfl rfl hc133) ?_
 refine st (v:=.bool (decide ((((f.Ack:Nat):Int):Int) = 0))) (x_pick_t (.tmp rfl (cVb hc134)) (.tmp rfl rfl)) ?_
 exact jw_end ⟨(cVb (jand_t hc134)),hρ128,hρ129,(cVb hc132),(cVb hc133),hs131⟩
 have hp134:¬ ((((f.Base:Nat):Int):Int) = 0):=of_decide_eq_false hc134
 refine g_no (yk 84 false rfl rfl hc134) rfl ?_
 refine g_no (yk 84 false rfl rfl hc134) rfl ?_
 refine g_no (yk 84 false rfl rfl hc134) rfl ?_
 refine g_yes (yk 80 false rfl rfl hc133) ?_
 refine st (v:=.bool false) (x_pick_f (.tmp rfl (cVb hc134)) .const) ?_
 exact jw_end ⟨(cVb (jand_f hc134)),hρ128,hρ129,(cVb hc132),(cVb hc133),hs131⟩
 rintro ρ w ⟨hρ135,hρ136,hρ137,hρ138,hρ139,hs140⟩
 refine g_yes (yl (dj:=78) (b:=true) rfl rfl hρ138) ?_
 refine st (v:=.bool ((decide ((((f.Base:Nat):Int):Int) = 0)) && (decide ((((f.Ack:Nat):Int):Int) = 0)))) (x_pick_f (.tmp rfl hρ139) (.tmp rfl hρ135)) ?_
 exact jw_end ⟨(cVb (jor_f hc133)),hρ136,hρ137,hρ138,hs140⟩
 rintro ρ w ⟨hρ141,hρ142,hρ143,hρ144,hs145⟩
 refine st (v:=.bool (((decide ((((f.Kind:Nat):Int):Int) = 6)) || (decide ((((f.Kind:Nat):Int):Int) = 7))) || ((decide ((((f.Base:Nat):Int):Int) = 0)) && (decide ((((f.Ack:Nat):Int):Int) = 0))))) (x_pick_t (.tmp rfl hρ144) (.tmp rfl hρ141)) ?_
 exact jw_end ⟨(cVb (jand_t hc132)),hρ142,hρ143,hs145⟩
 have hp132:¬ (((((((((f.Kind:Nat):Int):Int) ≠ 1) ∨ (f.ID = (GViewID.mk 0 0)))∧((((((f.Kind:Nat):Int):Int) = 2) ∨ ((((f.Kind:Nat):Int):Int) = 5)) ∨ ((((f.Set:Nat):Int):Int) = 0)))∧(((((f.Kind:Nat):Int):Int) = 1) ∨ (f.Cur = (GViewID.mk 0 0))))∧((((((f.Kind:Nat):Int):Int) = 1) ∨ ((((f.Kind:Nat):Int):Int) = 4)) ∨ (f.Prom = (GViewID.mk 0 0))))∧((((((f.Kind:Nat):Int):Int) = 3) ∨ ((((f.Kind:Nat):Int):Int) = 5)) ∨ ((((n15:Nat):Int):Int) = 0))):=J_no (J_and (J_and (J_and (J_and (J_or decide_eq_true_iff decide_eq_true_iff) (J_or (J_or decide_eq_true_iff decide_eq_true_iff) decide_eq_true_iff)) (J_or decide_eq_true_iff decide_eq_true_iff)) (J_or (J_or decide_eq_true_iff decide_eq_true_iff) decide_eq_true_iff)) (J_or (J_or decide_eq_true_iff decide_eq_true_iff) decide_eq_true_iff)) hc132
 refine g_no (yk 78 false rfl rfl hc132) rfl ?_
 refine g_no (yk 78 false rfl rfl hc132) rfl ?_
 refine g_no0 (yn (dj:=80) rfl rfl) ?_
 refine g_no0 (yn (dj:=80) rfl rfl) ?_
 refine g_no0 (yn (dj:=80) rfl rfl) ?_
 refine g_no0 (yn (dj:=80) rfl rfl) ?_
 refine g_no0 (yn (dj:=84) rfl rfl) ?_
 refine g_no0 (yn (dj:=84) rfl rfl) ?_
 refine g_no0 (yn (dj:=84) rfl rfl) ?_
 refine g_no0 (yn (dj:=80) rfl rfl) ?_
 refine g_no (yk 78 false rfl rfl hc132) rfl ?_
 refine st (v:=.bool false) (x_pick_f (.tmp rfl (cVb hc132)) .const) ?_
 exact jw_end ⟨(cVb (jand_f hc132)),hρ128,hρ129,hs131⟩
 rintro ρ w ⟨hρ146,hρ147,hρ148,hs149⟩
 refine st (v:=.bool (((((((decide ((((f.Kind:Nat):Int):Int) ≠ 1)) || (decide (f.ID = (GViewID.mk 0 0)))) && (((decide ((((f.Kind:Nat):Int):Int) = 2)) || (decide ((((f.Kind:Nat):Int):Int) = 5))) || (decide ((((f.Set:Nat):Int):Int) = 0)))) && ((decide ((((f.Kind:Nat):Int):Int) = 1)) || (decide (f.Cur = (GViewID.mk 0 0))))) && (((decide ((((f.Kind:Nat):Int):Int) = 1)) || (decide ((((f.Kind:Nat):Int):Int) = 4))) || (decide (f.Prom = (GViewID.mk 0 0))))) && (((decide ((((f.Kind:Nat):Int):Int) = 3)) || (decide ((((f.Kind:Nat):Int):Int) = 5))) || (decide ((((n15:Nat):Int):Int) = 0)))) && (((decide ((((f.Kind:Nat):Int):Int) = 6)) || (decide ((((f.Kind:Nat):Int):Int) = 7))) || ((decide ((((f.Base:Nat):Int):Int) = 0)) && (decide ((((f.Ack:Nat):Int):Int) = 0)))))) (x_move (.tmp rfl hρ146)) ?_
 refine jw 9 (fun ρ w => ρ 100 = .bool ((((((((decide ((((f.Kind:Nat):Int):Int) ≠ 1)) || (decide (f.ID = (GViewID.mk 0 0)))) && (((decide ((((f.Kind:Nat):Int):Int) = 2)) || (decide ((((f.Kind:Nat):Int):Int) = 5))) || (decide ((((f.Set:Nat):Int):Int) = 0)))) && ((decide ((((f.Kind:Nat):Int):Int) = 1)) || (decide (f.Cur = (GViewID.mk 0 0))))) && (((decide ((((f.Kind:Nat):Int):Int) = 1)) || (decide ((((f.Kind:Nat):Int):Int) = 4))) || (decide (f.Prom = (GViewID.mk 0 0))))) && (((decide ((((f.Kind:Nat):Int):Int) = 3)) || (decide ((((f.Kind:Nat):Int):Int) = 5))) || (decide ((((n15:Nat):Int):Int) = 0)))) && (((decide ((((f.Kind:Nat):Int):Int) = 6)) || (decide ((((f.Kind:Nat):Int):Int) = 7))) || ((decide ((((f.Base:Nat):Int):Int) = 0)) && (decide ((((f.Ack:Nat):Int):Int) = 0))))) && ((decide ((((f.Kind:Nat):Int):Int) = 6)) || (decide ((((n20:Nat):Int):Int) = 0))))∧ρ 1 = .pointer (some ⟨g29,0,none⟩)∧ρ 3 = .int .u8 ((f.Kind:Nat):Int)∧St H w (obj g46 24 [.int .u64 0,.int .i64 0]::obj g29 30 [.int .u8 ((f.Kind:Nat):Int),.int .i64 f.From,.int .u64 ((f.ID.N:Nat):Int),.int .i64 f.ID.P,.int .u16 ((f.Set:Nat):Int),.int .u64 ((f.Cur.N:Nat):Int),.int .i64 f.Cur.P,.int .u64 ((f.Prom.N:Nat):Int),.int .i64 f.Prom.P,.slice A14 n15 c16,.int .u64 ((f.Base:Nat):Int),.slice A19 n20 c21,.slice A23 n24 c25,.int .u64 ((f.Ack:Nat):Int),.int .u64 ((f.Safe:Nat):Int)]::L)) ?_ ?_
 rcases Bool.eq_false_or_eq_true (((((((decide ((((f.Kind:Nat):Int):Int) ≠ 1)) || (decide (f.ID = (GViewID.mk 0 0)))) && (((decide ((((f.Kind:Nat):Int):Int) = 2)) || (decide ((((f.Kind:Nat):Int):Int) = 5))) || (decide ((((f.Set:Nat):Int):Int) = 0)))) && ((decide ((((f.Kind:Nat):Int):Int) = 1)) || (decide (f.Cur = (GViewID.mk 0 0))))) && (((decide ((((f.Kind:Nat):Int):Int) = 1)) || (decide ((((f.Kind:Nat):Int):Int) = 4))) || (decide (f.Prom = (GViewID.mk 0 0))))) && (((decide ((((f.Kind:Nat):Int):Int) = 3)) || (decide ((((f.Kind:Nat):Int):Int) = 5))) || (decide ((((n15:Nat):Int):Int) = 0)))) && (((decide ((((f.Kind:Nat):Int):Int) = 6)) || (decide ((((f.Kind:Nat):Int):Int) = 7))) || ((decide ((((f.Base:Nat):Int):Int) = 0)) && (decide ((((f.Ack:Nat):Int):Int) = 0))))) with hc150 | hc150
 have hp150:(((((((((f.Kind:Nat):Int):Int) ≠ 1) ∨ (f.ID = (GViewID.mk 0 0)))∧((((((f.Kind:Nat):Int):Int) = 2) ∨ ((((f.Kind:Nat):Int):Int) = 5)) ∨ ((((f.Set:Nat):Int):Int) = 0)))∧(((((f.Kind:Nat):Int):Int) = 1) ∨ (f.Cur = (GViewID.mk 0 0))))∧((((((f.Kind:Nat):Int):Int) = 1) ∨ ((((f.Kind:Nat):Int):Int) = 4)) ∨ (f.Prom = (GViewID.mk 0 0))))∧((((((f.Kind:Nat):Int):Int) = 3) ∨ ((((f.Kind:Nat):Int):Int) = 5)) ∨ ((((n15:Nat):Int):Int) = 0)))∧((((((f.Kind:Nat):Int):Int) = 6) ∨ ((((f.Kind:Nat):Int):Int) = 7)) ∨ (((((f.Base:Nat):Int):Int) = 0)∧((((f.Ack:Nat):Int):Int) = 0))):=((J_and (J_and (J_and (J_and (J_and (J_or decide_eq_true_iff decide_eq_true_iff) (J_or (J_or decide_eq_true_iff decide_eq_true_iff) decide_eq_true_iff)) (J_or decide_eq_true_iff decide_eq_true_iff)) (J_or (J_or decide_eq_true_iff decide_eq_true_iff) decide_eq_true_iff)) (J_or (J_or decide_eq_true_iff decide_eq_true_iff) decide_eq_true_iff)) (J_or (J_or decide_eq_true_iff decide_eq_true_iff) (J_and decide_eq_true_iff decide_eq_true_iff)))).1 hc150
 refine g_yes (yk 91 true rfl rfl hc150) ?_
 refine st (v:=.int .u8 ((f.Kind:Nat):Int)) (x_move (.tmp rfl hρ148)) ?_
 refine g_yes (yk 91 true rfl rfl hc150) ?_
 refine st (v:=.bool (decide ((((f.Kind:Nat):Int):Int) = 6))) (x_eql (k:=.u8) (a:=((f.Kind:Nat):Int)) (b:=6) (.tmp rfl rfl) .const) ?_
 refine g_yes (yk 91 true rfl rfl hc150) ?_
 refine st (v:=.bool (decide ((((f.Kind:Nat):Int):Int) = 6))) (x_move (.tmp rfl rfl)) ?_
 refine jw 5 (fun ρ w => ρ 99 = .bool ((decide ((((f.Kind:Nat):Int):Int) = 6)) || (decide ((((n20:Nat):Int):Int) = 0)))∧ρ 1 = .pointer (some ⟨g29,0,none⟩)∧ρ 3 = .int .u8 ((f.Kind:Nat):Int)∧ρ 91 = .bool true∧St H w (obj g46 24 [.int .u64 0,.int .i64 0]::obj g29 30 [.int .u8 ((f.Kind:Nat):Int),.int .i64 f.From,.int .u64 ((f.ID.N:Nat):Int),.int .i64 f.ID.P,.int .u16 ((f.Set:Nat):Int),.int .u64 ((f.Cur.N:Nat):Int),.int .i64 f.Cur.P,.int .u64 ((f.Prom.N:Nat):Int),.int .i64 f.Prom.P,.slice A14 n15 c16,.int .u64 ((f.Base:Nat):Int),.slice A19 n20 c21,.slice A23 n24 c25,.int .u64 ((f.Ack:Nat):Int),.int .u64 ((f.Safe:Nat):Int)]::L)) ?_ ?_
 rcases Bool.eq_false_or_eq_true (decide ((((f.Kind:Nat):Int):Int) = 6)) with hc151 | hc151
 have hp151:(((f.Kind:Nat):Int):Int) = 6:=of_decide_eq_true hc151
 refine g_no (yk 94 true rfl rfl hc151) rfl ?_
 refine g_no (yk 94 true rfl rfl hc151) rfl ?_
 refine g_no (yk 94 true rfl rfl hc151) rfl ?_
 refine g_no (yk 94 true rfl rfl hc151) rfl ?_
 refine g_yes (yk 91 true rfl rfl hc150) ?_
 refine st (v:=.bool true) (x_pick_t (.tmp rfl (cVb hc151)) .const) ?_
 exact jw_end ⟨(cVb (jor_t hc151)),hρ147,hρ148,(cVb hc150),hs149⟩
 have hp151:¬ ((((f.Kind:Nat):Int):Int) = 6):=of_decide_eq_false hc151
 refine g_yes (yk 94 false rfl rfl hc151) ?_
 refine st (v:=.pointer (some ⟨g29,0 + 11,none⟩)) (fa30_8 (.tmp rfl hρ147)) ?_
 refine g_yes (yk 94 false rfl rfl hc151) ?_
 refine st (v:=.slice A19 n20 c21) (ld27 (.tmp rfl rfl) (hs149.cell 1 rfl (0 + 11) rfl)) ?_
 refine g_yes (yk 94 false rfl rfl hc151) ?_
 refine st (v:=.int .i64 ((n20:Nat):Int)) (x_len (n:=n20) Try.underlying27 (.tmp rfl rfl)) ?_
 refine g_yes (yk 94 false rfl rfl hc151) ?_
 refine st (v:=.bool (decide ((((n20:Nat):Int):Int) = 0))) (x_eql (k:=.i64) (a:=((n20:Nat):Int)) (b:=0) (.tmp rfl rfl) .const) ?_
 refine g_yes (yk 91 true rfl rfl hc150) ?_
 refine st (v:=.bool (decide ((((n20:Nat):Int):Int) = 0))) (x_pick_f (.tmp rfl (cVb hc151)) (.tmp rfl rfl)) ?_
 exact jw_end ⟨(cVb (jor_f hc151)),hρ147,hρ148,(cVb hc150),hs149⟩
 rintro ρ w ⟨hρ152,hρ153,hρ154,hρ155,hs156⟩
 refine st (v:=.bool ((decide ((((f.Kind:Nat):Int):Int) = 6)) || (decide ((((n20:Nat):Int):Int) = 0)))) (x_pick_t (.tmp rfl hρ155) (.tmp rfl hρ152)) ?_
 exact jw_end ⟨(cVb (jand_t hc150)),hρ153,hρ154,hs156⟩
 have hp150:¬ ((((((((((f.Kind:Nat):Int):Int) ≠ 1) ∨ (f.ID = (GViewID.mk 0 0)))∧((((((f.Kind:Nat):Int):Int) = 2) ∨ ((((f.Kind:Nat):Int):Int) = 5)) ∨ ((((f.Set:Nat):Int):Int) = 0)))∧(((((f.Kind:Nat):Int):Int) = 1) ∨ (f.Cur = (GViewID.mk 0 0))))∧((((((f.Kind:Nat):Int):Int) = 1) ∨ ((((f.Kind:Nat):Int):Int) = 4)) ∨ (f.Prom = (GViewID.mk 0 0))))∧((((((f.Kind:Nat):Int):Int) = 3) ∨ ((((f.Kind:Nat):Int):Int) = 5)) ∨ ((((n15:Nat):Int):Int) = 0)))∧((((((f.Kind:Nat):Int):Int) = 6) ∨ ((((f.Kind:Nat):Int):Int) = 7)) ∨ (((((f.Base:Nat):Int):Int) = 0)∧((((f.Ack:Nat):Int):Int) = 0)))):=J_no (J_and (J_and (J_and (J_and (J_and (J_or decide_eq_true_iff decide_eq_true_iff) (J_or (J_or decide_eq_true_iff decide_eq_true_iff) decide_eq_true_iff)) (J_or decide_eq_true_iff decide_eq_true_iff)) (J_or (J_or decide_eq_true_iff decide_eq_true_iff) decide_eq_true_iff)) (J_or (J_or decide_eq_true_iff decide_eq_true_iff) decide_eq_true_iff)) (J_or (J_or decide_eq_true_iff decide_eq_true_iff) (J_and decide_eq_true_iff decide_eq_true_iff))) hc150
 refine g_no (yk 91 false rfl rfl hc150) rfl ?_
 refine g_no (yk 91 false rfl rfl hc150) rfl ?_
 refine g_no (yk 91 false rfl rfl hc150) rfl ?_
 refine g_no0 (yn (dj:=94) rfl rfl) ?_
 refine g_no0 (yn (dj:=94) rfl rfl) ?_
 refine g_no0 (yn (dj:=94) rfl rfl) ?_
 refine g_no0 (yn (dj:=94) rfl rfl) ?_
 refine g_no (yk 91 false rfl rfl hc150) rfl ?_
 refine st (v:=.bool false) (x_pick_f (.tmp rfl (cVb hc150)) .const) ?_
 exact jw_end ⟨(cVb (jand_f hc150)),hρ147,hρ148,hs149⟩
 rintro ρ w ⟨hρ157,hρ158,hρ159,hs160⟩
 refine st (v:=.bool ((((((((decide ((((f.Kind:Nat):Int):Int) ≠ 1)) || (decide (f.ID = (GViewID.mk 0 0)))) && (((decide ((((f.Kind:Nat):Int):Int) = 2)) || (decide ((((f.Kind:Nat):Int):Int) = 5))) || (decide ((((f.Set:Nat):Int):Int) = 0)))) && ((decide ((((f.Kind:Nat):Int):Int) = 1)) || (decide (f.Cur = (GViewID.mk 0 0))))) && (((decide ((((f.Kind:Nat):Int):Int) = 1)) || (decide ((((f.Kind:Nat):Int):Int) = 4))) || (decide (f.Prom = (GViewID.mk 0 0))))) && (((decide ((((f.Kind:Nat):Int):Int) = 3)) || (decide ((((f.Kind:Nat):Int):Int) = 5))) || (decide ((((n15:Nat):Int):Int) = 0)))) && (((decide ((((f.Kind:Nat):Int):Int) = 6)) || (decide ((((f.Kind:Nat):Int):Int) = 7))) || ((decide ((((f.Base:Nat):Int):Int) = 0)) && (decide ((((f.Ack:Nat):Int):Int) = 0))))) && ((decide ((((f.Kind:Nat):Int):Int) = 6)) || (decide ((((n20:Nat):Int):Int) = 0))))) (x_move (.tmp rfl hρ157)) ?_
 refine jw 14 (fun ρ w => ρ 115 = .bool (((((((((decide ((((f.Kind:Nat):Int):Int) ≠ 1)) || (decide (f.ID = (GViewID.mk 0 0)))) && (((decide ((((f.Kind:Nat):Int):Int) = 2)) || (decide ((((f.Kind:Nat):Int):Int) = 5))) || (decide ((((f.Set:Nat):Int):Int) = 0)))) && ((decide ((((f.Kind:Nat):Int):Int) = 1)) || (decide (f.Cur = (GViewID.mk 0 0))))) && (((decide ((((f.Kind:Nat):Int):Int) = 1)) || (decide ((((f.Kind:Nat):Int):Int) = 4))) || (decide (f.Prom = (GViewID.mk 0 0))))) && (((decide ((((f.Kind:Nat):Int):Int) = 3)) || (decide ((((f.Kind:Nat):Int):Int) = 5))) || (decide ((((n15:Nat):Int):Int) = 0)))) && (((decide ((((f.Kind:Nat):Int):Int) = 6)) || (decide ((((f.Kind:Nat):Int):Int) = 7))) || ((decide ((((f.Base:Nat):Int):Int) = 0)) && (decide ((((f.Ack:Nat):Int):Int) = 0))))) && ((decide ((((f.Kind:Nat):Int):Int) = 6)) || (decide ((((n20:Nat):Int):Int) = 0)))) && ((decide ((((f.Kind:Nat):Int):Int) = 7)) || ((decide ((((n24:Nat):Int):Int) = 0)) && (decide ((((f.Safe:Nat):Int):Int) = 0)))))∧St H w (obj g46 24 [.int .u64 0,.int .i64 0]::obj g29 30 [.int .u8 ((f.Kind:Nat):Int),.int .i64 f.From,.int .u64 ((f.ID.N:Nat):Int),.int .i64 f.ID.P,.int .u16 ((f.Set:Nat):Int),.int .u64 ((f.Cur.N:Nat):Int),.int .i64 f.Cur.P,.int .u64 ((f.Prom.N:Nat):Int),.int .i64 f.Prom.P,.slice A14 n15 c16,.int .u64 ((f.Base:Nat):Int),.slice A19 n20 c21,.slice A23 n24 c25,.int .u64 ((f.Ack:Nat):Int),.int .u64 ((f.Safe:Nat):Int)]::L)) ?_ ?_
 rcases Bool.eq_false_or_eq_true ((((((((decide ((((f.Kind:Nat):Int):Int) ≠ 1)) || (decide (f.ID = (GViewID.mk 0 0)))) && (((decide ((((f.Kind:Nat):Int):Int) = 2)) || (decide ((((f.Kind:Nat):Int):Int) = 5))) || (decide ((((f.Set:Nat):Int):Int) = 0)))) && ((decide ((((f.Kind:Nat):Int):Int) = 1)) || (decide (f.Cur = (GViewID.mk 0 0))))) && (((decide ((((f.Kind:Nat):Int):Int) = 1)) || (decide ((((f.Kind:Nat):Int):Int) = 4))) || (decide (f.Prom = (GViewID.mk 0 0))))) && (((decide ((((f.Kind:Nat):Int):Int) = 3)) || (decide ((((f.Kind:Nat):Int):Int) = 5))) || (decide ((((n15:Nat):Int):Int) = 0)))) && (((decide ((((f.Kind:Nat):Int):Int) = 6)) || (decide ((((f.Kind:Nat):Int):Int) = 7))) || ((decide ((((f.Base:Nat):Int):Int) = 0)) && (decide ((((f.Ack:Nat):Int):Int) = 0))))) && ((decide ((((f.Kind:Nat):Int):Int) = 6)) || (decide ((((n20:Nat):Int):Int) = 0)))) with hc161 | hc161
 have hp161:((((((((((f.Kind:Nat):Int):Int) ≠ 1) ∨ (f.ID = (GViewID.mk 0 0)))∧((((((f.Kind:Nat):Int):Int) = 2) ∨ ((((f.Kind:Nat):Int):Int) = 5)) ∨ ((((f.Set:Nat):Int):Int) = 0)))∧(((((f.Kind:Nat):Int):Int) = 1) ∨ (f.Cur = (GViewID.mk 0 0))))∧((((((f.Kind:Nat):Int):Int) = 1) ∨ ((((f.Kind:Nat):Int):Int) = 4)) ∨ (f.Prom = (GViewID.mk 0 0))))∧((((((f.Kind:Nat):Int):Int) = 3) ∨ ((((f.Kind:Nat):Int):Int) = 5)) ∨ ((((n15:Nat):Int):Int) = 0)))∧((((((f.Kind:Nat):Int):Int) = 6) ∨ ((((f.Kind:Nat):Int):Int) = 7)) ∨ (((((f.Base:Nat):Int):Int) = 0)∧((((f.Ack:Nat):Int):Int) = 0))))∧(((((f.Kind:Nat):Int):Int) = 6) ∨ ((((n20:Nat):Int):Int) = 0)):=((J_and (J_and (J_and (J_and (J_and (J_and (J_or decide_eq_true_iff decide_eq_true_iff) (J_or (J_or decide_eq_true_iff decide_eq_true_iff) decide_eq_true_iff)) (J_or decide_eq_true_iff decide_eq_true_iff)) (J_or (J_or decide_eq_true_iff decide_eq_true_iff) decide_eq_true_iff)) (J_or (J_or decide_eq_true_iff decide_eq_true_iff) decide_eq_true_iff)) (J_or (J_or decide_eq_true_iff decide_eq_true_iff) (J_and decide_eq_true_iff decide_eq_true_iff))) (J_or decide_eq_true_iff decide_eq_true_iff))).1 hc161
 refine g_yes (yk 101 true rfl rfl hc161) ?_
 refine st (v:=.int .u8 ((f.Kind:Nat):Int)) (x_move (.tmp rfl hρ159)) ?_
 refine g_yes (yk 101 true rfl rfl hc161) ?_
 refine st (v:=.bool (decide ((((f.Kind:Nat):Int):Int) = 7))) (x_eql (k:=.u8) (a:=((f.Kind:Nat):Int)) (b:=7) (.tmp rfl rfl) .const) ?_
 refine g_yes (yk 101 true rfl rfl hc161) ?_
 refine st (v:=.bool (decide ((((f.Kind:Nat):Int):Int) = 7))) (x_move (.tmp rfl rfl)) ?_
 refine jw 10 (fun ρ w => ρ 114 = .bool ((decide ((((f.Kind:Nat):Int):Int) = 7)) || ((decide ((((n24:Nat):Int):Int) = 0)) && (decide ((((f.Safe:Nat):Int):Int) = 0))))∧ρ 101 = .bool true∧St H w (obj g46 24 [.int .u64 0,.int .i64 0]::obj g29 30 [.int .u8 ((f.Kind:Nat):Int),.int .i64 f.From,.int .u64 ((f.ID.N:Nat):Int),.int .i64 f.ID.P,.int .u16 ((f.Set:Nat):Int),.int .u64 ((f.Cur.N:Nat):Int),.int .i64 f.Cur.P,.int .u64 ((f.Prom.N:Nat):Int),.int .i64 f.Prom.P,.slice A14 n15 c16,.int .u64 ((f.Base:Nat):Int),.slice A19 n20 c21,.slice A23 n24 c25,.int .u64 ((f.Ack:Nat):Int),.int .u64 ((f.Safe:Nat):Int)]::L)) ?_ ?_
 rcases Bool.eq_false_or_eq_true (decide ((((f.Kind:Nat):Int):Int) = 7)) with hc162 | hc162
 have hp162:(((f.Kind:Nat):Int):Int) = 7:=of_decide_eq_true hc162
 refine g_no (yk 104 true rfl rfl hc162) rfl ?_
 refine g_no (yk 104 true rfl rfl hc162) rfl ?_
 refine g_no (yk 104 true rfl rfl hc162) rfl ?_
 refine g_no (yk 104 true rfl rfl hc162) rfl ?_
 refine g_no (yk 104 true rfl rfl hc162) rfl ?_
 refine g_no0 (yn (dj:=109) rfl rfl) ?_
 refine g_no0 (yn (dj:=109) rfl rfl) ?_
 refine g_no0 (yn (dj:=109) rfl rfl) ?_
 refine g_no (yk 104 true rfl rfl hc162) rfl ?_
 refine g_yes (yk 101 true rfl rfl hc161) ?_
 refine st (v:=.bool true) (x_pick_t (.tmp rfl (cVb hc162)) .const) ?_
 exact jw_end ⟨(cVb (jor_t hc162)),(cVb hc161),hs160⟩
 have hp162:¬ ((((f.Kind:Nat):Int):Int) = 7):=of_decide_eq_false hc162
 refine g_yes (yk 104 false rfl rfl hc162) ?_
 refine st (v:=.pointer (some ⟨g29,0 + 12,none⟩)) (fa30_9 (.tmp rfl hρ158)) ?_
 refine g_yes (yk 104 false rfl rfl hc162) ?_
 refine st (v:=.slice A23 n24 c25) (ld28 (.tmp rfl rfl) (hs160.cell 1 rfl (0 + 12) rfl)) ?_
 refine g_yes (yk 104 false rfl rfl hc162) ?_
 refine st (v:=.int .i64 ((n24:Nat):Int)) (x_len (n:=n24) Try.underlying28 (.tmp rfl rfl)) ?_
 refine g_yes (yk 104 false rfl rfl hc162) ?_
 refine st (v:=.bool (decide ((((n24:Nat):Int):Int) = 0))) (x_eql (k:=.i64) (a:=((n24:Nat):Int)) (b:=0) (.tmp rfl rfl) .const) ?_
 refine g_yes (yk 104 false rfl rfl hc162) ?_
 refine st (v:=.bool (decide ((((n24:Nat):Int):Int) = 0))) (x_move (.tmp rfl rfl)) ?_
 refine jw 4 (fun ρ w => ρ 113 = .bool ((decide ((((n24:Nat):Int):Int) = 0)) && (decide ((((f.Safe:Nat):Int):Int) = 0)))∧ρ 101 = .bool true∧ρ 104 = .bool false∧St H w (obj g46 24 [.int .u64 0,.int .i64 0]::obj g29 30 [.int .u8 ((f.Kind:Nat):Int),.int .i64 f.From,.int .u64 ((f.ID.N:Nat):Int),.int .i64 f.ID.P,.int .u16 ((f.Set:Nat):Int),.int .u64 ((f.Cur.N:Nat):Int),.int .i64 f.Cur.P,.int .u64 ((f.Prom.N:Nat):Int),.int .i64 f.Prom.P,.slice A14 n15 c16,.int .u64 ((f.Base:Nat):Int),.slice A19 n20 c21,.slice A23 n24 c25,.int .u64 ((f.Ack:Nat):Int),.int .u64 ((f.Safe:Nat):Int)]::L)) ?_ ?_
 rcases Bool.eq_false_or_eq_true (decide ((((n24:Nat):Int):Int) = 0)) with hc163 | hc163
 have hp163:(((n24:Nat):Int):Int) = 0:=of_decide_eq_true hc163
 refine g_yes (yk 109 true rfl rfl hc163) ?_
 refine st (v:=.pointer (some ⟨g29,0 + 14,none⟩)) (fa30_11 (.tmp rfl hρ158)) ?_
 refine g_yes (yk 109 true rfl rfl hc163) ?_
 refine st (v:=.int .u64 ((f.Safe:Nat):Int)) (ld22 (.tmp rfl rfl) (hs160.cell 1 rfl (0 + 14) rfl)) ?_
 refine g_yes (yk 109 true rfl rfl hc163) ?_
 refine st (v:=.bool (decide ((((f.Safe:Nat):Int):Int) = 0))) (x_eql (k:=.u64) (a:=((f.Safe:Nat):Int)) (b:=0) (.tmp rfl rfl) .const) ?_
 refine g_yes (yk 104 false rfl rfl hc162) ?_
 refine st (v:=.bool (decide ((((f.Safe:Nat):Int):Int) = 0))) (x_pick_t (.tmp rfl (cVb hc163)) (.tmp rfl rfl)) ?_
 exact jw_end ⟨(cVb (jand_t hc163)),(cVb hc161),(cVb hc162),hs160⟩
 have hp163:¬ ((((n24:Nat):Int):Int) = 0):=of_decide_eq_false hc163
 refine g_no (yk 109 false rfl rfl hc163) rfl ?_
 refine g_no (yk 109 false rfl rfl hc163) rfl ?_
 refine g_no (yk 109 false rfl rfl hc163) rfl ?_
 refine g_yes (yk 104 false rfl rfl hc162) ?_
 refine st (v:=.bool false) (x_pick_f (.tmp rfl (cVb hc163)) .const) ?_
 exact jw_end ⟨(cVb (jand_f hc163)),(cVb hc161),(cVb hc162),hs160⟩
 rintro ρ w ⟨hρ164,hρ165,hρ166,hs167⟩
 refine g_yes (yl (dj:=101) (b:=true) rfl rfl hρ165) ?_
 refine st (v:=.bool ((decide ((((n24:Nat):Int):Int) = 0)) && (decide ((((f.Safe:Nat):Int):Int) = 0)))) (x_pick_f (.tmp rfl hρ166) (.tmp rfl hρ164)) ?_
 exact jw_end ⟨(cVb (jor_f hc162)),hρ165,hs167⟩
 rintro ρ w ⟨hρ168,hρ169,hs170⟩
 refine st (v:=.bool ((decide ((((f.Kind:Nat):Int):Int) = 7)) || ((decide ((((n24:Nat):Int):Int) = 0)) && (decide ((((f.Safe:Nat):Int):Int) = 0))))) (x_pick_t (.tmp rfl hρ169) (.tmp rfl hρ168)) ?_
 exact jw_end ⟨(cVb (jand_t hc161)),hs170⟩
 have hp161:¬ (((((((((((f.Kind:Nat):Int):Int) ≠ 1) ∨ (f.ID = (GViewID.mk 0 0)))∧((((((f.Kind:Nat):Int):Int) = 2) ∨ ((((f.Kind:Nat):Int):Int) = 5)) ∨ ((((f.Set:Nat):Int):Int) = 0)))∧(((((f.Kind:Nat):Int):Int) = 1) ∨ (f.Cur = (GViewID.mk 0 0))))∧((((((f.Kind:Nat):Int):Int) = 1) ∨ ((((f.Kind:Nat):Int):Int) = 4)) ∨ (f.Prom = (GViewID.mk 0 0))))∧((((((f.Kind:Nat):Int):Int) = 3) ∨ ((((f.Kind:Nat):Int):Int) = 5)) ∨ ((((n15:Nat):Int):Int) = 0)))∧((((((f.Kind:Nat):Int):Int) = 6) ∨ ((((f.Kind:Nat):Int):Int) = 7)) ∨ (((((f.Base:Nat):Int):Int) = 0)∧((((f.Ack:Nat):Int):Int) = 0))))∧(((((f.Kind:Nat):Int):Int) = 6) ∨ ((((n20:Nat):Int):Int) = 0))):=J_no (J_and (J_and (J_and (J_and (J_and (J_and (J_or decide_eq_true_iff decide_eq_true_iff) (J_or (J_or decide_eq_true_iff decide_eq_true_iff) decide_eq_true_iff)) (J_or decide_eq_true_iff decide_eq_true_iff)) (J_or (J_or decide_eq_true_iff decide_eq_true_iff) decide_eq_true_iff)) (J_or (J_or decide_eq_true_iff decide_eq_true_iff) decide_eq_true_iff)) (J_or (J_or decide_eq_true_iff decide_eq_true_iff) (J_and decide_eq_true_iff decide_eq_true_iff))) (J_or decide_eq_true_iff decide_eq_true_iff)) hc161
 refine g_no (yk 101 false rfl rfl hc161) rfl ?_
 refine g_no (yk 101 false rfl rfl hc161) rfl ?_
 refine g_no (yk 101 false rfl rfl hc161) rfl ?_
 refine g_no0 (yn (dj:=104) rfl rfl) ?_
 refine g_no0 (yn (dj:=104) rfl rfl) ?_
 refine g_no0 (yn (dj:=104) rfl rfl) ?_
 refine g_no0 (yn (dj:=104) rfl rfl) ?_
 refine g_no0 (yn (dj:=104) rfl rfl) ?_
 refine g_no0 (yn (dj:=109) rfl rfl) ?_
 refine g_no0 (yn (dj:=109) rfl rfl) ?_
 refine g_no0 (yn (dj:=109) rfl rfl) ?_
 refine g_no0 (yn (dj:=104) rfl rfl) ?_
 refine g_no (yk 101 false rfl rfl hc161) rfl ?_
 refine st (v:=.bool false) (x_pick_f (.tmp rfl (cVb hc161)) .const) ?_
 exact jw_end ⟨(cVb (jand_f hc161)),hs160⟩
 rintro ρ w ⟨hρ171,hs172⟩
 refine st (v:=.bool (((((((((decide ((((f.Kind:Nat):Int):Int) ≠ 1)) || (decide (f.ID = (GViewID.mk 0 0)))) && (((decide ((((f.Kind:Nat):Int):Int) = 2)) || (decide ((((f.Kind:Nat):Int):Int) = 5))) || (decide ((((f.Set:Nat):Int):Int) = 0)))) && ((decide ((((f.Kind:Nat):Int):Int) = 1)) || (decide (f.Cur = (GViewID.mk 0 0))))) && (((decide ((((f.Kind:Nat):Int):Int) = 1)) || (decide ((((f.Kind:Nat):Int):Int) = 4))) || (decide (f.Prom = (GViewID.mk 0 0))))) && (((decide ((((f.Kind:Nat):Int):Int) = 3)) || (decide ((((f.Kind:Nat):Int):Int) = 5))) || (decide ((((n15:Nat):Int):Int) = 0)))) && (((decide ((((f.Kind:Nat):Int):Int) = 6)) || (decide ((((f.Kind:Nat):Int):Int) = 7))) || ((decide ((((f.Base:Nat):Int):Int) = 0)) && (decide ((((f.Ack:Nat):Int):Int) = 0))))) && ((decide ((((f.Kind:Nat):Int):Int) = 6)) || (decide ((((n20:Nat):Int):Int) = 0)))) && ((decide ((((f.Kind:Nat):Int):Int) = 7)) || ((decide ((((n24:Nat):Int):Int) = 0)) && (decide ((((f.Safe:Nat):Int):Int) = 0)))))) (x_assign (.tmp rfl hρ171)) ?_
 refine c_nil (n_then (c_ret (leave_ret (res_one (v:=.bool (((((((((decide ((((f.Kind:Nat):Int):Int) ≠ 1)) || (decide (f.ID = (GViewID.mk 0 0)))) && (((decide ((((f.Kind:Nat):Int):Int) = 2)) || (decide ((((f.Kind:Nat):Int):Int) = 5))) || (decide ((((f.Set:Nat):Int):Int) = 0)))) && ((decide ((((f.Kind:Nat):Int):Int) = 1)) || (decide (f.Cur = (GViewID.mk 0 0))))) && (((decide ((((f.Kind:Nat):Int):Int) = 1)) || (decide ((((f.Kind:Nat):Int):Int) = 4))) || (decide (f.Prom = (GViewID.mk 0 0))))) && (((decide ((((f.Kind:Nat):Int):Int) = 3)) || (decide ((((f.Kind:Nat):Int):Int) = 5))) || (decide ((((n15:Nat):Int):Int) = 0)))) && (((decide ((((f.Kind:Nat):Int):Int) = 6)) || (decide ((((f.Kind:Nat):Int):Int) = 7))) || ((decide ((((f.Base:Nat):Int):Int) = 0)) && (decide ((((f.Ack:Nat):Int):Int) = 0))))) && ((decide ((((f.Kind:Nat):Int):Int) = 6)) || (decide ((((n20:Nat):Int):Int) = 0)))) && ((decide ((((f.Kind:Nat):Int):Int) = 7)) || ((decide ((((n24:Nat):Int):Int) = 0)) && (decide ((((f.Safe:Nat):Int):Int) = 0)))))) rfl (.mk rfl rfl)) ?_)))
 have hans173:(bareF f) = (((((((((decide ((((f.Kind:Nat):Int):Int) ≠ 1)) || (decide (f.ID = (GViewID.mk 0 0)))) && (((decide ((((f.Kind:Nat):Int):Int) = 2)) || (decide ((((f.Kind:Nat):Int):Int) = 5))) || (decide ((((f.Set:Nat):Int):Int) = 0)))) && ((decide ((((f.Kind:Nat):Int):Int) = 1)) || (decide (f.Cur = (GViewID.mk 0 0))))) && (((decide ((((f.Kind:Nat):Int):Int) = 1)) || (decide ((((f.Kind:Nat):Int):Int) = 4))) || (decide (f.Prom = (GViewID.mk 0 0))))) && (((decide ((((f.Kind:Nat):Int):Int) = 3)) || (decide ((((f.Kind:Nat):Int):Int) = 5))) || (decide ((((n15:Nat):Int):Int) = 0)))) && (((decide ((((f.Kind:Nat):Int):Int) = 6)) || (decide ((((f.Kind:Nat):Int):Int) = 7))) || ((decide ((((f.Base:Nat):Int):Int) = 0)) && (decide ((((f.Ack:Nat):Int):Int) = 0))))) && ((decide ((((f.Kind:Nat):Int):Int) = 6)) || (decide ((((n20:Nat):Int):Int) = 0)))) && ((decide ((((f.Kind:Nat):Int):Int) = 7)) || ((decide ((((n24:Nat):Int):Int) = 0)) && (decide ((((f.Safe:Nat):Int):Int) = 0))))):=Bool.eq_iff_iff.2 (decide_eq_true_iff.trans (Iff.trans (by unfold BareP; simp only [vid0]; omega) ((J_and (J_and (J_and (J_and (J_and (J_and (J_and (J_or decide_eq_true_iff decide_eq_true_iff) (J_or (J_or decide_eq_true_iff decide_eq_true_iff) decide_eq_true_iff)) (J_or decide_eq_true_iff decide_eq_true_iff)) (J_or (J_or decide_eq_true_iff decide_eq_true_iff) decide_eq_true_iff)) (J_or (J_or decide_eq_true_iff decide_eq_true_iff) decide_eq_true_iff)) (J_or (J_or decide_eq_true_iff decide_eq_true_iff) (J_and decide_eq_true_iff decide_eq_true_iff))) (J_or decide_eq_true_iff decide_eq_true_iff)) (J_or decide_eq_true_iff (J_and decide_eq_true_iff decide_eq_true_iff)))).symm))
 rw [hans173]
 exact ⟨rfl,hs172.drop.drop⟩
end Go.Proofs.Ytlfihfmmhhcigaa
