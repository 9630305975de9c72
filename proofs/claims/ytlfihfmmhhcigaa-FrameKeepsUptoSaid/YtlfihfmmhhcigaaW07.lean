/- Steps of the proofs over the functions of this seat, printed by a program (gen.py) and checked by Lean. -/
import Derived.Test.YtlfihfmmhhcigaaW02
import Derived.Test.YtlfihfmmhhcigaaW00
import Derived.Test.YtlfihfmmhhcigaaW01
import Derived.Test.YtlfihfmmhhcigaaW06
set_option linter.unusedVariables false
set_option linter.unusedSimpArgs false
namespace Go.Proofs.Ytlfihfmmhhcigaa
open Go Go.FM Go.Proofs
attribute [local irreducible] wpList wpQuiet wpS Code.wp Calls
set_option maxHeartbeats 8000000 in
theorem encode_spec {H:Hp} {w:World} {L:List Res} (hs:St H w (L)) (f:GFrame) {k_f:List Value} (h_f:kFrame.rep H f k_f) (hroom:bigF f ≤ 1000000000):Calls Try.prog 13 #[.agg k_f.toArray] w (fun e w' => ∃ (H':Hp) (v0:Value),H.le H'∧e = .returned (.tuple #[v0,.int .i64 ((encC f).2)])∧Small ((encC f).1)∧RowOk 1 v0 ((encC f).1).length (((encC f).1).map encB)∧St H' w' (row 5 1 v0 ((encC f).1).length (((encC f).1).map encB)::L)):=by
 obtain ⟨A14,n15,c16,A19,n20,c21,A23,n24,c25,rfl,b1,⟨b2,b3⟩,b4,⟨b5,b6⟩,b7,b8,⟨b9,b10⟩,b11,⟨b12,b13⟩,hl17,b18,hl22,hl26,b27,b28⟩:=h_f
 have:=hl17.len; have:n15 * 48 ≤ 140737488351232:=hl17.bnd; have:=hl17.le
 have:=hl22.len; have:n20 * 24 ≤ 140737488351232:=hl22.bnd; have:=hl22.le
 have:=hl26.len; have:n24 * 32 ≤ 140737488351232:=hl26.bnd; have:=hl26.le
 refine enter (args:=[.agg #[.int .u8 ((f.Kind:Nat):Int),.int .i64 f.From,.int .u64 ((f.ID.N:Nat):Int),.int .i64 f.ID.P,.int .u16 ((f.Set:Nat):Int),.int .u64 ((f.Cur.N:Nat):Int),.int .i64 f.Cur.P,.int .u64 ((f.Prom.N:Nat):Int),.int .i64 f.Prom.P,.slice A14 n15 c16,.int .u64 ((f.Base:Nat):Int),.slice A19 n20 c21,.slice A23 n24 c25,.int .u64 ((f.Ack:Nat):Int),.int .u64 ((f.Safe:Nat):Int)]]) (N:=192) Try.func13 rfl rfl rfl ?_
 have hbig:=hroom
 unfold bigF at hbig
 have huSet:=uenc_len10 (show f.Set < 18446744073709551616 by omega)
 have huBase:=uenc_len10 (show f.Base < 18446744073709551616 by omega)
 have huAck:=uenc_len10 (show f.Ack < 18446744073709551616 by omega)
 have huSafe:=uenc_len10 (show f.Safe < 18446744073709551616 by omega)
 have huM:=uenc_len10 (show f.Msgs.length < 18446744073709551616 by omega)
 have hmt:=msgsE_len f.Msgs
 refine c_seq (c_region (st_m (m_box (cs:=[.int .u8 ((f.Kind:Nat):Int),.int .i64 f.From,.int .u64 ((f.ID.N:Nat):Int),.int .i64 f.ID.P,.int .u16 ((f.Set:Nat):Int),.int .u64 ((f.Cur.N:Nat):Int),.int .i64 f.Cur.P,.int .u64 ((f.Prom.N:Nat):Int),.int .i64 f.Prom.P,.slice A14 n15 c16,.int .u64 ((f.Base:Nat):Int),.slice A19 n20 c21,.slice A23 n24 c25,.int .u64 ((f.Ack:Nat):Int),.int .u64 ((f.Safe:Nat):Int)]) hs (v:=.agg #[.int .u8 ((f.Kind:Nat):Int),.int .i64 f.From,.int .u64 ((f.ID.N:Nat):Int),.int .i64 f.ID.P,.int .u16 ((f.Set:Nat):Int),.int .u64 ((f.Cur.N:Nat):Int),.int .i64 f.Cur.P,.int .u64 ((f.Prom.N:Nat):Int),.int .i64 f.Prom.P,.slice A14 n15 c16,.int .u64 ((f.Base:Nat):Int),.slice A19 n20 c21,.slice A23 n24 c25,.int .u64 ((f.Ack:Nat):Int),.int .u64 ((f.Safe:Nat):Int)]) (.tmp rfl rfl) rfl) ?_))
 rintro _ w30 ⟨g29,rfl,hs32⟩
 refine st (v:=.slice none 0 0) (x_assign .const) ?_
 refine st (v:=.int .i64 0) (x_assign .const) ?_
 refine c_nil (n_then (c_seq (c_seq (c_region (st (v:=.pointer (some ⟨g29,0 + 1,none⟩)) (fa30_1 (.tmp rfl rfl)) ?_)))))
 refine st (v:=.int .i64 f.From) (ld3 (.tmp rfl rfl) (hs32.cell 0 rfl (0 + 1) rfl)) ?_
 refine st (v:=.bool (decide ((f.From:Int) < 0))) (x_lss (k:=.i64) (a:=f.From) (b:=0) (.tmp rfl rfl) .const) ?_
 refine st (v:=.bool (decide ((f.From:Int) < 0))) (x_move (.tmp rfl rfl)) ?_
 refine jw 4 (fun ρ w => ρ 14 = .bool ((decide ((f.From:Int) < 0)) || (decide ((16:Int) ≤ f.From)))∧ρ 1 = .pointer (some ⟨g29,0,none⟩)∧St H w (obj g29 30 [.int .u8 ((f.Kind:Nat):Int),.int .i64 f.From,.int .u64 ((f.ID.N:Nat):Int),.int .i64 f.ID.P,.int .u16 ((f.Set:Nat):Int),.int .u64 ((f.Cur.N:Nat):Int),.int .i64 f.Cur.P,.int .u64 ((f.Prom.N:Nat):Int),.int .i64 f.Prom.P,.slice A14 n15 c16,.int .u64 ((f.Base:Nat):Int),.slice A19 n20 c21,.slice A23 n24 c25,.int .u64 ((f.Ack:Nat):Int),.int .u64 ((f.Safe:Nat):Int)]::L)) ?_ ?_
 rcases Bool.eq_false_or_eq_true (decide ((f.From:Int) < 0)) with hc33 | hc33
 have hp33:(f.From:Int) < 0:=of_decide_eq_true hc33
 refine g_no (yk 10 true rfl rfl hc33) rfl ?_
 refine g_no (yk 10 true rfl rfl hc33) rfl ?_
 refine g_no (yk 10 true rfl rfl hc33) rfl ?_
 refine st (v:=.bool true) (x_pick_t (.tmp rfl (cVb hc33)) .const) ?_
 exact jw_end ⟨(cVb (jor_t hc33)),rfl,hs32⟩
 have hp33:¬ ((f.From:Int) < 0):=of_decide_eq_false hc33
 refine g_yes (yk 10 false rfl rfl hc33) ?_
 refine st (v:=.pointer (some ⟨g29,0 + 1,none⟩)) (fa30_1 (.tmp rfl rfl)) ?_
 refine g_yes (yk 10 false rfl rfl hc33) ?_
 refine st (v:=.int .i64 f.From) (ld3 (.tmp rfl rfl) (hs32.cell 0 rfl (0 + 1) rfl)) ?_
 refine g_yes (yk 10 false rfl rfl hc33) ?_
 refine st (v:=.bool (decide ((16:Int) ≤ f.From))) (x_geq (k:=.i64) (a:=f.From) (b:=16) (.tmp rfl rfl) .const) ?_
 refine st (v:=.bool (decide ((16:Int) ≤ f.From))) (x_pick_f (.tmp rfl (cVb hc33)) (.tmp rfl rfl)) ?_
 exact jw_end ⟨(cVb (jor_f hc33)),rfl,hs32⟩
 rintro ρ w ⟨hρ34,hρ35,hs36⟩
 refine st (v:=.bool ((decide ((f.From:Int) < 0)) || (decide ((16:Int) ≤ f.From)))) (x_move (.tmp rfl hρ34)) ?_
 refine jw 4 (fun ρ w => ρ 19 = .bool (((decide ((f.From:Int) < 0)) || (decide ((16:Int) ≤ f.From))) || (decide ((((f.Kind:Nat):Int):Int) < 1)))∧ρ 1 = .pointer (some ⟨g29,0,none⟩)∧St H w (obj g29 30 [.int .u8 ((f.Kind:Nat):Int),.int .i64 f.From,.int .u64 ((f.ID.N:Nat):Int),.int .i64 f.ID.P,.int .u16 ((f.Set:Nat):Int),.int .u64 ((f.Cur.N:Nat):Int),.int .i64 f.Cur.P,.int .u64 ((f.Prom.N:Nat):Int),.int .i64 f.Prom.P,.slice A14 n15 c16,.int .u64 ((f.Base:Nat):Int),.slice A19 n20 c21,.slice A23 n24 c25,.int .u64 ((f.Ack:Nat):Int),.int .u64 ((f.Safe:Nat):Int)]::L)) ?_ ?_
 rcases Bool.eq_false_or_eq_true ((decide ((f.From:Int) < 0)) || (decide ((16:Int) ≤ f.From))) with hc37 | hc37
 have hp37:((f.From:Int) < 0) ∨ ((16:Int) ≤ f.From):=((J_or decide_eq_true_iff decide_eq_true_iff)).1 hc37
 refine g_no (yk 15 true rfl rfl hc37) rfl ?_
 refine g_no (yk 15 true rfl rfl hc37) rfl ?_
 refine g_no (yk 15 true rfl rfl hc37) rfl ?_
 refine st (v:=.bool true) (x_pick_t (.tmp rfl (cVb hc37)) .const) ?_
 exact jw_end ⟨(cVb (jor_t hc37)),hρ35,hs36⟩
 have hp37:¬ (((f.From:Int) < 0) ∨ ((16:Int) ≤ f.From)):=J_no (J_or decide_eq_true_iff decide_eq_true_iff) hc37
 refine g_yes (yk 15 false rfl rfl hc37) ?_
 refine st (v:=.pointer (some ⟨g29,0 + 0,none⟩)) (fa30_0 (.tmp rfl hρ35)) ?_
 refine g_yes (yk 15 false rfl rfl hc37) ?_
 refine st (v:=.int .u8 ((f.Kind:Nat):Int)) (ld5 (.tmp rfl rfl) (hs36.cell 0 rfl (0 + 0) rfl)) ?_
 refine g_yes (yk 15 false rfl rfl hc37) ?_
 refine st (v:=.bool (decide ((((f.Kind:Nat):Int):Int) < 1))) (x_lss (k:=.u8) (a:=((f.Kind:Nat):Int)) (b:=1) (.tmp rfl rfl) .const) ?_
 refine st (v:=.bool (decide ((((f.Kind:Nat):Int):Int) < 1))) (x_pick_f (.tmp rfl (cVb hc37)) (.tmp rfl rfl)) ?_
 exact jw_end ⟨(cVb (jor_f hc37)),hρ35,hs36⟩
 rintro ρ w ⟨hρ38,hρ39,hs40⟩
 refine st (v:=.bool (((decide ((f.From:Int) < 0)) || (decide ((16:Int) ≤ f.From))) || (decide ((((f.Kind:Nat):Int):Int) < 1)))) (x_move (.tmp rfl hρ38)) ?_
 refine jw 4 (fun ρ w => ρ 24 = .bool ((((decide ((f.From:Int) < 0)) || (decide ((16:Int) ≤ f.From))) || (decide ((((f.Kind:Nat):Int):Int) < 1))) || (decide ((7:Int) < ((f.Kind:Nat):Int))))∧ρ 1 = .pointer (some ⟨g29,0,none⟩)∧St H w (obj g29 30 [.int .u8 ((f.Kind:Nat):Int),.int .i64 f.From,.int .u64 ((f.ID.N:Nat):Int),.int .i64 f.ID.P,.int .u16 ((f.Set:Nat):Int),.int .u64 ((f.Cur.N:Nat):Int),.int .i64 f.Cur.P,.int .u64 ((f.Prom.N:Nat):Int),.int .i64 f.Prom.P,.slice A14 n15 c16,.int .u64 ((f.Base:Nat):Int),.slice A19 n20 c21,.slice A23 n24 c25,.int .u64 ((f.Ack:Nat):Int),.int .u64 ((f.Safe:Nat):Int)]::L)) ?_ ?_
 rcases Bool.eq_false_or_eq_true (((decide ((f.From:Int) < 0)) || (decide ((16:Int) ≤ f.From))) || (decide ((((f.Kind:Nat):Int):Int) < 1))) with hc41 | hc41
 have hp41:(((f.From:Int) < 0) ∨ ((16:Int) ≤ f.From)) ∨ ((((f.Kind:Nat):Int):Int) < 1):=((J_or (J_or decide_eq_true_iff decide_eq_true_iff) decide_eq_true_iff)).1 hc41
 refine g_no (yk 20 true rfl rfl hc41) rfl ?_
 refine g_no (yk 20 true rfl rfl hc41) rfl ?_
 refine g_no (yk 20 true rfl rfl hc41) rfl ?_
 refine st (v:=.bool true) (x_pick_t (.tmp rfl (cVb hc41)) .const) ?_
 exact jw_end ⟨(cVb (jor_t hc41)),hρ39,hs40⟩
 have hp41:¬ ((((f.From:Int) < 0) ∨ ((16:Int) ≤ f.From)) ∨ ((((f.Kind:Nat):Int):Int) < 1)):=J_no (J_or (J_or decide_eq_true_iff decide_eq_true_iff) decide_eq_true_iff) hc41
 refine g_yes (yk 20 false rfl rfl hc41) ?_
 refine st (v:=.pointer (some ⟨g29,0 + 0,none⟩)) (fa30_0 (.tmp rfl hρ39)) ?_
 refine g_yes (yk 20 false rfl rfl hc41) ?_
 refine st (v:=.int .u8 ((f.Kind:Nat):Int)) (ld5 (.tmp rfl rfl) (hs40.cell 0 rfl (0 + 0) rfl)) ?_
 refine g_yes (yk 20 false rfl rfl hc41) ?_
 refine st (v:=.bool (decide ((7:Int) < ((f.Kind:Nat):Int)))) (x_gtr (k:=.u8) (a:=((f.Kind:Nat):Int)) (b:=7) (.tmp rfl rfl) .const) ?_
 refine st (v:=.bool (decide ((7:Int) < ((f.Kind:Nat):Int)))) (x_pick_f (.tmp rfl (cVb hc41)) (.tmp rfl rfl)) ?_
 exact jw_end ⟨(cVb (jor_f hc41)),hρ39,hs40⟩
 rintro ρ w ⟨hρ42,hρ43,hs44⟩
 refine st (v:=.bool ((((decide ((f.From:Int) < 0)) || (decide ((16:Int) ≤ f.From))) || (decide ((((f.Kind:Nat):Int):Int) < 1))) || (decide ((7:Int) < ((f.Kind:Nat):Int))))) (x_move (.tmp rfl hρ42)) ?_
 refine jw 4 (fun ρ w => ρ 29 = .bool (((((decide ((f.From:Int) < 0)) || (decide ((16:Int) ≤ f.From))) || (decide ((((f.Kind:Nat):Int):Int) < 1))) || (decide ((7:Int) < ((f.Kind:Nat):Int)))) || (!(bareF f)))∧ρ 1 = .pointer (some ⟨g29,0,none⟩)∧St H w (obj g29 30 [.int .u8 ((f.Kind:Nat):Int),.int .i64 f.From,.int .u64 ((f.ID.N:Nat):Int),.int .i64 f.ID.P,.int .u16 ((f.Set:Nat):Int),.int .u64 ((f.Cur.N:Nat):Int),.int .i64 f.Cur.P,.int .u64 ((f.Prom.N:Nat):Int),.int .i64 f.Prom.P,.slice A14 n15 c16,.int .u64 ((f.Base:Nat):Int),.slice A19 n20 c21,.slice A23 n24 c25,.int .u64 ((f.Ack:Nat):Int),.int .u64 ((f.Safe:Nat):Int)]::L)) ?_ ?_
 rcases Bool.eq_false_or_eq_true ((((decide ((f.From:Int) < 0)) || (decide ((16:Int) ≤ f.From))) || (decide ((((f.Kind:Nat):Int):Int) < 1))) || (decide ((7:Int) < ((f.Kind:Nat):Int)))) with hc45 | hc45
 have hp45:((((f.From:Int) < 0) ∨ ((16:Int) ≤ f.From)) ∨ ((((f.Kind:Nat):Int):Int) < 1)) ∨ ((7:Int) < ((f.Kind:Nat):Int)):=((J_or (J_or (J_or decide_eq_true_iff decide_eq_true_iff) decide_eq_true_iff) decide_eq_true_iff)).1 hc45
 refine g_no (yk 25 true rfl rfl hc45) rfl ?_
 refine g_no (yk 25 true rfl rfl hc45) rfl ?_
 refine g_no (yk 25 true rfl rfl hc45) rfl ?_
 refine st (v:=.bool true) (x_pick_t (.tmp rfl (cVb hc45)) .const) ?_
 exact jw_end ⟨(cVb (jor_t hc45)),hρ43,hs44⟩
 have hp45:¬ (((((f.From:Int) < 0) ∨ ((16:Int) ≤ f.From)) ∨ ((((f.Kind:Nat):Int):Int) < 1)) ∨ ((7:Int) < ((f.Kind:Nat):Int))):=J_no (J_or (J_or (J_or decide_eq_true_iff decide_eq_true_iff) decide_eq_true_iff) decide_eq_true_iff) hc45
 refine g_yes (yk 25 false rfl rfl hc45) ?_
 refine st (v:=.agg #[.int .u8 ((f.Kind:Nat):Int),.int .i64 f.From,.int .u64 ((f.ID.N:Nat):Int),.int .i64 f.ID.P,.int .u16 ((f.Set:Nat):Int),.int .u64 ((f.Cur.N:Nat):Int),.int .i64 f.Cur.P,.int .u64 ((f.Prom.N:Nat):Int),.int .i64 f.Prom.P,.slice A14 n15 c16,.int .u64 ((f.Base:Nat):Int),.slice A19 n20 c21,.slice A23 n24 c25,.int .u64 ((f.Ack:Nat):Int),.int .u64 ((f.Safe:Nat):Int)]) (ld30 (cs:=[.int .u8 ((f.Kind:Nat):Int),.int .i64 f.From,.int .u64 ((f.ID.N:Nat):Int),.int .i64 f.ID.P,.int .u16 ((f.Set:Nat):Int),.int .u64 ((f.Cur.N:Nat):Int),.int .i64 f.Cur.P,.int .u64 ((f.Prom.N:Nat):Int),.int .i64 f.Prom.P,.slice A14 n15 c16,.int .u64 ((f.Base:Nat):Int),.slice A19 n20 c21,.slice A23 n24 c25,.int .u64 ((f.Ack:Nat):Int),.int .u64 ((f.Safe:Nat):Int)]) (.tmp rfl hρ43) (hs44.at_ 0 rfl (0) rfl) rfl) ?_
 refine g_yes (yk 25 false rfl rfl hc45) ?_
 have hr46:kFrame.rep H f [.int .u8 ((f.Kind:Nat):Int),.int .i64 f.From,.int .u64 ((f.ID.N:Nat):Int),.int .i64 f.ID.P,.int .u16 ((f.Set:Nat):Int),.int .u64 ((f.Cur.N:Nat):Int),.int .i64 f.Cur.P,.int .u64 ((f.Prom.N:Nat):Int),.int .i64 f.Prom.P,.slice A14 n15 c16,.int .u64 ((f.Base:Nat):Int),.slice A19 n20 c21,.slice A23 n24 c25,.int .u64 ((f.Ack:Nat):Int),.int .u64 ((f.Safe:Nat):Int)]:=⟨A14,n15,c16,A19,n20,c21,A23,n24,c25,rfl,b1,⟨b2,b3⟩,b4,⟨b5,b6⟩,b7,b8,⟨b9,b10⟩,b11,⟨b12,b13⟩,hl17,b18,hl22,hl26,b27,b28⟩
 refine st_c cb22 .func (evs1 (.tmp rfl rfl)) (bare_spec hs44 f hr46 ) ?_
 rintro e w47 ⟨rfl,hs48⟩
 refine ⟨_,rfl,?_⟩
 refine g_yes (yk 25 false rfl rfl hc45) ?_
 refine st (v:=.bool (!(bareF f))) (x_not (.tmp rfl rfl)) ?_
 refine st (v:=.bool (!(bareF f))) (x_pick_f (.tmp rfl (cVb hc45)) (.tmp rfl rfl)) ?_
 exact jw_end ⟨(cVb (jor_f hc45)),hρ43,hs48⟩
 rintro ρ w ⟨hρ49,hρ50,hs51⟩
 refine c_nil (n_then ?_)
 rcases Bool.eq_false_or_eq_true (((((decide ((f.From:Int) < 0)) || (decide ((16:Int) ≤ f.From))) || (decide ((((f.Kind:Nat):Int):Int) < 1))) || (decide ((7:Int) < ((f.Kind:Nat):Int)))) || (!(bareF f))) with hc52 | hc52
 have hp52:(((((f.From:Int) < 0) ∨ ((16:Int) ≤ f.From)) ∨ ((((f.Kind:Nat):Int):Int) < 1)) ∨ ((7:Int) < ((f.Kind:Nat):Int))) ∨ (¬ ((bareF f) = true)):=((J_or (J_or (J_or (J_or decide_eq_true_iff decide_eq_true_iff) decide_eq_true_iff) decide_eq_true_iff) (J_not Iff.rfl))).1 hc52
 refine c_cond_t (t:=true) (.tmp rfl (hρ49.trans (cVb hc52))) rfl ?_
 refine c_seq (c_region (st (v:=.slice none 0 0) (x_assign .const) ?_))
 refine st (v:=.int .i64 3) (x_assign .const) ?_
 refine c_nil (n_then (c_ret (r_then (leave_ret (res_two (v:=.slice none 0 0) (u:=.int .i64 3) rfl (.mk rfl rfl) (.mk rfl rfl)) ?_))))
 have hno:formC f = false:=by rcases hp52 with h9 | h9; exact formC_head (by omega); exact formC_bare (by simpa using h9)
 rw [encC_no hno]
 have hs53:St H _ (row 5 1 (.slice none 0 0) 0 ([].map encB)::obj g29 30 [.int .u8 ((f.Kind:Nat):Int),.int .i64 f.From,.int .u64 ((f.ID.N:Nat):Int),.int .i64 f.ID.P,.int .u16 ((f.Set:Nat):Int),.int .u64 ((f.Cur.N:Nat):Int),.int .i64 f.Cur.P,.int .u64 ((f.Prom.N:Nat):Int),.int .i64 f.Prom.P,.slice A14 n15 c16,.int .u64 ((f.Base:Nat):Int),.slice A19 n20 c21,.slice A23 n24 c25,.int .u64 ((f.Ack:Nat):Int),.int .u64 ((f.Safe:Nat):Int)]::L):=hs51.rowNil 5 1
 exact ⟨H,(.slice none 0 0),(Hp.le.refl _),rfl,Small.nil,(by simpa using (RowOk.nil 1)),(hs53.p1).drop⟩
 have hp52:¬ ((((((f.From:Int) < 0) ∨ ((16:Int) ≤ f.From)) ∨ ((((f.Kind:Nat):Int):Int) < 1)) ∨ ((7:Int) < ((f.Kind:Nat):Int))) ∨ (¬ ((bareF f) = true))):=J_no (J_or (J_or (J_or (J_or decide_eq_true_iff decide_eq_true_iff) decide_eq_true_iff) decide_eq_true_iff) (J_not Iff.rfl)) hc52
 refine c_cond_f (t:=false) (.tmp rfl (hρ49.trans (cVb hc52))) rfl ?_
 refine c_skip (n_then (c_seq (c_region (st (v:=.pointer (some ⟨g29,0 + 0,none⟩)) (fa30_0 (.tmp rfl hρ50)) ?_))))
 refine st (v:=.int .u8 ((f.Kind:Nat):Int)) (ld5 (.tmp rfl rfl) (hs51.cell 0 rfl (0 + 0) rfl)) ?_
 refine st (v:=.pointer (some ⟨g29,0 + 1,none⟩)) (fa30_1 (.tmp rfl hρ50)) ?_
 refine st (v:=.int .i64 f.From) (ld3 (.tmp rfl rfl) (hs51.cell 0 rfl (0 + 1) rfl)) ?_
 refine st (v:=.int .u8 (((f.From % 256).toNat:Nat):Int)) (x_conv (k:=.i64) (a:=f.From) Try.underlying3 Try.underlying5 (.tmp rfl rfl) (wrapU _ rfl _)) ?_
 refine st_m (m_lit (n:=2) (ps:=[(0,.int .u8 ((f.Kind:Nat):Int)),(1,.int .u8 (((f.From % 256).toNat:Nat):Int))]) (cs:=[.int .u8 ((f.Kind:Nat):Int),.int .u8 (((f.From % 256).toNat:Nat):Int)]) Try.underlying33 inf5 (.cons (.tmp rfl rfl) (.cons (.tmp rfl rfl) Evp.nil)) (by decide) (by decide) rfl rfl hs51) ?_
 rintro _ w56 ⟨g55,rfl,hs58⟩
 refine st (v:=.agg #[.slice (some ⟨g55,0,none⟩) 2 2,.bool false]) (bl58 (ps:=[(0,.slice (some ⟨g55,0,none⟩) 2 2)]) (.cons (.tmp rfl rfl) Evp.nil) rfl) ?_
 refine st_m (m_box (cs:=[.slice (some ⟨g55,0,none⟩) 2 2,.bool false]) hs58 (v:=.agg #[.slice (some ⟨g55,0,none⟩) 2 2,.bool false]) (.tmp rfl rfl) rfl) ?_
 rintro _ w60 ⟨g59,rfl,hs62⟩
 refine st (v:=.pointer (some ⟨g59,0,none⟩)) (x_assign (.tmp rfl rfl)) ?_
 refine c_nil (n_then (c_seq (c_seq (c_region ?_))))
 have hba:bareF f = true:=Classical.not_not.1 (not_or.1 hp52).2
 have hnm:=(not_or.1 hp52).1
 have hs63:=hs62.p1
 obtain ⟨hs65,ok66⟩:=hs63.rowOfObj (n:=2) (size:=1) rfl (by decide)
 have hs67:St H _ (row 5 1 (.slice (some ⟨g55,0,none⟩) 2 2) 2 ([f.Kind,((f.From % 256).toNat)].map encB)::obj g59 58 [.slice (some ⟨g55,0,none⟩) 2 2,.bool false]::obj g29 30 [.int .u8 ((f.Kind:Nat):Int),.int .i64 f.From,.int .u64 ((f.ID.N:Nat):Int),.int .i64 f.ID.P,.int .u16 ((f.Set:Nat):Int),.int .u64 ((f.Cur.N:Nat):Int),.int .i64 f.Cur.P,.int .u64 ((f.Prom.N:Nat):Int),.int .i64 f.Prom.P,.slice A14 n15 c16,.int .u64 ((f.Base:Nat):Int),.slice A19 n20 c21,.slice A23 n24 c25,.int .u64 ((f.Ack:Nat):Int),.int .u64 ((f.Safe:Nat):Int)]::L):=hs65
 have hl68:[f.Kind,((f.From % 256).toNat)] = [f.Kind,((f.From % 256).toNat)]:=rfl
 obtain ⟨hs69,ok70⟩:=St.relist hs67 ok66 hl68
 have sm71:Small [f.Kind,((f.From % 256).toNat)]:=by rw [← hl68]; exact (Small.cons b1 (Small.cons (by omega) Small.nil))
 have hc0:false = !true:=rfl
 have hq0:false = false → [f.Kind,((f.From % 256).toNat)] = [f.Kind,(f.From % 256).toNat]:=fun _ => rfl
 have hn0:([f.Kind,((f.From % 256).toNat)]).length = 2:=rfl
 skip
 refine st (v:=.pointer (some ⟨g29,0 + 0,none⟩)) (fa30_0 (.tmp rfl hρ50)) ?_
 refine st (v:=.int .u8 ((f.Kind:Nat):Int)) (ld5 (.tmp rfl rfl) (hs69.cell 2 rfl (0 + 0) rfl)) ?_
 refine st (v:=.bool (decide ((((f.Kind:Nat):Int):Int) ≠ 1))) (x_neq (k:=.u8) (a:=((f.Kind:Nat):Int)) (b:=1) (.tmp rfl rfl) .const) ?_
 refine c_nil (n_then ?_)
 rcases Bool.eq_false_or_eq_true (decide ((((f.Kind:Nat):Int):Int) ≠ 1)) with hc72 | hc72
 have hp72:(((f.Kind:Nat):Int):Int) ≠ 1:=of_decide_eq_true hc72
 refine c_cond_t (t:=true) (.tmp rfl (cVb hc72)) rfl ?_
 refine c_seq (c_region (st (v:=.pointer (some ⟨g59,0,none⟩)) (x_move (.tmp rfl rfl)) ?_))
 refine st (v:=.pointer (some ⟨g29,0 + 2,none⟩)) (fa30_2 (.tmp rfl hρ50)) ?_
 refine st (v:=.agg #[.int .u64 ((f.ID.N:Nat):Int),.int .i64 f.ID.P]) (ld24 (cs:=[.int .u64 ((f.ID.N:Nat):Int),.int .i64 f.ID.P]) (.tmp rfl rfl) (hs69.at_ 2 rfl (0 + 2) rfl) rfl) ?_
 have hs73:=hs69.p1
 have hr74:kViewID.rep H f.ID [.int .u64 ((f.ID.N:Nat):Int),.int .i64 f.ID.P]:=⟨rfl,b4,⟨b5,b6⟩⟩
 refine st_c cb23 .func (evs2 (.tmp rfl rfl) (.tmp rfl rfl)) (id_spec hs73 sm71 ok70 f.ID hr74 (by omega)) ?_
 rintro e w75 ⟨v77,q78,b79,rfl,sm80,ok81,hb82,hq83,hn84,hs76⟩
 refine ⟨_,rfl,?_⟩
 refine c_nil (n_then (c_region ?_))
 have hc85:=ch_call hc0 hb82
 have hq86:=ch_list hb82 hq0 hq83
 skip
 skip
 refine st (v:=.pointer (some ⟨g59,0,none⟩)) (x_move (.tmp rfl rfl)) ?_
 refine st (v:=.pointer (some ⟨g59,0,none⟩)) (x_move (.tmp rfl rfl)) ?_
 refine st (v:=.pointer (some ⟨g59,0,none⟩)) (x_nilCheck (.tmp rfl rfl)) ?_
 refine st (v:=.pointer (some ⟨g59,0 + 1,none⟩)) (fa58_1 (.tmp rfl rfl)) ?_
 refine st (v:=.bool b79) (ld4 (.tmp rfl rfl) (hs76.cell 0 rfl (0 + 1) rfl)) ?_
 refine st (v:=.bool b79) (x_move (.tmp rfl rfl)) ?_
 refine jw 5 (fun ρ w => ρ 55 = .bool (b79 || (decide ((((f.ID.N:Nat):Int):Int) = 0)))∧ρ 1 = .pointer (some ⟨g29,0,none⟩)∧ρ 4 = .pointer (some ⟨g59,0,none⟩)∧ρ 45 = .pointer (some ⟨g59,0,none⟩)∧St H w (obj g59 58 [v77,.bool b79]::row 5 1 v77 q78.length (q78.map encB)::obj g29 30 [.int .u8 ((f.Kind:Nat):Int),.int .i64 f.From,.int .u64 ((f.ID.N:Nat):Int),.int .i64 f.ID.P,.int .u16 ((f.Set:Nat):Int),.int .u64 ((f.Cur.N:Nat):Int),.int .i64 f.Cur.P,.int .u64 ((f.Prom.N:Nat):Int),.int .i64 f.Prom.P,.slice A14 n15 c16,.int .u64 ((f.Base:Nat):Int),.slice A19 n20 c21,.slice A23 n24 c25,.int .u64 ((f.Ack:Nat):Int),.int .u64 ((f.Safe:Nat):Int)]::L)) ?_ ?_
 rcases Bool.eq_false_or_eq_true b79 with hc87 | hc87
 refine g_no (yk 50 true rfl rfl hc87) rfl ?_
 refine g_no (yk 50 true rfl rfl hc87) rfl ?_
 refine g_no (yk 50 true rfl rfl hc87) rfl ?_
 refine g_no (yk 50 true rfl rfl hc87) rfl ?_
 refine st (v:=.bool true) (x_pick_t (.tmp rfl (cVb hc87)) .const) ?_
 exact jw_end ⟨(cVb (jor_t hc87)),hρ50,rfl,rfl,hs76⟩
 refine g_yes (yk 50 false rfl rfl hc87) ?_
 refine st (v:=.pointer (some ⟨g29,0 + 2,none⟩)) (fa30_2 (.tmp rfl hρ50)) ?_
 refine g_yes (yk 50 false rfl rfl hc87) ?_
 refine st (v:=.pointer (some ⟨g29,0 + 2 + 0,none⟩)) (fa24_0 (.tmp rfl rfl)) ?_
 refine g_yes (yk 50 false rfl rfl hc87) ?_
 refine st (v:=.int .u64 ((f.ID.N:Nat):Int)) (ld22 (.tmp rfl rfl) (hs76.cell 2 rfl (0 + 2 + 0) rfl)) ?_
 refine g_yes (yk 50 false rfl rfl hc87) ?_
 refine st (v:=.bool (decide ((((f.ID.N:Nat):Int):Int) = 0))) (x_eql (k:=.u64) (a:=((f.ID.N:Nat):Int)) (b:=0) (.tmp rfl rfl) .const) ?_
 refine st (v:=.bool (decide ((((f.ID.N:Nat):Int):Int) = 0))) (x_pick_f (.tmp rfl (cVb hc87)) (.tmp rfl rfl)) ?_
 exact jw_end ⟨(cVb (jor_f hc87)),hρ50,rfl,rfl,hs76⟩
 rintro ρ w ⟨hρ88,hρ89,hρ90,hρ91,hs92⟩
 refine st (v:=.pointer (some ⟨g59,0,none⟩)) (x_nilCheck (.tmp rfl hρ91)) ?_
 refine st (v:=.pointer (some ⟨g59,0 + 1,none⟩)) (fa58_1 (.tmp rfl rfl)) ?_
 refine st_m0 (sto4 (cs':=[v77,.bool (b79 || (decide ((((f.ID.N:Nat):Int):Int) = 0)))]) (i:=0 + 1) hs92 (v:=.bool (b79 || (decide ((((f.ID.N:Nat):Int):Int) = 0)))) (.tmp rfl rfl) (.tmp rfl hρ88) rfl (Nat.le_of_ble_eq_true rfl) one1 rfl) ?_
 rintro w93 hs95
 refine c_nil (n_then (c_seq (c_seq (c_region ?_))))
 have hc96:(b79 || (decide ((((f.ID.N:Nat):Int):Int) = 0))) = !((true && formVI f.ID) && decide (f.ID.N ≠ 0)):=ch_or_ (b:=b79) hc85 (dec_not (by omega))
 have hq97:(b79 || (decide ((((f.ID.N:Nat):Int):Int) = 0))) = false → q78 = ([f.Kind,(f.From % 256).toNat] ++ vidE f.ID):=ch_orq (b:=b79) hq86
 skip
 refine st (v:=.pointer (some ⟨g29,0 + 0,none⟩)) (fa30_0 (.tmp rfl hρ89)) ?_
 refine st (v:=.int .u8 ((f.Kind:Nat):Int)) (ld5 (.tmp rfl rfl) (hs95.cell 2 rfl (0 + 0) rfl)) ?_
 refine c_nil (n_then (c_block (c_seq (c_region (st (v:=.bool (decide ((((f.Kind:Nat):Int):Int) = 1))) (x_eql (k:=.u8) (a:=((f.Kind:Nat):Int)) (b:=1) (.tmp rfl rfl) .const) ?_)))))
 refine st (v:=.bool (decide ((((f.Kind:Nat):Int):Int) = 1))) (x_assign (.tmp rfl rfl)) ?_
 refine c_nil (n_then ?_)
 have hc98:(decide ((((f.Kind:Nat):Int):Int) = 1)) = false:=(decide_eq_false (by omega))
 refine c_cond_f (t:=false) (.tmp rfl (cVb hc98)) rfl ?_
 refine c_seq (c_region (st (v:=.bool (decide ((((f.Kind:Nat):Int):Int) = 2))) (x_eql (k:=.u8) (a:=((f.Kind:Nat):Int)) (b:=2) (.tmp rfl rfl) .const) ?_))
 refine st (v:=.bool (decide ((((f.Kind:Nat):Int):Int) = 2))) (x_assign (.tmp rfl rfl)) ?_
 refine c_nil (n_then ?_)
 rcases Bool.eq_false_or_eq_true (decide ((((f.Kind:Nat):Int):Int) = 2)) with hc99 | hc99
 have hp99:(((f.Kind:Nat):Int):Int) = 2:=of_decide_eq_true hc99
 refine c_cond_t (t:=true) (.tmp rfl (cVb hc99)) rfl ?_
 refine c_region (st (v:=.pointer (some ⟨g59,0,none⟩)) (x_move (.tmp rfl hρ90)) ?_)
 refine st (v:=.pointer (some ⟨g29,0 + 4,none⟩)) (fa30_3 (.tmp rfl hρ89)) ?_
 refine st (v:=.int .u16 ((f.Set:Nat):Int)) (ld25 (.tmp rfl rfl) (hs95.cell 2 rfl (0 + 4) rfl)) ?_
 have hb100:f.Set < 18446744073709551616:=Nat.lt_of_lt_of_le b7 (by decide)
 refine st (v:=.int .u64 ((f.Set:Nat):Int)) (x_conv (k:=.u16) (a:=((f.Set:Nat):Int)) Try.underlying25 Try.underlying22 (.tmp rfl rfl) (wU rfl rfl hb100)) ?_
 have hs101:=hs95.p1
 have hs102:=hs101.p1
 refine st_c cb24 .func (evs2 (.tmp rfl rfl) (.tmp rfl rfl)) (num_spec hs102 sm80 ok81 f.Set hb100 (by omega)) ?_
 rintro e w103 ⟨v105,q106,b107,rfl,sm108,ok109,hb110,hq111,hn112,hs104⟩
 refine ⟨_,rfl,?_⟩
 refine c_nil ?_
 have hc113:=ch_call hc96 hb110
 have hq114:=ch_list hb110 hq97 hq111
 refine n_block (n_then (c_seq (c_seq (c_region ?_))))
 have hK:f.Kind = 2:=by omega
 have hbo:bodyOk f = (((true && formVI f.ID) && decide (f.ID.N ≠ 0)) && true):=by unfold bodyOk idOk frKindOk; simp [hK,Bool.and_assoc]
 have hbe:bodyE f = (([f.Kind,(f.From % 256).toNat] ++ vidE f.ID) ++ uenc f.Set):=by unfold bodyE idE kindE msgsE; simp [hK,List.append_assoc]
 have hbd:b107 = !bodyOk f:=by rw [hbo]; exact hc113
 have hrw:b107 = false → q106 = bodyE f:=by rw [hbe]; exact hq114
 skip
 refine st (v:=.pointer (some ⟨g59,0,none⟩)) (x_move (.tmp rfl hρ90)) ?_
 refine st (v:=.pointer (some ⟨g59,0,none⟩)) (x_nilCheck (.tmp rfl rfl)) ?_
 refine st (v:=.pointer (some ⟨g59,0 + 1,none⟩)) (fa58_1 (.tmp rfl rfl)) ?_
 refine st (v:=.bool b107) (ld4 (.tmp rfl rfl) (hs104.cell 0 rfl (0 + 1) rfl)) ?_
 refine c_nil (n_then ?_)
 rcases Bool.eq_false_or_eq_true b107 with hc115 | hc115
 refine c_cond_t (t:=true) (.tmp rfl (cVb hc115)) rfl ?_
 refine c_seq (c_region (st (v:=.slice none 0 0) (x_assign .const) ?_))
 refine st (v:=.int .i64 3) (x_assign .const) ?_
 refine c_nil (n_then (c_ret (r_then (leave_ret (res_two (v:=.slice none 0 0) (u:=.int .i64 3) rfl (.mk rfl rfl) (.mk rfl rfl)) ?_))))
 rw [encC_no (formC_body (by cases h9:bodyOk f with | false => rfl | true => rw [h9] at hbd; rw [hc115] at hbd; cases hbd))]
 have hs116:St H _ (row 5 1 (.slice none 0 0) 0 ([].map encB)::obj g59 58 [v105,.bool b107]::row 5 1 v105 q106.length (q106.map encB)::obj g29 30 [.int .u8 ((f.Kind:Nat):Int),.int .i64 f.From,.int .u64 ((f.ID.N:Nat):Int),.int .i64 f.ID.P,.int .u16 ((f.Set:Nat):Int),.int .u64 ((f.Cur.N:Nat):Int),.int .i64 f.Cur.P,.int .u64 ((f.Prom.N:Nat):Int),.int .i64 f.Prom.P,.slice A14 n15 c16,.int .u64 ((f.Base:Nat):Int),.slice A19 n20 c21,.slice A23 n24 c25,.int .u64 ((f.Ack:Nat):Int),.int .u64 ((f.Safe:Nat):Int)]::L):=hs104.rowNil 5 1
 exact ⟨H,(.slice none 0 0),(Hp.le.refl _),rfl,Small.nil,(by simpa using (RowOk.nil 1)),(((hs116.p1).drop.p1).drop.p1).drop⟩
 refine c_cond_f (t:=false) (.tmp rfl (cVb hc115)) rfl ?_
 refine c_skip (n_then (c_seq (c_seq (c_region ?_))))
 have hfc:formC f = true:=formC_yes (by omega) hba (by cases h9:bodyOk f with | true => rfl | false => rw [h9] at hbd; rw [hc115] at hbd; cases hbd)
 skip
 refine st (v:=.pointer (some ⟨g59,0,none⟩)) (x_move (.tmp rfl hρ90)) ?_
 refine st (v:=.pointer (some ⟨g59,0,none⟩)) (x_nilCheck (.tmp rfl rfl)) ?_
 refine st (v:=.pointer (some ⟨g59,0 + 0,none⟩)) (fa58_0 (.tmp rfl rfl)) ?_
 refine st (v:=v105) (ld33 (.tmp rfl rfl) (hs104.cell 0 rfl (0 + 0) rfl)) ?_
 obtain ⟨A118,c119,hv120,hc121⟩:=ok109.slice
 refine st (v:=.int .i64 ((q106.length:Nat):Int)) (x_len (n:=q106.length) Try.underlying33 (.tmp rfl hv120)) ?_
 refine st (v:=.bool (decide ((1048572:Int) < ((q106.length:Nat):Int)))) (x_gtr (k:=.i64) (a:=((q106.length:Nat):Int)) (b:=1048572) (.tmp rfl rfl) .const) ?_
 refine c_nil (n_then ?_)
 rcases Bool.eq_false_or_eq_true (decide ((1048572:Int) < ((q106.length:Nat):Int))) with hc122 | hc122
 have hp122:(1048572:Int) < ((q106.length:Nat):Int):=of_decide_eq_true hc122
 refine c_cond_t (t:=true) (.tmp rfl (cVb hc122)) rfl ?_
 refine c_seq (c_region (st (v:=.slice none 0 0) (x_assign .const) ?_))
 refine st (v:=.int .i64 2) (x_assign .const) ?_
 refine c_nil (n_then (c_ret (r_then (leave_ret (res_two (v:=.slice none 0 0) (u:=.int .i64 2) rfl (.mk rfl rfl) (.mk rfl rfl)) ?_))))
 have hre:q106 = bodyE f:=hrw hc115
 rw [encC_long hfc (by rw [← hre]; omega)]
 have hs123:St H _ (row 5 1 (.slice none 0 0) 0 ([].map encB)::obj g59 58 [v105,.bool b107]::row 5 1 v105 q106.length (q106.map encB)::obj g29 30 [.int .u8 ((f.Kind:Nat):Int),.int .i64 f.From,.int .u64 ((f.ID.N:Nat):Int),.int .i64 f.ID.P,.int .u16 ((f.Set:Nat):Int),.int .u64 ((f.Cur.N:Nat):Int),.int .i64 f.Cur.P,.int .u64 ((f.Prom.N:Nat):Int),.int .i64 f.Prom.P,.slice A14 n15 c16,.int .u64 ((f.Base:Nat):Int),.slice A19 n20 c21,.slice A23 n24 c25,.int .u64 ((f.Ack:Nat):Int),.int .u64 ((f.Safe:Nat):Int)]::L):=hs104.rowNil 5 1
 exact ⟨H,(.slice none 0 0),(Hp.le.refl _),rfl,Small.nil,(by simpa using (RowOk.nil 1)),(((hs123.p1).drop.p1).drop.p1).drop⟩
 have hp122:¬ ((1048572:Int) < ((q106.length:Nat):Int)):=of_decide_eq_false hc122
 refine c_cond_f (t:=false) (.tmp rfl (cVb hc122)) rfl ?_
 refine c_skip (n_then (c_seq (c_region (st (v:=.pointer (some ⟨g59,0,none⟩)) (x_move (.tmp rfl hρ90)) ?_))))
 refine st (v:=.pointer (some ⟨g59,0,none⟩)) (x_nilCheck (.tmp rfl rfl)) ?_
 refine st (v:=.pointer (some ⟨g59,0 + 0,none⟩)) (fa58_0 (.tmp rfl rfl)) ?_
 have hre:q106 = bodyE f:=hrw hc115
 have hbl:(bodyE f).length ≤ 1048572:=by rw [← hre]; omega
 have hs125:=hs104.p1
 have hl126:q106 = bodyE f:=hre
 obtain ⟨hs127,ok128⟩:=St.relist hs125 ok109 hl126
 have sm129:Small (bodyE f):=by rw [← hl126]; exact sm108
 obtain ⟨H130,A131,c132,hle133,hs134,rfl,hp135⟩:=hs127.freezeBs ok128 sm129 (by omega)
 have hy136:By H130 A131 ((bodyE f).length) c132 (bodyE f):=⟨hp135,by omega⟩
 skip
 refine st (v:=.slice A131 ((bodyE f).length) c132) (ld33 (.tmp rfl rfl) (hs134.cell 0 rfl (0 + 0) rfl)) ?_
 refine st_c cb28 .func (evs1 (.tmp rfl rfl)) (seal_spec hs134 hy136.toBs (by omega)) ?_
 rintro e w138 ⟨v137,rfl,ok139,hs140⟩
 refine ⟨_,rfl,?_⟩
 refine st (v:=v137) (x_assign (.tmp rfl rfl)) ?_
 refine st (v:=.int .i64 0) (x_assign .const) ?_
 refine c_nil (n_then (c_ret (leave_ret (res_two (v:=v137) (u:=.int .i64 0) rfl (.mk rfl rfl) (.mk rfl rfl)) ?_)))
 have hl142:(seal_ (bodyE f)) = (encC f).1:=(by rw [encC_yes hfc (by omega)])
 obtain ⟨hs143,ok144⟩:=St.relist hs140 ok139 hl142
 have sm145:Small ((encC f).1):=by rw [← hl142]; exact (seal_small hy136.toBs.lt)
 have hans146:(encC f).2 = 0:=by rw [encC_yes hfc (by omega)]
 rw [hans146]
 exact ⟨H130,v137,hle133,rfl,sm145,(by simpa using ok144),((hs143.p1).drop.p1).drop⟩
 have hp99:¬ ((((f.Kind:Nat):Int):Int) = 2):=of_decide_eq_false hc99
 refine c_cond_f (t:=false) (.tmp rfl (cVb hc99)) rfl ?_
 refine c_seq (c_region (st (v:=.bool (decide ((((f.Kind:Nat):Int):Int) = 3))) (x_eql (k:=.u8) (a:=((f.Kind:Nat):Int)) (b:=3) (.tmp rfl rfl) .const) ?_))
 refine st (v:=.bool (decide ((((f.Kind:Nat):Int):Int) = 3))) (x_assign (.tmp rfl rfl)) ?_
 refine c_nil (n_then ?_)
 rcases Bool.eq_false_or_eq_true (decide ((((f.Kind:Nat):Int):Int) = 3)) with hc147 | hc147
 have hp147:(((f.Kind:Nat):Int):Int) = 3:=of_decide_eq_true hc147
 refine c_cond_t (t:=true) (.tmp rfl (cVb hc147)) rfl ?_
 refine c_seq (c_region ?_)
 skip
 refine st (v:=.pointer (some ⟨g59,0,none⟩)) (x_move (.tmp rfl hρ90)) ?_
 refine st (v:=.pointer (some ⟨g59,0,none⟩)) (x_move (.tmp rfl hρ90)) ?_
 refine st (v:=.pointer (some ⟨g59,0,none⟩)) (x_nilCheck (.tmp rfl rfl)) ?_
 refine st (v:=.pointer (some ⟨g59,0 + 1,none⟩)) (fa58_1 (.tmp rfl rfl)) ?_
 refine st (v:=.bool (b79 || (decide ((((f.ID.N:Nat):Int):Int) = 0)))) (ld4 (.tmp rfl rfl) (hs95.cell 0 rfl (0 + 1) rfl)) ?_
 refine st (v:=.bool (b79 || (decide ((((f.ID.N:Nat):Int):Int) = 0)))) (x_move (.tmp rfl rfl)) ?_
 refine jw 5 (fun ρ w => ρ 89 = .bool ((b79 || (decide ((((f.ID.N:Nat):Int):Int) = 0))) || (decide ((((n15:Nat):Int):Int) ≠ 1)))∧ρ 1 = .pointer (some ⟨g29,0,none⟩)∧ρ 4 = .pointer (some ⟨g59,0,none⟩)∧ρ 79 = .pointer (some ⟨g59,0,none⟩)∧St H w (obj g59 58 [v77,.bool (b79 || (decide ((((f.ID.N:Nat):Int):Int) = 0)))]::row 5 1 v77 q78.length (q78.map encB)::obj g29 30 [.int .u8 ((f.Kind:Nat):Int),.int .i64 f.From,.int .u64 ((f.ID.N:Nat):Int),.int .i64 f.ID.P,.int .u16 ((f.Set:Nat):Int),.int .u64 ((f.Cur.N:Nat):Int),.int .i64 f.Cur.P,.int .u64 ((f.Prom.N:Nat):Int),.int .i64 f.Prom.P,.slice A14 n15 c16,.int .u64 ((f.Base:Nat):Int),.slice A19 n20 c21,.slice A23 n24 c25,.int .u64 ((f.Ack:Nat):Int),.int .u64 ((f.Safe:Nat):Int)]::L)) ?_ ?_
 rcases Bool.eq_false_or_eq_true (b79 || (decide ((((f.ID.N:Nat):Int):Int) = 0))) with hc148 | hc148
 have hp148:(b79 = true) ∨ ((((f.ID.N:Nat):Int):Int) = 0):=((J_or Iff.rfl decide_eq_true_iff)).1 hc148
 refine g_no (yk 84 true rfl rfl hc148) rfl ?_
 refine g_no (yk 84 true rfl rfl hc148) rfl ?_
 refine g_no (yk 84 true rfl rfl hc148) rfl ?_
 refine g_no (yk 84 true rfl rfl hc148) rfl ?_
 refine st (v:=.bool true) (x_pick_t (.tmp rfl (cVb hc148)) .const) ?_
 exact jw_end ⟨(cVb (jor_t hc148)),hρ89,hρ90,rfl,hs95⟩
 have hp148:¬ ((b79 = true) ∨ ((((f.ID.N:Nat):Int):Int) = 0)):=J_no (J_or Iff.rfl decide_eq_true_iff) hc148
 refine g_yes (yk 84 false rfl rfl hc148) ?_
 refine st (v:=.pointer (some ⟨g29,0 + 9,none⟩)) (fa30_6 (.tmp rfl hρ89)) ?_
 refine g_yes (yk 84 false rfl rfl hc148) ?_
 refine st (v:=.slice A14 n15 c16) (ld26 (.tmp rfl rfl) (hs95.cell 2 rfl (0 + 9) rfl)) ?_
 refine g_yes (yk 84 false rfl rfl hc148) ?_
 refine st (v:=.int .i64 ((n15:Nat):Int)) (x_len (n:=n15) Try.underlying26 (.tmp rfl rfl)) ?_
 refine g_yes (yk 84 false rfl rfl hc148) ?_
 refine st (v:=.bool (decide ((((n15:Nat):Int):Int) ≠ 1))) (x_neq (k:=.i64) (a:=((n15:Nat):Int)) (b:=1) (.tmp rfl rfl) .const) ?_
 refine st (v:=.bool (decide ((((n15:Nat):Int):Int) ≠ 1))) (x_pick_f (.tmp rfl (cVb hc148)) (.tmp rfl rfl)) ?_
 exact jw_end ⟨(cVb (jor_f hc148)),hρ89,hρ90,rfl,hs95⟩
 rintro ρ w ⟨hρ149,hρ150,hρ151,hρ152,hs153⟩
 refine st (v:=.pointer (some ⟨g59,0,none⟩)) (x_nilCheck (.tmp rfl hρ152)) ?_
 refine st (v:=.pointer (some ⟨g59,0 + 1,none⟩)) (fa58_1 (.tmp rfl rfl)) ?_
 refine st_m0 (sto4 (cs':=[v77,.bool ((b79 || (decide ((((f.ID.N:Nat):Int):Int) = 0))) || (decide ((((n15:Nat):Int):Int) ≠ 1)))]) (i:=0 + 1) hs153 (v:=.bool ((b79 || (decide ((((f.ID.N:Nat):Int):Int) = 0))) || (decide ((((n15:Nat):Int):Int) ≠ 1)))) (.tmp rfl rfl) (.tmp rfl hρ149) rfl (Nat.le_of_ble_eq_true rfl) one1 rfl) ?_
 rintro w154 hs156
 refine c_nil (n_then (c_region ?_))
 have hc157:((b79 || (decide ((((f.ID.N:Nat):Int):Int) = 0))) || (decide ((((n15:Nat):Int):Int) ≠ 1))) = !(((true && formVI f.ID) && decide (f.ID.N ≠ 0)) && decide (f.States.length = 1)):=ch_or_ (b:=(b79 || (decide ((((f.ID.N:Nat):Int):Int) = 0)))) hc96 (dec_not (by omega))
 have hq158:((b79 || (decide ((((f.ID.N:Nat):Int):Int) = 0))) || (decide ((((n15:Nat):Int):Int) ≠ 1))) = false → q78 = ([f.Kind,(f.From % 256).toNat] ++ vidE f.ID):=ch_orq (b:=(b79 || (decide ((((f.ID.N:Nat):Int):Int) = 0)))) hq97
 skip
 refine st (v:=.pointer (some ⟨g59,0,none⟩)) (x_move (.tmp rfl hρ151)) ?_
 refine st (v:=.pointer (some ⟨g29,0 + 9,none⟩)) (fa30_6 (.tmp rfl hρ150)) ?_
 refine st (v:=.slice A14 n15 c16) (ld26 (.tmp rfl rfl) (hs156.cell 2 rfl (0 + 9) rfl)) ?_
 have hs159:=hs156.p1
 have hs160:=hs159.p1
 refine st_c cb25 .func (evs2 (.tmp rfl rfl) (.tmp rfl rfl)) (wstates_spec hs160 sm80 ok81 f.States hl17 (by omega)) ?_
 rintro e w161 ⟨v163,q164,b165,rfl,sm166,ok167,hb168,hq169,hn170,hs162⟩
 refine ⟨_,rfl,?_⟩
 refine c_nil ?_
 have hc171:=ch_call hc157 hb168
 have hq172:=ch_list hb168 hq158 hq169
 refine n_block (n_then (c_seq (c_seq (c_region ?_))))
 have hK:f.Kind = 3:=by omega
 have hbo:bodyOk f = ((((true && formVI f.ID) && decide (f.ID.N ≠ 0)) && decide (f.States.length = 1)) && okStates f.States):=by unfold bodyOk idOk frKindOk; simp [hK,Bool.and_assoc]
 have hbe:bodyE f = (([f.Kind,(f.From % 256).toNat] ++ vidE f.ID) ++ statesE f.States):=by unfold bodyE idE kindE msgsE; simp [hK,List.append_assoc]
 have hbd:b165 = !bodyOk f:=by rw [hbo]; exact hc171
 have hrw:b165 = false → q164 = bodyE f:=by rw [hbe]; exact hq172
 skip
 refine st (v:=.pointer (some ⟨g59,0,none⟩)) (x_move (.tmp rfl hρ151)) ?_
 refine st (v:=.pointer (some ⟨g59,0,none⟩)) (x_nilCheck (.tmp rfl rfl)) ?_
 refine st (v:=.pointer (some ⟨g59,0 + 1,none⟩)) (fa58_1 (.tmp rfl rfl)) ?_
 refine st (v:=.bool b165) (ld4 (.tmp rfl rfl) (hs162.cell 0 rfl (0 + 1) rfl)) ?_
 refine c_nil (n_then ?_)
 rcases Bool.eq_false_or_eq_true b165 with hc173 | hc173
 refine c_cond_t (t:=true) (.tmp rfl (cVb hc173)) rfl ?_
 refine c_seq (c_region (st (v:=.slice none 0 0) (x_assign .const) ?_))
 refine st (v:=.int .i64 3) (x_assign .const) ?_
 refine c_nil (n_then (c_ret (r_then (leave_ret (res_two (v:=.slice none 0 0) (u:=.int .i64 3) rfl (.mk rfl rfl) (.mk rfl rfl)) ?_))))
 rw [encC_no (formC_body (by cases h9:bodyOk f with | false => rfl | true => rw [h9] at hbd; rw [hc173] at hbd; cases hbd))]
 have hs174:St H _ (row 5 1 (.slice none 0 0) 0 ([].map encB)::obj g59 58 [v163,.bool b165]::row 5 1 v163 q164.length (q164.map encB)::obj g29 30 [.int .u8 ((f.Kind:Nat):Int),.int .i64 f.From,.int .u64 ((f.ID.N:Nat):Int),.int .i64 f.ID.P,.int .u16 ((f.Set:Nat):Int),.int .u64 ((f.Cur.N:Nat):Int),.int .i64 f.Cur.P,.int .u64 ((f.Prom.N:Nat):Int),.int .i64 f.Prom.P,.slice A14 n15 c16,.int .u64 ((f.Base:Nat):Int),.slice A19 n20 c21,.slice A23 n24 c25,.int .u64 ((f.Ack:Nat):Int),.int .u64 ((f.Safe:Nat):Int)]::L):=hs162.rowNil 5 1
 exact ⟨H,(.slice none 0 0),(Hp.le.refl _),rfl,Small.nil,(by simpa using (RowOk.nil 1)),(((hs174.p1).drop.p1).drop.p1).drop⟩
 refine c_cond_f (t:=false) (.tmp rfl (cVb hc173)) rfl ?_
 refine c_skip (n_then (c_seq (c_seq (c_region ?_))))
 have hfc:formC f = true:=formC_yes (by omega) hba (by cases h9:bodyOk f with | true => rfl | false => rw [h9] at hbd; rw [hc173] at hbd; cases hbd)
 skip
 refine st (v:=.pointer (some ⟨g59,0,none⟩)) (x_move (.tmp rfl hρ151)) ?_
 refine st (v:=.pointer (some ⟨g59,0,none⟩)) (x_nilCheck (.tmp rfl rfl)) ?_
 refine st (v:=.pointer (some ⟨g59,0 + 0,none⟩)) (fa58_0 (.tmp rfl rfl)) ?_
 refine st (v:=v163) (ld33 (.tmp rfl rfl) (hs162.cell 0 rfl (0 + 0) rfl)) ?_
 obtain ⟨A176,c177,hv178,hc179⟩:=ok167.slice
 refine st (v:=.int .i64 ((q164.length:Nat):Int)) (x_len (n:=q164.length) Try.underlying33 (.tmp rfl hv178)) ?_
 refine st (v:=.bool (decide ((1048572:Int) < ((q164.length:Nat):Int)))) (x_gtr (k:=.i64) (a:=((q164.length:Nat):Int)) (b:=1048572) (.tmp rfl rfl) .const) ?_
 refine c_nil (n_then ?_)
 rcases Bool.eq_false_or_eq_true (decide ((1048572:Int) < ((q164.length:Nat):Int))) with hc180 | hc180
 have hp180:(1048572:Int) < ((q164.length:Nat):Int):=of_decide_eq_true hc180
 refine c_cond_t (t:=true) (.tmp rfl (cVb hc180)) rfl ?_
 refine c_seq (c_region (st (v:=.slice none 0 0) (x_assign .const) ?_))
 refine st (v:=.int .i64 2) (x_assign .const) ?_
 refine c_nil (n_then (c_ret (r_then (leave_ret (res_two (v:=.slice none 0 0) (u:=.int .i64 2) rfl (.mk rfl rfl) (.mk rfl rfl)) ?_))))
 have hre:q164 = bodyE f:=hrw hc173
 rw [encC_long hfc (by rw [← hre]; omega)]
 have hs181:St H _ (row 5 1 (.slice none 0 0) 0 ([].map encB)::obj g59 58 [v163,.bool b165]::row 5 1 v163 q164.length (q164.map encB)::obj g29 30 [.int .u8 ((f.Kind:Nat):Int),.int .i64 f.From,.int .u64 ((f.ID.N:Nat):Int),.int .i64 f.ID.P,.int .u16 ((f.Set:Nat):Int),.int .u64 ((f.Cur.N:Nat):Int),.int .i64 f.Cur.P,.int .u64 ((f.Prom.N:Nat):Int),.int .i64 f.Prom.P,.slice A14 n15 c16,.int .u64 ((f.Base:Nat):Int),.slice A19 n20 c21,.slice A23 n24 c25,.int .u64 ((f.Ack:Nat):Int),.int .u64 ((f.Safe:Nat):Int)]::L):=hs162.rowNil 5 1
 exact ⟨H,(.slice none 0 0),(Hp.le.refl _),rfl,Small.nil,(by simpa using (RowOk.nil 1)),(((hs181.p1).drop.p1).drop.p1).drop⟩
 have hp180:¬ ((1048572:Int) < ((q164.length:Nat):Int)):=of_decide_eq_false hc180
 refine c_cond_f (t:=false) (.tmp rfl (cVb hc180)) rfl ?_
 refine c_skip (n_then (c_seq (c_region (st (v:=.pointer (some ⟨g59,0,none⟩)) (x_move (.tmp rfl hρ151)) ?_))))
 refine st (v:=.pointer (some ⟨g59,0,none⟩)) (x_nilCheck (.tmp rfl rfl)) ?_
 refine st (v:=.pointer (some ⟨g59,0 + 0,none⟩)) (fa58_0 (.tmp rfl rfl)) ?_
 have hre:q164 = bodyE f:=hrw hc173
 have hbl:(bodyE f).length ≤ 1048572:=by rw [← hre]; omega
 have hs183:=hs162.p1
 have hl184:q164 = bodyE f:=hre
 obtain ⟨hs185,ok186⟩:=St.relist hs183 ok167 hl184
 have sm187:Small (bodyE f):=by rw [← hl184]; exact sm166
 obtain ⟨H188,A189,c190,hle191,hs192,rfl,hp193⟩:=hs185.freezeBs ok186 sm187 (by omega)
 have hy194:By H188 A189 ((bodyE f).length) c190 (bodyE f):=⟨hp193,by omega⟩
 skip
 refine st (v:=.slice A189 ((bodyE f).length) c190) (ld33 (.tmp rfl rfl) (hs192.cell 0 rfl (0 + 0) rfl)) ?_
 refine st_c cb28 .func (evs1 (.tmp rfl rfl)) (seal_spec hs192 hy194.toBs (by omega)) ?_
 rintro e w196 ⟨v195,rfl,ok197,hs198⟩
 refine ⟨_,rfl,?_⟩
 refine st (v:=v195) (x_assign (.tmp rfl rfl)) ?_
 refine st (v:=.int .i64 0) (x_assign .const) ?_
 refine c_nil (n_then (c_ret (leave_ret (res_two (v:=v195) (u:=.int .i64 0) rfl (.mk rfl rfl) (.mk rfl rfl)) ?_)))
 have hl200:(seal_ (bodyE f)) = (encC f).1:=(by rw [encC_yes hfc (by omega)])
 obtain ⟨hs201,ok202⟩:=St.relist hs198 ok197 hl200
 have sm203:Small ((encC f).1):=by rw [← hl200]; exact (seal_small hy194.toBs.lt)
 have hans204:(encC f).2 = 0:=by rw [encC_yes hfc (by omega)]
 rw [hans204]
 exact ⟨H188,v195,hle191,rfl,sm203,(by simpa using ok202),((hs201.p1).drop.p1).drop⟩
 have hp147:¬ ((((f.Kind:Nat):Int):Int) = 3):=of_decide_eq_false hc147
 refine c_cond_f (t:=false) (.tmp rfl (cVb hc147)) rfl ?_
 refine c_seq (c_region (st (v:=.bool (decide ((((f.Kind:Nat):Int):Int) = 4))) (x_eql (k:=.u8) (a:=((f.Kind:Nat):Int)) (b:=4) (.tmp rfl rfl) .const) ?_))
 refine st (v:=.bool (decide ((((f.Kind:Nat):Int):Int) = 4))) (x_assign (.tmp rfl rfl)) ?_
 refine c_nil (n_then ?_)
 rcases Bool.eq_false_or_eq_true (decide ((((f.Kind:Nat):Int):Int) = 4)) with hc205 | hc205
 have hp205:(((f.Kind:Nat):Int):Int) = 4:=of_decide_eq_true hc205
 refine c_cond_t (t:=true) (.tmp rfl (cVb hc205)) rfl ?_
 refine c_region (st (v:=.pointer (some ⟨g59,0,none⟩)) (x_move (.tmp rfl hρ90)) ?_)
 refine st (v:=.pointer (some ⟨g29,0 + 7,none⟩)) (fa30_5 (.tmp rfl hρ89)) ?_
 refine st (v:=.agg #[.int .u64 ((f.Prom.N:Nat):Int),.int .i64 f.Prom.P]) (ld24 (cs:=[.int .u64 ((f.Prom.N:Nat):Int),.int .i64 f.Prom.P]) (.tmp rfl rfl) (hs95.at_ 2 rfl (0 + 7) rfl) rfl) ?_
 have hs206:=hs95.p1
 have hs207:=hs206.p1
 have hr208:kViewID.rep H f.Prom [.int .u64 ((f.Prom.N:Nat):Int),.int .i64 f.Prom.P]:=⟨rfl,b11,⟨b12,b13⟩⟩
 refine st_c cb23 .func (evs2 (.tmp rfl rfl) (.tmp rfl rfl)) (id_spec hs207 sm80 ok81 f.Prom hr208 (by omega)) ?_
 rintro e w209 ⟨v211,q212,b213,rfl,sm214,ok215,hb216,hq217,hn218,hs210⟩
 refine ⟨_,rfl,?_⟩
 refine c_nil ?_
 have hc219:=ch_call hc96 hb216
 have hq220:=ch_list hb216 hq97 hq217
 refine n_block (n_then (c_seq (c_seq (c_region ?_))))
 have hK:f.Kind = 4:=by omega
 have hbo:bodyOk f = (((true && formVI f.ID) && decide (f.ID.N ≠ 0)) && formVI f.Prom):=by unfold bodyOk idOk frKindOk; simp [hK,Bool.and_assoc]
 have hbe:bodyE f = (([f.Kind,(f.From % 256).toNat] ++ vidE f.ID) ++ vidE f.Prom):=by unfold bodyE idE kindE msgsE; simp [hK,List.append_assoc]
 have hbd:b213 = !bodyOk f:=by rw [hbo]; exact hc219
 have hrw:b213 = false → q212 = bodyE f:=by rw [hbe]; exact hq220
 skip
 refine st (v:=.pointer (some ⟨g59,0,none⟩)) (x_move (.tmp rfl hρ90)) ?_
 refine st (v:=.pointer (some ⟨g59,0,none⟩)) (x_nilCheck (.tmp rfl rfl)) ?_
 refine st (v:=.pointer (some ⟨g59,0 + 1,none⟩)) (fa58_1 (.tmp rfl rfl)) ?_
 refine st (v:=.bool b213) (ld4 (.tmp rfl rfl) (hs210.cell 0 rfl (0 + 1) rfl)) ?_
 refine c_nil (n_then ?_)
 rcases Bool.eq_false_or_eq_true b213 with hc221 | hc221
 refine c_cond_t (t:=true) (.tmp rfl (cVb hc221)) rfl ?_
 refine c_seq (c_region (st (v:=.slice none 0 0) (x_assign .const) ?_))
 refine st (v:=.int .i64 3) (x_assign .const) ?_
 refine c_nil (n_then (c_ret (r_then (leave_ret (res_two (v:=.slice none 0 0) (u:=.int .i64 3) rfl (.mk rfl rfl) (.mk rfl rfl)) ?_))))
 rw [encC_no (formC_body (by cases h9:bodyOk f with | false => rfl | true => rw [h9] at hbd; rw [hc221] at hbd; cases hbd))]
 have hs222:St H _ (row 5 1 (.slice none 0 0) 0 ([].map encB)::obj g59 58 [v211,.bool b213]::row 5 1 v211 q212.length (q212.map encB)::obj g29 30 [.int .u8 ((f.Kind:Nat):Int),.int .i64 f.From,.int .u64 ((f.ID.N:Nat):Int),.int .i64 f.ID.P,.int .u16 ((f.Set:Nat):Int),.int .u64 ((f.Cur.N:Nat):Int),.int .i64 f.Cur.P,.int .u64 ((f.Prom.N:Nat):Int),.int .i64 f.Prom.P,.slice A14 n15 c16,.int .u64 ((f.Base:Nat):Int),.slice A19 n20 c21,.slice A23 n24 c25,.int .u64 ((f.Ack:Nat):Int),.int .u64 ((f.Safe:Nat):Int)]::L):=hs210.rowNil 5 1
 exact ⟨H,(.slice none 0 0),(Hp.le.refl _),rfl,Small.nil,(by simpa using (RowOk.nil 1)),(((hs222.p1).drop.p1).drop.p1).drop⟩
 refine c_cond_f (t:=false) (.tmp rfl (cVb hc221)) rfl ?_
 refine c_skip (n_then (c_seq (c_seq (c_region ?_))))
 have hfc:formC f = true:=formC_yes (by omega) hba (by cases h9:bodyOk f with | true => rfl | false => rw [h9] at hbd; rw [hc221] at hbd; cases hbd)
 skip
 refine st (v:=.pointer (some ⟨g59,0,none⟩)) (x_move (.tmp rfl hρ90)) ?_
 refine st (v:=.pointer (some ⟨g59,0,none⟩)) (x_nilCheck (.tmp rfl rfl)) ?_
 refine st (v:=.pointer (some ⟨g59,0 + 0,none⟩)) (fa58_0 (.tmp rfl rfl)) ?_
 refine st (v:=v211) (ld33 (.tmp rfl rfl) (hs210.cell 0 rfl (0 + 0) rfl)) ?_
 obtain ⟨A224,c225,hv226,hc227⟩:=ok215.slice
 refine st (v:=.int .i64 ((q212.length:Nat):Int)) (x_len (n:=q212.length) Try.underlying33 (.tmp rfl hv226)) ?_
 refine st (v:=.bool (decide ((1048572:Int) < ((q212.length:Nat):Int)))) (x_gtr (k:=.i64) (a:=((q212.length:Nat):Int)) (b:=1048572) (.tmp rfl rfl) .const) ?_
 refine c_nil (n_then ?_)
 rcases Bool.eq_false_or_eq_true (decide ((1048572:Int) < ((q212.length:Nat):Int))) with hc228 | hc228
 have hp228:(1048572:Int) < ((q212.length:Nat):Int):=of_decide_eq_true hc228
 refine c_cond_t (t:=true) (.tmp rfl (cVb hc228)) rfl ?_
 refine c_seq (c_region (st (v:=.slice none 0 0) (x_assign .const) ?_))
 refine st (v:=.int .i64 2) (x_assign .const) ?_
 refine c_nil (n_then (c_ret (r_then (leave_ret (res_two (v:=.slice none 0 0) (u:=.int .i64 2) rfl (.mk rfl rfl) (.mk rfl rfl)) ?_))))
 have hre:q212 = bodyE f:=hrw hc221
 rw [encC_long hfc (by rw [← hre]; omega)]
 have hs229:St H _ (row 5 1 (.slice none 0 0) 0 ([].map encB)::obj g59 58 [v211,.bool b213]::row 5 1 v211 q212.length (q212.map encB)::obj g29 30 [.int .u8 ((f.Kind:Nat):Int),.int .i64 f.From,.int .u64 ((f.ID.N:Nat):Int),.int .i64 f.ID.P,.int .u16 ((f.Set:Nat):Int),.int .u64 ((f.Cur.N:Nat):Int),.int .i64 f.Cur.P,.int .u64 ((f.Prom.N:Nat):Int),.int .i64 f.Prom.P,.slice A14 n15 c16,.int .u64 ((f.Base:Nat):Int),.slice A19 n20 c21,.slice A23 n24 c25,.int .u64 ((f.Ack:Nat):Int),.int .u64 ((f.Safe:Nat):Int)]::L):=hs210.rowNil 5 1
 exact ⟨H,(.slice none 0 0),(Hp.le.refl _),rfl,Small.nil,(by simpa using (RowOk.nil 1)),(((hs229.p1).drop.p1).drop.p1).drop⟩
 have hp228:¬ ((1048572:Int) < ((q212.length:Nat):Int)):=of_decide_eq_false hc228
 refine c_cond_f (t:=false) (.tmp rfl (cVb hc228)) rfl ?_
 refine c_skip (n_then (c_seq (c_region (st (v:=.pointer (some ⟨g59,0,none⟩)) (x_move (.tmp rfl hρ90)) ?_))))
 refine st (v:=.pointer (some ⟨g59,0,none⟩)) (x_nilCheck (.tmp rfl rfl)) ?_
 refine st (v:=.pointer (some ⟨g59,0 + 0,none⟩)) (fa58_0 (.tmp rfl rfl)) ?_
 have hre:q212 = bodyE f:=hrw hc221
 have hbl:(bodyE f).length ≤ 1048572:=by rw [← hre]; omega
 have hs231:=hs210.p1
 have hl232:q212 = bodyE f:=hre
 obtain ⟨hs233,ok234⟩:=St.relist hs231 ok215 hl232
 have sm235:Small (bodyE f):=by rw [← hl232]; exact sm214
 obtain ⟨H236,A237,c238,hle239,hs240,rfl,hp241⟩:=hs233.freezeBs ok234 sm235 (by omega)
 have hy242:By H236 A237 ((bodyE f).length) c238 (bodyE f):=⟨hp241,by omega⟩
 skip
 refine st (v:=.slice A237 ((bodyE f).length) c238) (ld33 (.tmp rfl rfl) (hs240.cell 0 rfl (0 + 0) rfl)) ?_
 refine st_c cb28 .func (evs1 (.tmp rfl rfl)) (seal_spec hs240 hy242.toBs (by omega)) ?_
 rintro e w244 ⟨v243,rfl,ok245,hs246⟩
 refine ⟨_,rfl,?_⟩
 refine st (v:=v243) (x_assign (.tmp rfl rfl)) ?_
 refine st (v:=.int .i64 0) (x_assign .const) ?_
 refine c_nil (n_then (c_ret (leave_ret (res_two (v:=v243) (u:=.int .i64 0) rfl (.mk rfl rfl) (.mk rfl rfl)) ?_)))
 have hl248:(seal_ (bodyE f)) = (encC f).1:=(by rw [encC_yes hfc (by omega)])
 obtain ⟨hs249,ok250⟩:=St.relist hs246 ok245 hl248
 have sm251:Small ((encC f).1):=by rw [← hl248]; exact (seal_small hy242.toBs.lt)
 have hans252:(encC f).2 = 0:=by rw [encC_yes hfc (by omega)]
 rw [hans252]
 exact ⟨H236,v243,hle239,rfl,sm251,(by simpa using ok250),((hs249.p1).drop.p1).drop⟩
 have hp205:¬ ((((f.Kind:Nat):Int):Int) = 4):=of_decide_eq_false hc205
 refine c_cond_f (t:=false) (.tmp rfl (cVb hc205)) rfl ?_
 refine c_seq (c_region (st (v:=.bool (decide ((((f.Kind:Nat):Int):Int) = 5))) (x_eql (k:=.u8) (a:=((f.Kind:Nat):Int)) (b:=5) (.tmp rfl rfl) .const) ?_))
 refine st (v:=.bool (decide ((((f.Kind:Nat):Int):Int) = 5))) (x_assign (.tmp rfl rfl)) ?_
 refine c_nil (n_then ?_)
 rcases Bool.eq_false_or_eq_true (decide ((((f.Kind:Nat):Int):Int) = 5)) with hc253 | hc253
 have hp253:(((f.Kind:Nat):Int):Int) = 5:=of_decide_eq_true hc253
 refine c_cond_t (t:=true) (.tmp rfl (cVb hc253)) rfl ?_
 refine c_seq (c_region (st (v:=.pointer (some ⟨g59,0,none⟩)) (x_move (.tmp rfl hρ90)) ?_))
 refine st (v:=.pointer (some ⟨g29,0 + 4,none⟩)) (fa30_3 (.tmp rfl hρ89)) ?_
 refine st (v:=.int .u16 ((f.Set:Nat):Int)) (ld25 (.tmp rfl rfl) (hs95.cell 2 rfl (0 + 4) rfl)) ?_
 have hb254:f.Set < 18446744073709551616:=Nat.lt_of_lt_of_le b7 (by decide)
 refine st (v:=.int .u64 ((f.Set:Nat):Int)) (x_conv (k:=.u16) (a:=((f.Set:Nat):Int)) Try.underlying25 Try.underlying22 (.tmp rfl rfl) (wU rfl rfl hb254)) ?_
 have hs255:=hs95.p1
 have hs256:=hs255.p1
 refine st_c cb24 .func (evs2 (.tmp rfl rfl) (.tmp rfl rfl)) (num_spec hs256 sm80 ok81 f.Set hb254 (by omega)) ?_
 rintro e w257 ⟨v259,q260,b261,rfl,sm262,ok263,hb264,hq265,hn266,hs258⟩
 refine ⟨_,rfl,?_⟩
 refine c_nil (n_then (c_region ?_))
 have hc267:=ch_call hc96 hb264
 have hq268:=ch_list hb264 hq97 hq265
 skip
 refine st (v:=.pointer (some ⟨g59,0,none⟩)) (x_move (.tmp rfl hρ90)) ?_
 refine st (v:=.pointer (some ⟨g29,0 + 9,none⟩)) (fa30_6 (.tmp rfl hρ89)) ?_
 refine st (v:=.slice A14 n15 c16) (ld26 (.tmp rfl rfl) (hs258.cell 2 rfl (0 + 9) rfl)) ?_
 have hs269:=hs258.p1
 have hs270:=hs269.p1
 refine st_c cb25 .func (evs2 (.tmp rfl rfl) (.tmp rfl rfl)) (wstates_spec hs270 sm262 ok263 f.States hl17 (by omega)) ?_
 rintro e w271 ⟨v273,q274,b275,rfl,sm276,ok277,hb278,hq279,hn280,hs272⟩
 refine ⟨_,rfl,?_⟩
 refine c_nil ?_
 have hc281:=ch_call hc267 hb278
 have hq282:=ch_list hb278 hq268 hq279
 refine n_block (n_then (c_seq (c_seq (c_region ?_))))
 have hK:f.Kind = 5:=by omega
 have hbo:bodyOk f = ((((true && formVI f.ID) && decide (f.ID.N ≠ 0)) && true) && okStates f.States):=by unfold bodyOk idOk frKindOk; simp [hK,Bool.and_assoc]
 have hbe:bodyE f = ((([f.Kind,(f.From % 256).toNat] ++ vidE f.ID) ++ uenc f.Set) ++ statesE f.States):=by unfold bodyE idE kindE msgsE; simp [hK,List.append_assoc]
 have hbd:b275 = !bodyOk f:=by rw [hbo]; exact hc281
 have hrw:b275 = false → q274 = bodyE f:=by rw [hbe]; exact hq282
 skip
 refine st (v:=.pointer (some ⟨g59,0,none⟩)) (x_move (.tmp rfl hρ90)) ?_
 refine st (v:=.pointer (some ⟨g59,0,none⟩)) (x_nilCheck (.tmp rfl rfl)) ?_
 refine st (v:=.pointer (some ⟨g59,0 + 1,none⟩)) (fa58_1 (.tmp rfl rfl)) ?_
 refine st (v:=.bool b275) (ld4 (.tmp rfl rfl) (hs272.cell 0 rfl (0 + 1) rfl)) ?_
 refine c_nil (n_then ?_)
 rcases Bool.eq_false_or_eq_true b275 with hc283 | hc283
 refine c_cond_t (t:=true) (.tmp rfl (cVb hc283)) rfl ?_
 refine c_seq (c_region (st (v:=.slice none 0 0) (x_assign .const) ?_))
 refine st (v:=.int .i64 3) (x_assign .const) ?_
 refine c_nil (n_then (c_ret (r_then (leave_ret (res_two (v:=.slice none 0 0) (u:=.int .i64 3) rfl (.mk rfl rfl) (.mk rfl rfl)) ?_))))
 rw [encC_no (formC_body (by cases h9:bodyOk f with | false => rfl | true => rw [h9] at hbd; rw [hc283] at hbd; cases hbd))]
 have hs284:St H _ (row 5 1 (.slice none 0 0) 0 ([].map encB)::obj g59 58 [v273,.bool b275]::row 5 1 v273 q274.length (q274.map encB)::obj g29 30 [.int .u8 ((f.Kind:Nat):Int),.int .i64 f.From,.int .u64 ((f.ID.N:Nat):Int),.int .i64 f.ID.P,.int .u16 ((f.Set:Nat):Int),.int .u64 ((f.Cur.N:Nat):Int),.int .i64 f.Cur.P,.int .u64 ((f.Prom.N:Nat):Int),.int .i64 f.Prom.P,.slice A14 n15 c16,.int .u64 ((f.Base:Nat):Int),.slice A19 n20 c21,.slice A23 n24 c25,.int .u64 ((f.Ack:Nat):Int),.int .u64 ((f.Safe:Nat):Int)]::L):=hs272.rowNil 5 1
 exact ⟨H,(.slice none 0 0),(Hp.le.refl _),rfl,Small.nil,(by simpa using (RowOk.nil 1)),(((hs284.p1).drop.p1).drop.p1).drop⟩
 refine c_cond_f (t:=false) (.tmp rfl (cVb hc283)) rfl ?_
 refine c_skip (n_then (c_seq (c_seq (c_region ?_))))
 have hfc:formC f = true:=formC_yes (by omega) hba (by cases h9:bodyOk f with | true => rfl | false => rw [h9] at hbd; rw [hc283] at hbd; cases hbd)
 skip
 refine st (v:=.pointer (some ⟨g59,0,none⟩)) (x_move (.tmp rfl hρ90)) ?_
 refine st (v:=.pointer (some ⟨g59,0,none⟩)) (x_nilCheck (.tmp rfl rfl)) ?_
 refine st (v:=.pointer (some ⟨g59,0 + 0,none⟩)) (fa58_0 (.tmp rfl rfl)) ?_
 refine st (v:=v273) (ld33 (.tmp rfl rfl) (hs272.cell 0 rfl (0 + 0) rfl)) ?_
 obtain ⟨A286,c287,hv288,hc289⟩:=ok277.slice
 refine st (v:=.int .i64 ((q274.length:Nat):Int)) (x_len (n:=q274.length) Try.underlying33 (.tmp rfl hv288)) ?_
 refine st (v:=.bool (decide ((1048572:Int) < ((q274.length:Nat):Int)))) (x_gtr (k:=.i64) (a:=((q274.length:Nat):Int)) (b:=1048572) (.tmp rfl rfl) .const) ?_
 refine c_nil (n_then ?_)
 rcases Bool.eq_false_or_eq_true (decide ((1048572:Int) < ((q274.length:Nat):Int))) with hc290 | hc290
 have hp290:(1048572:Int) < ((q274.length:Nat):Int):=of_decide_eq_true hc290
 refine c_cond_t (t:=true) (.tmp rfl (cVb hc290)) rfl ?_
 refine c_seq (c_region (st (v:=.slice none 0 0) (x_assign .const) ?_))
 refine st (v:=.int .i64 2) (x_assign .const) ?_
 refine c_nil (n_then (c_ret (r_then (leave_ret (res_two (v:=.slice none 0 0) (u:=.int .i64 2) rfl (.mk rfl rfl) (.mk rfl rfl)) ?_))))
 have hre:q274 = bodyE f:=hrw hc283
 rw [encC_long hfc (by rw [← hre]; omega)]
 have hs291:St H _ (row 5 1 (.slice none 0 0) 0 ([].map encB)::obj g59 58 [v273,.bool b275]::row 5 1 v273 q274.length (q274.map encB)::obj g29 30 [.int .u8 ((f.Kind:Nat):Int),.int .i64 f.From,.int .u64 ((f.ID.N:Nat):Int),.int .i64 f.ID.P,.int .u16 ((f.Set:Nat):Int),.int .u64 ((f.Cur.N:Nat):Int),.int .i64 f.Cur.P,.int .u64 ((f.Prom.N:Nat):Int),.int .i64 f.Prom.P,.slice A14 n15 c16,.int .u64 ((f.Base:Nat):Int),.slice A19 n20 c21,.slice A23 n24 c25,.int .u64 ((f.Ack:Nat):Int),.int .u64 ((f.Safe:Nat):Int)]::L):=hs272.rowNil 5 1
 exact ⟨H,(.slice none 0 0),(Hp.le.refl _),rfl,Small.nil,(by simpa using (RowOk.nil 1)),(((hs291.p1).drop.p1).drop.p1).drop⟩
 have hp290:¬ ((1048572:Int) < ((q274.length:Nat):Int)):=of_decide_eq_false hc290
 refine c_cond_f (t:=false) (.tmp rfl (cVb hc290)) rfl ?_
 refine c_skip (n_then (c_seq (c_region (st (v:=.pointer (some ⟨g59,0,none⟩)) (x_move (.tmp rfl hρ90)) ?_))))
 refine st (v:=.pointer (some ⟨g59,0,none⟩)) (x_nilCheck (.tmp rfl rfl)) ?_
 refine st (v:=.pointer (some ⟨g59,0 + 0,none⟩)) (fa58_0 (.tmp rfl rfl)) ?_
 have hre:q274 = bodyE f:=hrw hc283
 have hbl:(bodyE f).length ≤ 1048572:=by rw [← hre]; omega
 have hs293:=hs272.p1
 have hl294:q274 = bodyE f:=hre
 obtain ⟨hs295,ok296⟩:=St.relist hs293 ok277 hl294
 have sm297:Small (bodyE f):=by rw [← hl294]; exact sm276
 obtain ⟨H298,A299,c300,hle301,hs302,rfl,hp303⟩:=hs295.freezeBs ok296 sm297 (by omega)
 have hy304:By H298 A299 ((bodyE f).length) c300 (bodyE f):=⟨hp303,by omega⟩
 skip
 refine st (v:=.slice A299 ((bodyE f).length) c300) (ld33 (.tmp rfl rfl) (hs302.cell 0 rfl (0 + 0) rfl)) ?_
 refine st_c cb28 .func (evs1 (.tmp rfl rfl)) (seal_spec hs302 hy304.toBs (by omega)) ?_
 rintro e w306 ⟨v305,rfl,ok307,hs308⟩
 refine ⟨_,rfl,?_⟩
 refine st (v:=v305) (x_assign (.tmp rfl rfl)) ?_
 refine st (v:=.int .i64 0) (x_assign .const) ?_
 refine c_nil (n_then (c_ret (leave_ret (res_two (v:=v305) (u:=.int .i64 0) rfl (.mk rfl rfl) (.mk rfl rfl)) ?_)))
 have hl310:(seal_ (bodyE f)) = (encC f).1:=(by rw [encC_yes hfc (by omega)])
 obtain ⟨hs311,ok312⟩:=St.relist hs308 ok307 hl310
 have sm313:Small ((encC f).1):=by rw [← hl310]; exact (seal_small hy304.toBs.lt)
 have hans314:(encC f).2 = 0:=by rw [encC_yes hfc (by omega)]
 rw [hans314]
 exact ⟨H298,v305,hle301,rfl,sm313,(by simpa using ok312),((hs311.p1).drop.p1).drop⟩
 have hp253:¬ ((((f.Kind:Nat):Int):Int) = 5):=of_decide_eq_false hc253
 refine c_cond_f (t:=false) (.tmp rfl (cVb hc253)) rfl ?_
 refine c_seq (c_region (st (v:=.bool (decide ((((f.Kind:Nat):Int):Int) = 6))) (x_eql (k:=.u8) (a:=((f.Kind:Nat):Int)) (b:=6) (.tmp rfl rfl) .const) ?_))
 refine st (v:=.bool (decide ((((f.Kind:Nat):Int):Int) = 6))) (x_assign (.tmp rfl rfl)) ?_
 refine c_nil (n_then ?_)
 rcases Bool.eq_false_or_eq_true (decide ((((f.Kind:Nat):Int):Int) = 6)) with hc315 | hc315
 have hp315:(((f.Kind:Nat):Int):Int) = 6:=of_decide_eq_true hc315
 refine c_cond_t (t:=true) (.tmp rfl (cVb hc315)) rfl ?_
 refine c_seq (c_region (st (v:=.pointer (some ⟨g59,0,none⟩)) (x_move (.tmp rfl hρ90)) ?_))
 refine st (v:=.pointer (some ⟨g29,0 + 10,none⟩)) (fa30_7 (.tmp rfl hρ89)) ?_
 refine st (v:=.int .u64 ((f.Base:Nat):Int)) (ld22 (.tmp rfl rfl) (hs95.cell 2 rfl (0 + 10) rfl)) ?_
 have hs316:=hs95.p1
 have hs317:=hs316.p1
 refine st_c cb24 .func (evs2 (.tmp rfl rfl) (.tmp rfl rfl)) (num_spec hs317 sm80 ok81 f.Base b18 (by omega)) ?_
 rintro e w318 ⟨v320,q321,b322,rfl,sm323,ok324,hb325,hq326,hn327,hs319⟩
 refine ⟨_,rfl,?_⟩
 refine c_nil (n_then (c_seq (c_region ?_)))
 have hc328:=ch_call hc96 hb325
 have hq329:=ch_list hb325 hq97 hq326
 skip
 refine st (v:=.pointer (some ⟨g59,0,none⟩)) (x_move (.tmp rfl hρ90)) ?_
 refine st (v:=.pointer (some ⟨g29,0 + 13,none⟩)) (fa30_10 (.tmp rfl hρ89)) ?_
 refine st (v:=.int .u64 ((f.Ack:Nat):Int)) (ld22 (.tmp rfl rfl) (hs319.cell 2 rfl (0 + 13) rfl)) ?_
 have hs330:=hs319.p1
 have hs331:=hs330.p1
 refine st_c cb24 .func (evs2 (.tmp rfl rfl) (.tmp rfl rfl)) (num_spec hs331 sm323 ok324 f.Ack b27 (by omega)) ?_
 rintro e w332 ⟨v334,q335,b336,rfl,sm337,ok338,hb339,hq340,hn341,hs333⟩
 refine ⟨_,rfl,?_⟩
 refine c_nil (n_then (c_seq (c_region ?_)))
 have hc342:=ch_call hc328 hb339
 have hq343:=ch_list hb339 hq329 hq340
 skip
 skip
 refine st (v:=.pointer (some ⟨g59,0,none⟩)) (x_move (.tmp rfl hρ90)) ?_
 refine st (v:=.pointer (some ⟨g59,0,none⟩)) (x_move (.tmp rfl hρ90)) ?_
 refine st (v:=.pointer (some ⟨g59,0,none⟩)) (x_nilCheck (.tmp rfl rfl)) ?_
 refine st (v:=.pointer (some ⟨g59,0 + 1,none⟩)) (fa58_1 (.tmp rfl rfl)) ?_
 refine st (v:=.bool b336) (ld4 (.tmp rfl rfl) (hs333.cell 0 rfl (0 + 1) rfl)) ?_
 refine st (v:=.bool b336) (x_move (.tmp rfl rfl)) ?_
 refine jw 5 (fun ρ w => ρ 133 = .bool (b336 || (decide ((4096:Int) < ((n20:Nat):Int))))∧ρ 1 = .pointer (some ⟨g29,0,none⟩)∧ρ 4 = .pointer (some ⟨g59,0,none⟩)∧ρ 123 = .pointer (some ⟨g59,0,none⟩)∧St H w (obj g59 58 [v334,.bool b336]::row 5 1 v334 q335.length (q335.map encB)::obj g29 30 [.int .u8 ((f.Kind:Nat):Int),.int .i64 f.From,.int .u64 ((f.ID.N:Nat):Int),.int .i64 f.ID.P,.int .u16 ((f.Set:Nat):Int),.int .u64 ((f.Cur.N:Nat):Int),.int .i64 f.Cur.P,.int .u64 ((f.Prom.N:Nat):Int),.int .i64 f.Prom.P,.slice A14 n15 c16,.int .u64 ((f.Base:Nat):Int),.slice A19 n20 c21,.slice A23 n24 c25,.int .u64 ((f.Ack:Nat):Int),.int .u64 ((f.Safe:Nat):Int)]::L)) ?_ ?_
 rcases Bool.eq_false_or_eq_true b336 with hc344 | hc344
 refine g_no (yk 128 true rfl rfl hc344) rfl ?_
 refine g_no (yk 128 true rfl rfl hc344) rfl ?_
 refine g_no (yk 128 true rfl rfl hc344) rfl ?_
 refine g_no (yk 128 true rfl rfl hc344) rfl ?_
 refine st (v:=.bool true) (x_pick_t (.tmp rfl (cVb hc344)) .const) ?_
 exact jw_end ⟨(cVb (jor_t hc344)),hρ89,hρ90,rfl,hs333⟩
 refine g_yes (yk 128 false rfl rfl hc344) ?_
 refine st (v:=.pointer (some ⟨g29,0 + 11,none⟩)) (fa30_8 (.tmp rfl hρ89)) ?_
 refine g_yes (yk 128 false rfl rfl hc344) ?_
 refine st (v:=.slice A19 n20 c21) (ld27 (.tmp rfl rfl) (hs333.cell 2 rfl (0 + 11) rfl)) ?_
 refine g_yes (yk 128 false rfl rfl hc344) ?_
 refine st (v:=.int .i64 ((n20:Nat):Int)) (x_len (n:=n20) Try.underlying27 (.tmp rfl rfl)) ?_
 refine g_yes (yk 128 false rfl rfl hc344) ?_
 refine st (v:=.bool (decide ((4096:Int) < ((n20:Nat):Int)))) (x_gtr (k:=.i64) (a:=((n20:Nat):Int)) (b:=4096) (.tmp rfl rfl) .const) ?_
 refine st (v:=.bool (decide ((4096:Int) < ((n20:Nat):Int)))) (x_pick_f (.tmp rfl (cVb hc344)) (.tmp rfl rfl)) ?_
 exact jw_end ⟨(cVb (jor_f hc344)),hρ89,hρ90,rfl,hs333⟩
 rintro ρ w ⟨hρ345,hρ346,hρ347,hρ348,hs349⟩
 refine st (v:=.pointer (some ⟨g59,0,none⟩)) (x_nilCheck (.tmp rfl hρ348)) ?_
 refine st (v:=.pointer (some ⟨g59,0 + 1,none⟩)) (fa58_1 (.tmp rfl rfl)) ?_
 refine st_m0 (sto4 (cs':=[v334,.bool (b336 || (decide ((4096:Int) < ((n20:Nat):Int))))]) (i:=0 + 1) hs349 (v:=.bool (b336 || (decide ((4096:Int) < ((n20:Nat):Int))))) (.tmp rfl rfl) (.tmp rfl hρ345) rfl (Nat.le_of_ble_eq_true rfl) one1 rfl) ?_
 rintro w350 hs352
 refine c_nil (n_then (c_seq (c_region ?_)))
 have hc353:(b336 || (decide ((4096:Int) < ((n20:Nat):Int)))) = !(((((true && formVI f.ID) && decide (f.ID.N ≠ 0)) && true) && true) && decide (f.Msgs.length ≤ 4096)):=ch_or_ (b:=b336) hc342 (dec_not (by omega))
 have hq354:(b336 || (decide ((4096:Int) < ((n20:Nat):Int)))) = false → q335 = ((([f.Kind,(f.From % 256).toNat] ++ vidE f.ID) ++ uenc f.Base) ++ uenc f.Ack):=ch_orq (b:=b336) hq343
 skip
 refine st (v:=.pointer (some ⟨g59,0,none⟩)) (x_move (.tmp rfl hρ347)) ?_
 refine st (v:=.pointer (some ⟨g29,0 + 11,none⟩)) (fa30_8 (.tmp rfl hρ346)) ?_
 refine st (v:=.slice A19 n20 c21) (ld27 (.tmp rfl rfl) (hs352.cell 2 rfl (0 + 11) rfl)) ?_
 refine st (v:=.int .i64 ((n20:Nat):Int)) (x_len (n:=n20) Try.underlying27 (.tmp rfl rfl)) ?_
 have hb355:n20 < 18446744073709551616:=by omega
 refine st (v:=.int .u64 ((n20:Nat):Int)) (x_conv (k:=.i64) (a:=((n20:Nat):Int)) Try.underlying3 Try.underlying22 (.tmp rfl rfl) (wU rfl rfl hb355)) ?_
 have huM2:=uenc_len10 (show n20 < 18446744073709551616 by omega)
 have hs356:=hs352.p1
 have hs357:=hs356.p1
 refine st_c cb24 .func (evs2 (.tmp rfl rfl) (.tmp rfl rfl)) (num_spec hs357 sm337 ok338 n20 hb355 (by omega)) ?_
 rintro e w358 ⟨v360,q361,b362,rfl,sm363,ok364,hb365,hq366,hn367,hs359⟩
 refine ⟨_,rfl,?_⟩
 refine c_nil ?_
 rw [show n20 = f.Msgs.length by omega] at hq366 hn367
 have hc368:=ch_call hc353 hb365
 have hq369:=ch_list hb365 hq354 hq366
 refine n_then (c_seq (c_region (st (v:=.pointer (some ⟨g29,0 + 11,none⟩)) (fa30_8 (.tmp rfl hρ346)) ?_)))
 refine st (v:=.slice A19 n20 c21) (ld27 (.tmp rfl rfl) (hs359.cell 2 rfl (0 + 11) rfl)) ?_
 refine st (v:=.int .i64 ((n20:Nat):Int)) (x_len (n:=n20) Try.underlying27 (.tmp rfl rfl)) ?_
 refine st (v:=.int .i64 0) (x_move .const) ?_
 refine c_nil (n_then (c_block ?_))
 have hf0:(q361 ++ (f.Msgs.take 0).flatMap bytesE) = q361:=by simp
 refine c_loop (fun ρ w mm => ∃ (i:Nat) (v2:Value) (q2:List Nat),ρ 4 = .pointer (some ⟨g59,0,none⟩)∧ρ 143 = .slice A19 n20 c21∧ρ 144 = .int .i64 ((n20:Nat):Int)∧ρ 145 = .int .i64 ((i:Nat):Int)∧(Small q2)∧(RowOk 1 v2 q2.length (q2.map encB))∧(i ≤ f.Msgs.length)∧(q2 = q361 ++ (f.Msgs.take i).flatMap bytesE)∧St H w (obj g59 58 [v2,.bool b362]::row 5 1 v2 q2.length (q2.map encB)::L)∧mm = f.Msgs.length - i) _ ⟨0,v360,q361,hρ347,rfl,rfl,rfl,sm363,ok364,(by omega),hf0.symm,(((hs359.p2).drop.p1).p1),rfl⟩ ?_
 rintro ρ w mm ⟨i,v2,q2,hρ371,hρ372,hρ373,hρ374,sm2,ok2,hi,hq2,hs375,rfl⟩
 refine c_seq (c_region (st (v:=.bool (decide ((((i:Nat):Int):Int) < ((n20:Nat):Int)))) (x_lss (k:=.i64) (a:=((i:Nat):Int)) (b:=((n20:Nat):Int)) (.tmp rfl hρ374) (.tmp rfl hρ373)) ?_))
 refine c_nil (n_then (c_seq ?_))
 rcases Bool.eq_false_or_eq_true (decide ((((i:Nat):Int):Int) < ((n20:Nat):Int))) with hc376 | hc376
 have hp376:(((i:Nat):Int):Int) < ((n20:Nat):Int):=of_decide_eq_true hc376
 refine c_cond_t (t:=true) (.tmp rfl (cVb hc376)) rfl ?_
 refine c_skip (n_then (c_seq (c_block (c_seq (c_region ?_)))))
 obtain ⟨e377,b378,o379,cs380,hx381,hA382,hr383,hat384⟩:=hl22.get (i:=i) (by omega)
 obtain ⟨A385,n386,c387,rfl,hy388⟩:=hr383
 have:=hy388.len; have:=hy388.bnd; have:=hy388.le
 have hat384x:∀ {w:World} {L:List Res},St H w L → At w ⟨b378,o379 + i * 1,none⟩ [.slice A385 n386 c387]:=fun h => hat384 h
 refine st (v:=.pointer (some ⟨b378,(o379 + i * 1),none⟩)) (ixo27 (.tmp rfl hρ372) hA382 (i:=((i:Nat):Int)) (.tmp rfl hρ374) (by omega) (by omega) (by omega)) ?_
 refine st (v:=.slice A385 n386 c387) (ld33 (.tmp rfl rfl) ((hat384x hs375).cell 0 rfl)) ?_
 refine st (v:=.slice A385 n386 c387) (x_assign (.tmp rfl rfl)) ?_
 refine c_nil (n_then (c_region ?_))
 have hfa:=flat_at (g:=bytesE) hx381; have hql:q2.length = q361.length + ((f.Msgs.take i).flatMap bytesE).length:=by rw [hq2,List.length_append]
 refine st (v:=.pointer (some ⟨g59,0,none⟩)) (x_move (.tmp rfl hρ371)) ?_
 refine st (v:=.pointer (some ⟨g59,0,none⟩)) (x_move (.tmp rfl hρ371)) ?_
 refine st (v:=.pointer (some ⟨g59,0,none⟩)) (x_nilCheck (.tmp rfl rfl)) ?_
 refine st (v:=.pointer (some ⟨g59,0 + 0,none⟩)) (fa58_0 (.tmp rfl rfl)) ?_
 refine st (v:=v2) (ld33 (.tmp rfl rfl) (hs375.cell 0 rfl (0 + 0) rfl)) ?_
 refine st (v:=.slice A385 n386 c387) (x_move (.tmp rfl rfl)) ?_
 have hs389:=hs375.p1
 refine st_c cb26 .func (evs2 (.tmp rfl rfl) (.tmp rfl rfl)) (bytes_enc hs389 sm2 ok2 e377 hy388 (by omega)) ?_
 rintro e w390 ⟨v392,rfl,sm395,ok393,hs391⟩
 refine ⟨_,rfl,?_⟩
 refine st (v:=.pointer (some ⟨g59,0,none⟩)) (x_nilCheck (.tmp rfl rfl)) ?_
 refine st (v:=.pointer (some ⟨g59,0 + 0,none⟩)) (fa58_0 (.tmp rfl rfl)) ?_
 obtain ⟨A396,c397,rfl,hc398⟩:=ok393.slice
 have hs399:=hs391.p1
 refine st_m0 (sto33 (cs':=[.slice A396 ((q2 ++ bytesE e377).length) c397,.bool b362]) (i:=0 + 0) hs399 (v:=.slice A396 ((q2 ++ bytesE e377).length) c397) (.tmp rfl rfl) (.tmp rfl rfl) rfl (Nat.le_of_ble_eq_true rfl) one1 rfl) ?_
 rintro w400 hs402
 refine c_nil (n_block (n_then (c_region (st (v:=.int .i64 (((i + 1):Nat):Int)) (x_add (k:=.i64) (a:=((i:Nat):Int)) (b:=1) (.tmp rfl hρ374) .const ((w64 (by omega) (by omega)).trans (by omega))) ?_))))
 refine st (v:=.int .i64 (((i + 1):Nat):Int)) (x_move (.tmp rfl rfl)) ?_
 refine c_nil ?_
 refine n_then ⟨_,_,rfl,?_,(i + 1),.slice A396 ((q2 ++ bytesE e377).length) c397,q2 ++ bytesE e377,hρ371,hρ372,hρ373,rfl,sm395,ok393,(by omega),(by rw [hq2,take_succ' hx381,List.flatMap_append]; simp [List.append_assoc]),((hs402.p1).p1),rfl⟩
 omega
 have hp376:¬ ((((i:Nat):Int):Int) < ((n20:Nat):Int)):=of_decide_eq_false hc376
 refine c_cond_f (t:=false) (.tmp rfl (cVb hc376)) rfl ?_
 refine c_exit (x_then (x_then (x_here (n_block (n_then (c_seq (c_seq (c_region ?_))))))))
 have hi9:i = f.Msgs.length:=by omega
 have hq9:q2 = q361 ++ f.Msgs.flatMap bytesE:=by rw [hq2,hi9,List.take_length]
 have hq403:=ch_app hq369 hq9
 have hK:f.Kind = 6:=by omega
 have hbo:bodyOk f = ((((((true && formVI f.ID) && decide (f.ID.N ≠ 0)) && true) && true) && decide (f.Msgs.length ≤ 4096)) && true):=by unfold bodyOk idOk frKindOk; simp [hK,Bool.and_assoc]
 have hbe:bodyE f = ((((([f.Kind,(f.From % 256).toNat] ++ vidE f.ID) ++ uenc f.Base) ++ uenc f.Ack) ++ uenc f.Msgs.length) ++ f.Msgs.flatMap bytesE):=by unfold bodyE idE kindE msgsE; simp [hK,List.append_assoc]
 have hbd:b362 = !bodyOk f:=by rw [hbo]; exact hc368
 have hrw:b362 = false → q2 = bodyE f:=by rw [hbe]; exact hq403
 skip
 refine st (v:=.pointer (some ⟨g59,0,none⟩)) (x_move (.tmp rfl hρ371)) ?_
 refine st (v:=.pointer (some ⟨g59,0,none⟩)) (x_nilCheck (.tmp rfl rfl)) ?_
 refine st (v:=.pointer (some ⟨g59,0 + 1,none⟩)) (fa58_1 (.tmp rfl rfl)) ?_
 refine st (v:=.bool b362) (ld4 (.tmp rfl rfl) (hs375.cell 0 rfl (0 + 1) rfl)) ?_
 refine c_nil (n_then ?_)
 rcases Bool.eq_false_or_eq_true b362 with hc404 | hc404
 refine c_cond_t (t:=true) (.tmp rfl (cVb hc404)) rfl ?_
 refine c_seq (c_region (st (v:=.slice none 0 0) (x_assign .const) ?_))
 refine st (v:=.int .i64 3) (x_assign .const) ?_
 refine c_nil (n_then (c_ret (r_then (leave_ret (res_two (v:=.slice none 0 0) (u:=.int .i64 3) rfl (.mk rfl rfl) (.mk rfl rfl)) ?_))))
 rw [encC_no (formC_body (by cases h9:bodyOk f with | false => rfl | true => rw [h9] at hbd; rw [hc404] at hbd; cases hbd))]
 have hs405:St H _ (row 5 1 (.slice none 0 0) 0 ([].map encB)::obj g59 58 [v2,.bool b362]::row 5 1 v2 q2.length (q2.map encB)::L):=hs375.rowNil 5 1
 exact ⟨H,(.slice none 0 0),(Hp.le.refl _),rfl,Small.nil,(by simpa using (RowOk.nil 1)),((hs405.p1).drop.p1).drop⟩
 refine c_cond_f (t:=false) (.tmp rfl (cVb hc404)) rfl ?_
 refine c_skip (n_then (c_seq (c_seq (c_region ?_))))
 have hfc:formC f = true:=formC_yes (by omega) hba (by cases h9:bodyOk f with | true => rfl | false => rw [h9] at hbd; rw [hc404] at hbd; cases hbd)
 skip
 refine st (v:=.pointer (some ⟨g59,0,none⟩)) (x_move (.tmp rfl hρ371)) ?_
 refine st (v:=.pointer (some ⟨g59,0,none⟩)) (x_nilCheck (.tmp rfl rfl)) ?_
 refine st (v:=.pointer (some ⟨g59,0 + 0,none⟩)) (fa58_0 (.tmp rfl rfl)) ?_
 refine st (v:=v2) (ld33 (.tmp rfl rfl) (hs375.cell 0 rfl (0 + 0) rfl)) ?_
 obtain ⟨A407,c408,hv409,hc410⟩:=ok2.slice
 refine st (v:=.int .i64 ((q2.length:Nat):Int)) (x_len (n:=q2.length) Try.underlying33 (.tmp rfl hv409)) ?_
 refine st (v:=.bool (decide ((1048572:Int) < ((q2.length:Nat):Int)))) (x_gtr (k:=.i64) (a:=((q2.length:Nat):Int)) (b:=1048572) (.tmp rfl rfl) .const) ?_
 refine c_nil (n_then ?_)
 rcases Bool.eq_false_or_eq_true (decide ((1048572:Int) < ((q2.length:Nat):Int))) with hc411 | hc411
 have hp411:(1048572:Int) < ((q2.length:Nat):Int):=of_decide_eq_true hc411
 refine c_cond_t (t:=true) (.tmp rfl (cVb hc411)) rfl ?_
 refine c_seq (c_region (st (v:=.slice none 0 0) (x_assign .const) ?_))
 refine st (v:=.int .i64 2) (x_assign .const) ?_
 refine c_nil (n_then (c_ret (r_then (leave_ret (res_two (v:=.slice none 0 0) (u:=.int .i64 2) rfl (.mk rfl rfl) (.mk rfl rfl)) ?_))))
 have hre:q2 = bodyE f:=hrw hc404
 rw [encC_long hfc (by rw [← hre]; omega)]
 have hs412:St H _ (row 5 1 (.slice none 0 0) 0 ([].map encB)::obj g59 58 [v2,.bool b362]::row 5 1 v2 q2.length (q2.map encB)::L):=hs375.rowNil 5 1
 exact ⟨H,(.slice none 0 0),(Hp.le.refl _),rfl,Small.nil,(by simpa using (RowOk.nil 1)),((hs412.p1).drop.p1).drop⟩
 have hp411:¬ ((1048572:Int) < ((q2.length:Nat):Int)):=of_decide_eq_false hc411
 refine c_cond_f (t:=false) (.tmp rfl (cVb hc411)) rfl ?_
 refine c_skip (n_then (c_seq (c_region (st (v:=.pointer (some ⟨g59,0,none⟩)) (x_move (.tmp rfl hρ371)) ?_))))
 refine st (v:=.pointer (some ⟨g59,0,none⟩)) (x_nilCheck (.tmp rfl rfl)) ?_
 refine st (v:=.pointer (some ⟨g59,0 + 0,none⟩)) (fa58_0 (.tmp rfl rfl)) ?_
 have hre:q2 = bodyE f:=hrw hc404
 have hbl:(bodyE f).length ≤ 1048572:=by rw [← hre]; omega
 have hs414:=hs375.p1
 have hl415:q2 = bodyE f:=hre
 obtain ⟨hs416,ok417⟩:=St.relist hs414 ok2 hl415
 have sm418:Small (bodyE f):=by rw [← hl415]; exact sm2
 obtain ⟨H419,A420,c421,hle422,hs423,rfl,hp424⟩:=hs416.freezeBs ok417 sm418 (by omega)
 have hy425:By H419 A420 ((bodyE f).length) c421 (bodyE f):=⟨hp424,by omega⟩
 skip
 refine st (v:=.slice A420 ((bodyE f).length) c421) (ld33 (.tmp rfl rfl) (hs423.cell 0 rfl (0 + 0) rfl)) ?_
 refine st_c cb28 .func (evs1 (.tmp rfl rfl)) (seal_spec hs423 hy425.toBs (by omega)) ?_
 rintro e w427 ⟨v426,rfl,ok428,hs429⟩
 refine ⟨_,rfl,?_⟩
 refine st (v:=v426) (x_assign (.tmp rfl rfl)) ?_
 refine st (v:=.int .i64 0) (x_assign .const) ?_
 refine c_nil (n_then (c_ret (leave_ret (res_two (v:=v426) (u:=.int .i64 0) rfl (.mk rfl rfl) (.mk rfl rfl)) ?_)))
 have hl431:(seal_ (bodyE f)) = (encC f).1:=(by rw [encC_yes hfc (by omega)])
 obtain ⟨hs432,ok433⟩:=St.relist hs429 ok428 hl431
 have sm434:Small ((encC f).1):=by rw [← hl431]; exact (seal_small hy425.toBs.lt)
 have hans435:(encC f).2 = 0:=by rw [encC_yes hfc (by omega)]
 rw [hans435]
 exact ⟨H419,v426,hle422,rfl,sm434,(by simpa using ok433),(hs432.p1).drop⟩
 have hp315:¬ ((((f.Kind:Nat):Int):Int) = 6):=of_decide_eq_false hc315
 refine c_cond_f (t:=false) (.tmp rfl (cVb hc315)) rfl ?_
 refine c_seq (c_region (st (v:=.bool (decide ((((f.Kind:Nat):Int):Int) = 7))) (x_eql (k:=.u8) (a:=((f.Kind:Nat):Int)) (b:=7) (.tmp rfl rfl) .const) ?_))
 refine st (v:=.bool (decide ((((f.Kind:Nat):Int):Int) = 7))) (x_assign (.tmp rfl rfl)) ?_
 refine c_nil (n_then ?_)
 have hc436:(decide ((((f.Kind:Nat):Int):Int) = 7)) = true:=(decide_eq_true (by omega))
 refine c_cond_t (t:=true) (.tmp rfl (cVb hc436)) rfl ?_
 refine c_seq (c_region (st (v:=.pointer (some ⟨g59,0,none⟩)) (x_move (.tmp rfl hρ90)) ?_))
 refine st (v:=.pointer (some ⟨g29,0 + 10,none⟩)) (fa30_7 (.tmp rfl hρ89)) ?_
 refine st (v:=.int .u64 ((f.Base:Nat):Int)) (ld22 (.tmp rfl rfl) (hs95.cell 2 rfl (0 + 10) rfl)) ?_
 have hs437:=hs95.p1
 have hs438:=hs437.p1
 refine st_c cb24 .func (evs2 (.tmp rfl rfl) (.tmp rfl rfl)) (num_spec hs438 sm80 ok81 f.Base b18 (by omega)) ?_
 rintro e w439 ⟨v441,q442,b443,rfl,sm444,ok445,hb446,hq447,hn448,hs440⟩
 refine ⟨_,rfl,?_⟩
 refine c_nil (n_then (c_seq (c_region ?_)))
 have hc449:=ch_call hc96 hb446
 have hq450:=ch_list hb446 hq97 hq447
 skip
 refine st (v:=.pointer (some ⟨g59,0,none⟩)) (x_move (.tmp rfl hρ90)) ?_
 refine st (v:=.pointer (some ⟨g29,0 + 13,none⟩)) (fa30_10 (.tmp rfl hρ89)) ?_
 refine st (v:=.int .u64 ((f.Ack:Nat):Int)) (ld22 (.tmp rfl rfl) (hs440.cell 2 rfl (0 + 13) rfl)) ?_
 have hs451:=hs440.p1
 have hs452:=hs451.p1
 refine st_c cb24 .func (evs2 (.tmp rfl rfl) (.tmp rfl rfl)) (num_spec hs452 sm444 ok445 f.Ack b27 (by omega)) ?_
 rintro e w453 ⟨v455,q456,b457,rfl,sm458,ok459,hb460,hq461,hn462,hs454⟩
 refine ⟨_,rfl,?_⟩
 refine c_nil (n_then (c_seq (c_region ?_)))
 have hc463:=ch_call hc449 hb460
 have hq464:=ch_list hb460 hq450 hq461
 skip
 refine st (v:=.pointer (some ⟨g59,0,none⟩)) (x_move (.tmp rfl hρ90)) ?_
 refine st (v:=.pointer (some ⟨g29,0 + 14,none⟩)) (fa30_11 (.tmp rfl hρ89)) ?_
 refine st (v:=.int .u64 ((f.Safe:Nat):Int)) (ld22 (.tmp rfl rfl) (hs454.cell 2 rfl (0 + 14) rfl)) ?_
 have hs465:=hs454.p1
 have hs466:=hs465.p1
 refine st_c cb24 .func (evs2 (.tmp rfl rfl) (.tmp rfl rfl)) (num_spec hs466 sm458 ok459 f.Safe b28 (by omega)) ?_
 rintro e w467 ⟨v469,q470,b471,rfl,sm472,ok473,hb474,hq475,hn476,hs468⟩
 refine ⟨_,rfl,?_⟩
 refine c_nil (n_then (c_region ?_))
 have hc477:=ch_call hc463 hb474
 have hq478:=ch_list hb474 hq464 hq475
 skip
 refine st (v:=.pointer (some ⟨g59,0,none⟩)) (x_move (.tmp rfl hρ90)) ?_
 refine st (v:=.pointer (some ⟨g29,0 + 12,none⟩)) (fa30_9 (.tmp rfl hρ89)) ?_
 refine st (v:=.slice A23 n24 c25) (ld28 (.tmp rfl rfl) (hs468.cell 2 rfl (0 + 12) rfl)) ?_
 have hs479:=hs468.p1
 have hs480:=hs479.p1
 refine st_c cb27 .func (evs2 (.tmp rfl rfl) (.tmp rfl rfl)) (witems_spec hs480 sm472 ok473 f.Items hl26 (by omega)) ?_
 rintro e w481 ⟨v483,q484,b485,rfl,sm486,ok487,hb488,hq489,hn490,hs482⟩
 refine ⟨_,rfl,?_⟩
 refine c_nil ?_
 have hc491:=ch_call hc477 hb488
 have hq492:=ch_list hb488 hq478 hq489
 refine n_block (n_then (c_seq (c_seq (c_region ?_))))
 have hK:f.Kind = 7:=by omega
 have hbo:bodyOk f = ((((((true && formVI f.ID) && decide (f.ID.N ≠ 0)) && true) && true) && true) && okItems f.Items):=by unfold bodyOk idOk frKindOk; simp [hK,Bool.and_assoc]
 have hbe:bodyE f = ((((([f.Kind,(f.From % 256).toNat] ++ vidE f.ID) ++ uenc f.Base) ++ uenc f.Ack) ++ uenc f.Safe) ++ itemsE f.Items):=by unfold bodyE idE kindE msgsE; simp [hK,List.append_assoc]
 have hbd:b485 = !bodyOk f:=by rw [hbo]; exact hc491
 have hrw:b485 = false → q484 = bodyE f:=by rw [hbe]; exact hq492
 skip
 refine st (v:=.pointer (some ⟨g59,0,none⟩)) (x_move (.tmp rfl hρ90)) ?_
 refine st (v:=.pointer (some ⟨g59,0,none⟩)) (x_nilCheck (.tmp rfl rfl)) ?_
 refine st (v:=.pointer (some ⟨g59,0 + 1,none⟩)) (fa58_1 (.tmp rfl rfl)) ?_
 refine st (v:=.bool b485) (ld4 (.tmp rfl rfl) (hs482.cell 0 rfl (0 + 1) rfl)) ?_
 refine c_nil (n_then ?_)
 rcases Bool.eq_false_or_eq_true b485 with hc493 | hc493
 refine c_cond_t (t:=true) (.tmp rfl (cVb hc493)) rfl ?_
 refine c_seq (c_region (st (v:=.slice none 0 0) (x_assign .const) ?_))
 refine st (v:=.int .i64 3) (x_assign .const) ?_
 refine c_nil (n_then (c_ret (r_then (leave_ret (res_two (v:=.slice none 0 0) (u:=.int .i64 3) rfl (.mk rfl rfl) (.mk rfl rfl)) ?_))))
 rw [encC_no (formC_body (by cases h9:bodyOk f with | false => rfl | true => rw [h9] at hbd; rw [hc493] at hbd; cases hbd))]
 have hs494:St H _ (row 5 1 (.slice none 0 0) 0 ([].map encB)::obj g59 58 [v483,.bool b485]::row 5 1 v483 q484.length (q484.map encB)::obj g29 30 [.int .u8 ((f.Kind:Nat):Int),.int .i64 f.From,.int .u64 ((f.ID.N:Nat):Int),.int .i64 f.ID.P,.int .u16 ((f.Set:Nat):Int),.int .u64 ((f.Cur.N:Nat):Int),.int .i64 f.Cur.P,.int .u64 ((f.Prom.N:Nat):Int),.int .i64 f.Prom.P,.slice A14 n15 c16,.int .u64 ((f.Base:Nat):Int),.slice A19 n20 c21,.slice A23 n24 c25,.int .u64 ((f.Ack:Nat):Int),.int .u64 ((f.Safe:Nat):Int)]::L):=hs482.rowNil 5 1
 exact ⟨H,(.slice none 0 0),(Hp.le.refl _),rfl,Small.nil,(by simpa using (RowOk.nil 1)),(((hs494.p1).drop.p1).drop.p1).drop⟩
 refine c_cond_f (t:=false) (.tmp rfl (cVb hc493)) rfl ?_
 refine c_skip (n_then (c_seq (c_seq (c_region ?_))))
 have hfc:formC f = true:=formC_yes (by omega) hba (by cases h9:bodyOk f with | true => rfl | false => rw [h9] at hbd; rw [hc493] at hbd; cases hbd)
 skip
 refine st (v:=.pointer (some ⟨g59,0,none⟩)) (x_move (.tmp rfl hρ90)) ?_
 refine st (v:=.pointer (some ⟨g59,0,none⟩)) (x_nilCheck (.tmp rfl rfl)) ?_
 refine st (v:=.pointer (some ⟨g59,0 + 0,none⟩)) (fa58_0 (.tmp rfl rfl)) ?_
 refine st (v:=v483) (ld33 (.tmp rfl rfl) (hs482.cell 0 rfl (0 + 0) rfl)) ?_
 obtain ⟨A496,c497,hv498,hc499⟩:=ok487.slice
 refine st (v:=.int .i64 ((q484.length:Nat):Int)) (x_len (n:=q484.length) Try.underlying33 (.tmp rfl hv498)) ?_
 refine st (v:=.bool (decide ((1048572:Int) < ((q484.length:Nat):Int)))) (x_gtr (k:=.i64) (a:=((q484.length:Nat):Int)) (b:=1048572) (.tmp rfl rfl) .const) ?_
 refine c_nil (n_then ?_)
 rcases Bool.eq_false_or_eq_true (decide ((1048572:Int) < ((q484.length:Nat):Int))) with hc500 | hc500
 have hp500:(1048572:Int) < ((q484.length:Nat):Int):=of_decide_eq_true hc500
 refine c_cond_t (t:=true) (.tmp rfl (cVb hc500)) rfl ?_
 refine c_seq (c_region (st (v:=.slice none 0 0) (x_assign .const) ?_))
 refine st (v:=.int .i64 2) (x_assign .const) ?_
 refine c_nil (n_then (c_ret (r_then (leave_ret (res_two (v:=.slice none 0 0) (u:=.int .i64 2) rfl (.mk rfl rfl) (.mk rfl rfl)) ?_))))
 have hre:q484 = bodyE f:=hrw hc493
 rw [encC_long hfc (by rw [← hre]; omega)]
 have hs501:St H _ (row 5 1 (.slice none 0 0) 0 ([].map encB)::obj g59 58 [v483,.bool b485]::row 5 1 v483 q484.length (q484.map encB)::obj g29 30 [.int .u8 ((f.Kind:Nat):Int),.int .i64 f.From,.int .u64 ((f.ID.N:Nat):Int),.int .i64 f.ID.P,.int .u16 ((f.Set:Nat):Int),.int .u64 ((f.Cur.N:Nat):Int),.int .i64 f.Cur.P,.int .u64 ((f.Prom.N:Nat):Int),.int .i64 f.Prom.P,.slice A14 n15 c16,.int .u64 ((f.Base:Nat):Int),.slice A19 n20 c21,.slice A23 n24 c25,.int .u64 ((f.Ack:Nat):Int),.int .u64 ((f.Safe:Nat):Int)]::L):=hs482.rowNil 5 1
 exact ⟨H,(.slice none 0 0),(Hp.le.refl _),rfl,Small.nil,(by simpa using (RowOk.nil 1)),(((hs501.p1).drop.p1).drop.p1).drop⟩
 have hp500:¬ ((1048572:Int) < ((q484.length:Nat):Int)):=of_decide_eq_false hc500
 refine c_cond_f (t:=false) (.tmp rfl (cVb hc500)) rfl ?_
 refine c_skip (n_then (c_seq (c_region (st (v:=.pointer (some ⟨g59,0,none⟩)) (x_move (.tmp rfl hρ90)) ?_))))
 refine st (v:=.pointer (some ⟨g59,0,none⟩)) (x_nilCheck (.tmp rfl rfl)) ?_
 refine st (v:=.pointer (some ⟨g59,0 + 0,none⟩)) (fa58_0 (.tmp rfl rfl)) ?_
 have hre:q484 = bodyE f:=hrw hc493
 have hbl:(bodyE f).length ≤ 1048572:=by rw [← hre]; omega
 have hs503:=hs482.p1
 have hl504:q484 = bodyE f:=hre
 obtain ⟨hs505,ok506⟩:=St.relist hs503 ok487 hl504
 have sm507:Small (bodyE f):=by rw [← hl504]; exact sm486
 obtain ⟨H508,A509,c510,hle511,hs512,rfl,hp513⟩:=hs505.freezeBs ok506 sm507 (by omega)
 have hy514:By H508 A509 ((bodyE f).length) c510 (bodyE f):=⟨hp513,by omega⟩
 skip
 refine st (v:=.slice A509 ((bodyE f).length) c510) (ld33 (.tmp rfl rfl) (hs512.cell 0 rfl (0 + 0) rfl)) ?_
 refine st_c cb28 .func (evs1 (.tmp rfl rfl)) (seal_spec hs512 hy514.toBs (by omega)) ?_
 rintro e w516 ⟨v515,rfl,ok517,hs518⟩
 refine ⟨_,rfl,?_⟩
 refine st (v:=v515) (x_assign (.tmp rfl rfl)) ?_
 refine st (v:=.int .i64 0) (x_assign .const) ?_
 refine c_nil (n_then (c_ret (leave_ret (res_two (v:=v515) (u:=.int .i64 0) rfl (.mk rfl rfl) (.mk rfl rfl)) ?_)))
 have hl520:(seal_ (bodyE f)) = (encC f).1:=(by rw [encC_yes hfc (by omega)])
 obtain ⟨hs521,ok522⟩:=St.relist hs518 ok517 hl520
 have sm523:Small ((encC f).1):=by rw [← hl520]; exact (seal_small hy514.toBs.lt)
 have hans524:(encC f).2 = 0:=by rw [encC_yes hfc (by omega)]
 rw [hans524]
 exact ⟨H508,v515,hle511,rfl,sm523,(by simpa using ok522),((hs521.p1).drop.p1).drop⟩
 have hp72:¬ ((((f.Kind:Nat):Int):Int) ≠ 1):=of_decide_eq_false hc72
 refine c_cond_f (t:=false) (.tmp rfl (cVb hc72)) rfl ?_
 refine c_skip (n_then (c_seq (c_seq (c_region ?_))))
 skip
 refine st (v:=.pointer (some ⟨g29,0 + 0,none⟩)) (fa30_0 (.tmp rfl hρ50)) ?_
 refine st (v:=.int .u8 ((f.Kind:Nat):Int)) (ld5 (.tmp rfl rfl) (hs69.cell 2 rfl (0 + 0) rfl)) ?_
 refine c_nil (n_then (c_block (c_seq (c_region (st (v:=.bool (decide ((((f.Kind:Nat):Int):Int) = 1))) (x_eql (k:=.u8) (a:=((f.Kind:Nat):Int)) (b:=1) (.tmp rfl rfl) .const) ?_)))))
 refine st (v:=.bool (decide ((((f.Kind:Nat):Int):Int) = 1))) (x_assign (.tmp rfl rfl)) ?_
 refine c_nil (n_then ?_)
 have hc525:(decide ((((f.Kind:Nat):Int):Int) = 1)) = true:=(decide_eq_true (by omega))
 refine c_cond_t (t:=true) (.tmp rfl (cVb hc525)) rfl ?_
 refine c_seq (c_region (st (v:=.pointer (some ⟨g59,0,none⟩)) (x_move (.tmp rfl rfl)) ?_))
 refine st (v:=.pointer (some ⟨g29,0 + 5,none⟩)) (fa30_4 (.tmp rfl hρ50)) ?_
 refine st (v:=.agg #[.int .u64 ((f.Cur.N:Nat):Int),.int .i64 f.Cur.P]) (ld24 (cs:=[.int .u64 ((f.Cur.N:Nat):Int),.int .i64 f.Cur.P]) (.tmp rfl rfl) (hs69.at_ 2 rfl (0 + 5) rfl) rfl) ?_
 have hs526:=hs69.p1
 have hr527:kViewID.rep H f.Cur [.int .u64 ((f.Cur.N:Nat):Int),.int .i64 f.Cur.P]:=⟨rfl,b8,⟨b9,b10⟩⟩
 refine st_c cb23 .func (evs2 (.tmp rfl rfl) (.tmp rfl rfl)) (id_spec hs526 sm71 ok70 f.Cur hr527 (by omega)) ?_
 rintro e w528 ⟨v530,q531,b532,rfl,sm533,ok534,hb535,hq536,hn537,hs529⟩
 refine ⟨_,rfl,?_⟩
 refine c_nil (n_then (c_region ?_))
 have hc538:=ch_call hc0 hb535
 have hq539:=ch_list hb535 hq0 hq536
 skip
 refine st (v:=.pointer (some ⟨g59,0,none⟩)) (x_move (.tmp rfl rfl)) ?_
 refine st (v:=.pointer (some ⟨g29,0 + 7,none⟩)) (fa30_5 (.tmp rfl hρ50)) ?_
 refine st (v:=.agg #[.int .u64 ((f.Prom.N:Nat):Int),.int .i64 f.Prom.P]) (ld24 (cs:=[.int .u64 ((f.Prom.N:Nat):Int),.int .i64 f.Prom.P]) (.tmp rfl rfl) (hs529.at_ 2 rfl (0 + 7) rfl) rfl) ?_
 have hs540:=hs529.p1
 have hs541:=hs540.p1
 have hr542:kViewID.rep H f.Prom [.int .u64 ((f.Prom.N:Nat):Int),.int .i64 f.Prom.P]:=⟨rfl,b11,⟨b12,b13⟩⟩
 refine st_c cb23 .func (evs2 (.tmp rfl rfl) (.tmp rfl rfl)) (id_spec hs541 sm533 ok534 f.Prom hr542 (by omega)) ?_
 rintro e w543 ⟨v545,q546,b547,rfl,sm548,ok549,hb550,hq551,hn552,hs544⟩
 refine ⟨_,rfl,?_⟩
 refine c_nil ?_
 have hc553:=ch_call hc538 hb550
 have hq554:=ch_list hb550 hq539 hq551
 refine n_block (n_then (c_seq (c_seq (c_region ?_))))
 have hK:f.Kind = 1:=by omega
 have hbo:bodyOk f = ((true && formVI f.Cur) && formVI f.Prom):=by unfold bodyOk idOk frKindOk; simp [hK,Bool.and_assoc]
 have hbe:bodyE f = (([f.Kind,(f.From % 256).toNat] ++ vidE f.Cur) ++ vidE f.Prom):=by unfold bodyE idE kindE msgsE; simp [hK,List.append_assoc]
 have hbd:b547 = !bodyOk f:=by rw [hbo]; exact hc553
 have hrw:b547 = false → q546 = bodyE f:=by rw [hbe]; exact hq554
 skip
 refine st (v:=.pointer (some ⟨g59,0,none⟩)) (x_move (.tmp rfl rfl)) ?_
 refine st (v:=.pointer (some ⟨g59,0,none⟩)) (x_nilCheck (.tmp rfl rfl)) ?_
 refine st (v:=.pointer (some ⟨g59,0 + 1,none⟩)) (fa58_1 (.tmp rfl rfl)) ?_
 refine st (v:=.bool b547) (ld4 (.tmp rfl rfl) (hs544.cell 0 rfl (0 + 1) rfl)) ?_
 refine c_nil (n_then ?_)
 rcases Bool.eq_false_or_eq_true b547 with hc555 | hc555
 refine c_cond_t (t:=true) (.tmp rfl (cVb hc555)) rfl ?_
 refine c_seq (c_region (st (v:=.slice none 0 0) (x_assign .const) ?_))
 refine st (v:=.int .i64 3) (x_assign .const) ?_
 refine c_nil (n_then (c_ret (r_then (leave_ret (res_two (v:=.slice none 0 0) (u:=.int .i64 3) rfl (.mk rfl rfl) (.mk rfl rfl)) ?_))))
 rw [encC_no (formC_body (by cases h9:bodyOk f with | false => rfl | true => rw [h9] at hbd; rw [hc555] at hbd; cases hbd))]
 have hs556:St H _ (row 5 1 (.slice none 0 0) 0 ([].map encB)::obj g59 58 [v545,.bool b547]::row 5 1 v545 q546.length (q546.map encB)::obj g29 30 [.int .u8 ((f.Kind:Nat):Int),.int .i64 f.From,.int .u64 ((f.ID.N:Nat):Int),.int .i64 f.ID.P,.int .u16 ((f.Set:Nat):Int),.int .u64 ((f.Cur.N:Nat):Int),.int .i64 f.Cur.P,.int .u64 ((f.Prom.N:Nat):Int),.int .i64 f.Prom.P,.slice A14 n15 c16,.int .u64 ((f.Base:Nat):Int),.slice A19 n20 c21,.slice A23 n24 c25,.int .u64 ((f.Ack:Nat):Int),.int .u64 ((f.Safe:Nat):Int)]::L):=hs544.rowNil 5 1
 exact ⟨H,(.slice none 0 0),(Hp.le.refl _),rfl,Small.nil,(by simpa using (RowOk.nil 1)),(((hs556.p1).drop.p1).drop.p1).drop⟩
 refine c_cond_f (t:=false) (.tmp rfl (cVb hc555)) rfl ?_
 refine c_skip (n_then (c_seq (c_seq (c_region ?_))))
 have hfc:formC f = true:=formC_yes (by omega) hba (by cases h9:bodyOk f with | true => rfl | false => rw [h9] at hbd; rw [hc555] at hbd; cases hbd)
 skip
 refine st (v:=.pointer (some ⟨g59,0,none⟩)) (x_move (.tmp rfl rfl)) ?_
 refine st (v:=.pointer (some ⟨g59,0,none⟩)) (x_nilCheck (.tmp rfl rfl)) ?_
 refine st (v:=.pointer (some ⟨g59,0 + 0,none⟩)) (fa58_0 (.tmp rfl rfl)) ?_
 refine st (v:=v545) (ld33 (.tmp rfl rfl) (hs544.cell 0 rfl (0 + 0) rfl)) ?_
 obtain ⟨A558,c559,hv560,hc561⟩:=ok549.slice
 refine st (v:=.int .i64 ((q546.length:Nat):Int)) (x_len (n:=q546.length) Try.underlying33 (.tmp rfl hv560)) ?_
 refine st (v:=.bool (decide ((1048572:Int) < ((q546.length:Nat):Int)))) (x_gtr (k:=.i64) (a:=((q546.length:Nat):Int)) (b:=1048572) (.tmp rfl rfl) .const) ?_
 refine c_nil (n_then ?_)
 rcases Bool.eq_false_or_eq_true (decide ((1048572:Int) < ((q546.length:Nat):Int))) with hc562 | hc562
 have hp562:(1048572:Int) < ((q546.length:Nat):Int):=of_decide_eq_true hc562
 refine c_cond_t (t:=true) (.tmp rfl (cVb hc562)) rfl ?_
 refine c_seq (c_region (st (v:=.slice none 0 0) (x_assign .const) ?_))
 refine st (v:=.int .i64 2) (x_assign .const) ?_
 refine c_nil (n_then (c_ret (r_then (leave_ret (res_two (v:=.slice none 0 0) (u:=.int .i64 2) rfl (.mk rfl rfl) (.mk rfl rfl)) ?_))))
 have hre:q546 = bodyE f:=hrw hc555
 rw [encC_long hfc (by rw [← hre]; omega)]
 have hs563:St H _ (row 5 1 (.slice none 0 0) 0 ([].map encB)::obj g59 58 [v545,.bool b547]::row 5 1 v545 q546.length (q546.map encB)::obj g29 30 [.int .u8 ((f.Kind:Nat):Int),.int .i64 f.From,.int .u64 ((f.ID.N:Nat):Int),.int .i64 f.ID.P,.int .u16 ((f.Set:Nat):Int),.int .u64 ((f.Cur.N:Nat):Int),.int .i64 f.Cur.P,.int .u64 ((f.Prom.N:Nat):Int),.int .i64 f.Prom.P,.slice A14 n15 c16,.int .u64 ((f.Base:Nat):Int),.slice A19 n20 c21,.slice A23 n24 c25,.int .u64 ((f.Ack:Nat):Int),.int .u64 ((f.Safe:Nat):Int)]::L):=hs544.rowNil 5 1
 exact ⟨H,(.slice none 0 0),(Hp.le.refl _),rfl,Small.nil,(by simpa using (RowOk.nil 1)),(((hs563.p1).drop.p1).drop.p1).drop⟩
 have hp562:¬ ((1048572:Int) < ((q546.length:Nat):Int)):=of_decide_eq_false hc562
 refine c_cond_f (t:=false) (.tmp rfl (cVb hc562)) rfl ?_
 refine c_skip (n_then (c_seq (c_region (st (v:=.pointer (some ⟨g59,0,none⟩)) (x_move (.tmp rfl rfl)) ?_))))
 refine st (v:=.pointer (some ⟨g59,0,none⟩)) (x_nilCheck (.tmp rfl rfl)) ?_
 refine st (v:=.pointer (some ⟨g59,0 + 0,none⟩)) (fa58_0 (.tmp rfl rfl)) ?_
 have hre:q546 = bodyE f:=hrw hc555
 have hbl:(bodyE f).length ≤ 1048572:=by rw [← hre]; omega
 have hs565:=hs544.p1
 have hl566:q546 = bodyE f:=hre
 obtain ⟨hs567,ok568⟩:=St.relist hs565 ok549 hl566
 have sm569:Small (bodyE f):=by rw [← hl566]; exact sm548
 obtain ⟨H570,A571,c572,hle573,hs574,rfl,hp575⟩:=hs567.freezeBs ok568 sm569 (by omega)
 have hy576:By H570 A571 ((bodyE f).length) c572 (bodyE f):=⟨hp575,by omega⟩
 skip
 refine st (v:=.slice A571 ((bodyE f).length) c572) (ld33 (.tmp rfl rfl) (hs574.cell 0 rfl (0 + 0) rfl)) ?_
 refine st_c cb28 .func (evs1 (.tmp rfl rfl)) (seal_spec hs574 hy576.toBs (by omega)) ?_
 rintro e w578 ⟨v577,rfl,ok579,hs580⟩
 refine ⟨_,rfl,?_⟩
 refine st (v:=v577) (x_assign (.tmp rfl rfl)) ?_
 refine st (v:=.int .i64 0) (x_assign .const) ?_
 refine c_nil (n_then (c_ret (leave_ret (res_two (v:=v577) (u:=.int .i64 0) rfl (.mk rfl rfl) (.mk rfl rfl)) ?_)))
 have hl582:(seal_ (bodyE f)) = (encC f).1:=(by rw [encC_yes hfc (by omega)])
 obtain ⟨hs583,ok584⟩:=St.relist hs580 ok579 hl582
 have sm585:Small ((encC f).1):=by rw [← hl582]; exact (seal_small hy576.toBs.lt)
 have hans586:(encC f).2 = 0:=by rw [encC_yes hfc (by omega)]
 rw [hans586]
 exact ⟨H570,v577,hle573,rfl,sm585,(by simpa using ok584),((hs583.p1).drop.p1).drop⟩
end Go.Proofs.Ytlfihfmmhhcigaa

set_option linter.unusedVariables false
set_option linter.unusedSimpArgs false
namespace Go.Proofs.Ytlfihfmmhhcigaa
open Go Go.FM Go.Proofs
attribute [local irreducible] wpList wpQuiet wpS Code.wp Calls
set_option maxHeartbeats 8000000 in
theorem rbytes_enc {H:Hp} {w:World} {L:List Res} (hs:St H w (L)) {A_b:Option Addr} {n_b c_b:Nat} (b:List Nat) (h_b:By H A_b n_b c_b b):Calls Try.prog 62 #[.slice A_b n_b c_b] w (fun e w' => ∃ (v0:Value),e = .returned (v0)∧Small (bytesE b)∧RowOk 1 v0 (bytesE b).length ((bytesE b).map encB)∧St H w' (row 5 1 v0 (bytesE b).length ((bytesE b).map encB)::L)):=by
 have:=h_b.len; have:=h_b.le; have:=h_b.bnd
 refine enter (args:=[.slice A_b n_b c_b]) (N:=11) Try.func62 rfl rfl rfl ?_
 refine c_seq (c_region (st (v:=.slice none 0 0) (x_assign .const) ?_))
 refine c_nil (n_then (c_seq (c_region (st (v:=.slice A_b n_b c_b) (x_move (.tmp rfl rfl)) ?_))))
 refine st (v:=.int .i64 ((n_b:Nat):Int)) (x_len (n:=n_b) Try.underlying33 (.tmp rfl rfl)) ?_
 have hb1:n_b < 18446744073709551616:=by omega
 refine st (v:=.int .u64 ((n_b:Nat):Int)) (x_conv (k:=.i64) (a:=((n_b:Nat):Int)) Try.underlying3 Try.underlying22 (.tmp rfl rfl) (wU rfl rfl hb1)) ?_
 have h10b:=uenc_len10 (show n_b < 18446744073709551616 by omega)
 refine st_c cb42 .func (evs1 (.tmp rfl rfl)) (ruintf_spec hs n_b hb1) ?_
 rintro e w3 ⟨v2,rfl,ok4,hs5⟩
 refine ⟨_,rfl,?_⟩
 refine st (v:=v2) (x_assign (.tmp rfl rfl)) ?_
 refine c_nil (n_then (c_seq (c_region (st (v:=v2) (x_move (.tmp rfl rfl)) ?_))))
 refine st (v:=.slice A_b n_b c_b) (x_move (.tmp rfl rfl)) ?_
 refine st_m (m_appBs Try.underlying33 inf5 hs5 ok4 (.tmp rfl rfl) (.tmp rfl rfl) h_b.toBs (by omega)) ?_
 rintro v7 w8 ⟨ok9,hs10⟩
 refine st (v:=v7) (x_assign (.tmp rfl rfl)) ?_
 refine c_nil (n_then (c_ret (leave_ret (res_one (v:=v7) rfl (.mk rfl rfl)) ?_)))
 have hl11:((uenc n_b) ++ b) = bytesE b:=(by unfold bytesE; rw [show b.length = n_b from h_b.len])
 obtain ⟨hs12,ok13⟩:=St.relist hs10 ok9 hl11
 have sm14:Small (bytesE b):=by rw [← hl11]; exact ((uenc_small _).append h_b.toBs.lt)
 exact ⟨v7,rfl,sm14,(by simpa using ok13),hs12⟩
set_option maxHeartbeats 8000000 in
theorem rvid_enc {H:Hp} {w:World} {L:List Res} (hs:St H w (L)) (v:GViewID) {k_v:List Value} (h_v:kViewID.rep H v k_v):Calls Try.prog 41 #[.agg k_v.toArray] w (fun e w' => ∃ (v0:Value),e = .returned (v0)∧Small (vidE v)∧RowOk 1 v0 (vidE v).length ((vidE v).map encB)∧St H w' (row 5 1 v0 (vidE v).length ((vidE v).map encB)::L)):=by
 obtain ⟨rfl,b1,⟨b2,b3⟩⟩:=h_v
 refine enter (args:=[.agg #[.int .u64 ((v.N:Nat):Int),.int .i64 v.P]]) (N:=13) Try.func41 rfl rfl rfl ?_
 have h10v:=uenc_len10 (show v.N < 18446744073709551616 by omega)
 refine c_seq (c_region (st_m (m_box (cs:=[.int .u64 ((v.N:Nat):Int),.int .i64 v.P]) hs (v:=.agg #[.int .u64 ((v.N:Nat):Int),.int .i64 v.P]) (.tmp rfl rfl) rfl) ?_))
 rintro _ w5 ⟨g4,rfl,hs7⟩
 refine st (v:=.slice none 0 0) (x_assign .const) ?_
 refine c_nil (n_then (c_seq (c_region (st (v:=.pointer (some ⟨g4,0 + 0,none⟩)) (fa24_0 (.tmp rfl rfl)) ?_))))
 refine st (v:=.int .u64 ((v.N:Nat):Int)) (ld22 (.tmp rfl rfl) (hs7.cell 0 rfl (0 + 0) rfl)) ?_
 refine st_c cb42 .func (evs1 (.tmp rfl rfl)) (ruintf_spec hs7 v.N b1) ?_
 rintro e w9 ⟨v8,rfl,ok10,hs11⟩
 refine ⟨_,rfl,?_⟩
 refine st (v:=v8) (x_assign (.tmp rfl rfl)) ?_
 refine c_nil (n_then (c_seq (c_region (st (v:=v8) (x_move (.tmp rfl rfl)) ?_))))
 refine st (v:=.pointer (some ⟨g4,0 + 1,none⟩)) (fa24_1 (.tmp rfl rfl)) ?_
 refine st (v:=.int .i64 v.P) (ld3 (.tmp rfl rfl) (hs11.cell 1 rfl (0 + 1) rfl)) ?_
 refine st (v:=.int .u8 (((v.P % 256).toNat:Nat):Int)) (x_conv (k:=.i64) (a:=v.P) Try.underlying3 Try.underlying5 (.tmp rfl rfl) (wrapU _ rfl _)) ?_
 refine st_m (m_lit (n:=1) (ps:=[(0,.int .u8 (((v.P % 256).toNat:Nat):Int))]) (cs:=[.int .u8 (((v.P % 256).toNat:Nat):Int)]) Try.underlying33 inf5 (.cons (.tmp rfl rfl) Evp.nil) (by decide) (by decide) rfl rfl hs11) ?_
 rintro _ w14 ⟨g13,rfl,hs16⟩
 have hs17:=hs16.p1
 refine st_m (m_appAt (bs:=[((v.P % 256).toNat)]) Try.underlying33 inf5 hs17 ok10 (.tmp rfl rfl) (.tmp rfl rfl) rfl (hs17.at_ 1 rfl 0 rfl) (by omega)) ?_
 rintro v18 w19 ⟨ok20,hs21⟩
 refine st (v:=v18) (x_assign (.tmp rfl rfl)) ?_
 refine c_nil (n_then (c_ret (leave_ret (res_one (v:=v18) rfl (.mk rfl rfl)) ?_)))
 have hl22:((uenc v.N) ++ [((v.P % 256).toNat)]) = vidE v:=(by unfold vidE; rfl)
 obtain ⟨hs23,ok24⟩:=St.relist hs21 ok20 hl22
 have sm25:Small (vidE v):=by rw [← hl22]; exact ((uenc_small _).append (Small.cons (by omega) Small.nil))
 exact ⟨v18,rfl,sm25,(by simpa using ok24),((hs23.p1).drop.p1).drop⟩
set_option maxHeartbeats 8000000 in
theorem ritems_enc {H:Hp} {w:World} {L:List Res} (hs:St H w (L)) {A_l:Option Addr} {n_l c_l:Nat} (l:(List GItem)) (h_l:Sl kItem H A_l n_l c_l l) (hroom:(itemsE l).length ≤ 140737488350000):Calls Try.prog 45 #[.slice A_l n_l c_l] w (fun e w' => ∃ (v0:Value),e = .returned (v0)∧Small (itemsE l)∧RowOk 1 v0 (itemsE l).length ((itemsE l).map encB)∧St H w' (row 5 1 v0 (itemsE l).length ((itemsE l).map encB)::L)):=by
 have:=h_l.len; have:=h_l.le; have:n_l * 32 ≤ 140737488351232:=h_l.bnd
 refine enter (args:=[.slice A_l n_l c_l]) (N:=33) Try.func45 rfl rfl rfl ?_
 refine c_seq (c_region (st (v:=.slice none 0 0) (x_assign .const) ?_))
 refine c_nil (n_then (c_seq (c_region (st (v:=.slice A_l n_l c_l) (x_move (.tmp rfl rfl)) ?_))))
 refine st (v:=.int .i64 ((n_l:Nat):Int)) (x_len (n:=n_l) Try.underlying28 (.tmp rfl rfl)) ?_
 have hb1:n_l < 18446744073709551616:=by omega
 refine st (v:=.int .u64 ((n_l:Nat):Int)) (x_conv (k:=.i64) (a:=((n_l:Nat):Int)) Try.underlying3 Try.underlying22 (.tmp rfl rfl) (wU rfl rfl hb1)) ?_
 have h10l:=uenc_len10 (show n_l < 18446744073709551616 by omega)
 have h10m:=uenc_len10 (show l.length < 18446744073709551616 by omega)
 have hit:(itemsE l).length = (uenc l.length).length + (l.flatMap itemE).length:=by unfold itemsE; rw [List.length_append]
 refine st_c cb42 .func (evs1 (.tmp rfl rfl)) (ruintf_spec hs n_l hb1) ?_
 rintro e w3 ⟨v2,rfl,ok4,hs5⟩
 refine ⟨_,rfl,?_⟩
 refine st (v:=v2) (x_assign (.tmp rfl rfl)) ?_
 refine c_nil (n_then (c_seq (c_seq (c_region (st (v:=.int .i64 0) (x_assign .const) ?_)))))
 refine c_nil (n_then (c_block ?_))
 have hl7:(uenc n_l) = (uenc l.length ++ (l.take 0).flatMap itemE):=(by rw [show l.length = n_l from h_l.len]; simp)
 obtain ⟨hs8,ok9⟩:=St.relist hs5 ok4 hl7
 have sm10:Small (uenc l.length ++ (l.take 0).flatMap itemE):=by rw [← hl7]; exact (uenc_small _)
 refine c_loop (fun ρ w mm => ∃ (p2:List Nat) (v_p2:Value) (i:Nat),ρ 0 = .slice A_l n_l c_l∧ρ 3 = v_p2∧ρ 4 = .int .i64 ((i:Nat):Int)∧(Small p2)∧(RowOk 1 v_p2 p2.length (p2.map encB))∧(i ≤ n_l)∧(p2 = uenc l.length ++ (l.take i).flatMap itemE)∧St H w (row 5 1 v_p2 p2.length (p2.map encB)::L)∧mm = n_l - i) _ ⟨(uenc l.length ++ (l.take 0).flatMap itemE),v2,0,rfl,rfl,rfl,(sm10),ok9,(by omega),rfl,hs8,rfl⟩ ?_
 rintro ρ w mm ⟨p2,v_p2,i,hρ12,hρ13,hρ14,sm_p2,ok_p2,hi,hp2,hs15,rfl⟩
 refine c_seq (c_seq (c_region (st (v:=.int .i64 ((i:Nat):Int)) (x_move (.tmp rfl hρ14)) ?_)))
 refine st (v:=.slice A_l n_l c_l) (x_move (.tmp rfl hρ12)) ?_
 refine st (v:=.int .i64 ((n_l:Nat):Int)) (x_len (n:=n_l) Try.underlying28 (.tmp rfl rfl)) ?_
 refine st (v:=.bool (decide ((((i:Nat):Int):Int) < ((n_l:Nat):Int)))) (x_lss (k:=.i64) (a:=((i:Nat):Int)) (b:=((n_l:Nat):Int)) (.tmp rfl rfl) (.tmp rfl rfl)) ?_
 refine c_nil (n_then ?_)
 rcases Bool.eq_false_or_eq_true (decide ((((i:Nat):Int):Int) < ((n_l:Nat):Int))) with hc16 | hc16
 have hp16:(((i:Nat):Int):Int) < ((n_l:Nat):Int):=of_decide_eq_true hc16
 refine c_cond_t (t:=true) (.tmp rfl (cVb hc16)) rfl ?_
 refine c_skip (n_then (c_seq (c_block (c_seq (c_region ?_)))))
 obtain ⟨e17,b18,o19,cs20,hx21,hA22,hr23,hat24⟩:=h_l.get (i:=i) (by omega)
 obtain ⟨A27,n28,c29,rfl,⟨b25,b26⟩,hy30⟩:=hr23
 have:=hy30.len; have:=hy30.bnd; have:=hy30.le
 have hat24x:∀ {w:World} {L:List Res},St H w L → At w ⟨b18,o19 + i * 2,none⟩ [.int .i64 e17.From,.slice A27 n28 c29]:=fun h => hat24 h
 have hfa:=flat_at (g:=itemE) hx21
 have hpl:p2.length = (uenc l.length).length + ((l.take i).flatMap itemE).length:=by rw [hp2,List.length_append]
 have hil:(itemE e17).length = _:=itemE_len e17
 skip
 refine st (v:=v_p2) (x_move (.tmp rfl hρ13)) ?_
 refine st (v:=.slice A_l n_l c_l) (x_move (.tmp rfl hρ12)) ?_
 refine st (v:=.int .i64 ((i:Nat):Int)) (x_move (.tmp rfl hρ14)) ?_
 refine st (v:=.pointer (some ⟨b18,(o19 + i * 2),none⟩)) (ixo28 (.tmp rfl rfl) hA22 (i:=((i:Nat):Int)) (.tmp rfl rfl) (by omega) (by omega) (by omega)) ?_
 refine st (v:=.pointer (some ⟨b18,(o19 + i * 2) + 0,none⟩)) (fa49_0 (.tmp rfl rfl)) ?_
 refine st (v:=.int .i64 e17.From) (ld3 (.tmp rfl rfl) ((hat24x hs15).cell 0 rfl)) ?_
 refine st (v:=.int .u8 (((e17.From % 256).toNat:Nat):Int)) (x_conv (k:=.i64) (a:=e17.From) Try.underlying3 Try.underlying5 (.tmp rfl rfl) (wrapU _ rfl _)) ?_
 refine st_m (m_lit (n:=1) (ps:=[(0,.int .u8 (((e17.From % 256).toNat:Nat):Int))]) (cs:=[.int .u8 (((e17.From % 256).toNat:Nat):Int)]) Try.underlying33 inf5 (.cons (.tmp rfl rfl) Evp.nil) (by decide) (by decide) rfl rfl hs15) ?_
 rintro _ w32 ⟨g31,rfl,hs34⟩
 have hs35:=hs34.p1
 refine st_m (m_appAt (bs:=[((e17.From % 256).toNat)]) Try.underlying33 inf5 hs35 ok_p2 (.tmp rfl rfl) (.tmp rfl rfl) rfl (hs35.at_ 1 rfl 0 rfl) (by omega)) ?_
 rintro v36 w37 ⟨ok38,hs39⟩
 refine st (v:=v36) (x_assign (.tmp rfl rfl)) ?_
 refine c_nil (n_then (c_region (st (v:=v36) (x_move (.tmp rfl rfl)) ?_)))
 refine st (v:=.slice A_l n_l c_l) (x_move (.tmp rfl hρ12)) ?_
 refine st (v:=.int .i64 ((i:Nat):Int)) (x_move (.tmp rfl hρ14)) ?_
 refine st (v:=.pointer (some ⟨b18,(o19 + i * 2),none⟩)) (ixo28 (.tmp rfl rfl) hA22 (i:=((i:Nat):Int)) (.tmp rfl rfl) (by omega) (by omega) (by omega)) ?_
 refine st (v:=.pointer (some ⟨b18,(o19 + i * 2) + 1,none⟩)) (fa49_1 (.tmp rfl rfl)) ?_
 refine st (v:=.slice A27 n28 c29) (ld33 (.tmp rfl rfl) ((hat24x hs39).cell 1 rfl)) ?_
 refine st_c cb62 .func (evs1 (.tmp rfl rfl)) (rbytes_enc hs39 e17.M hy30 ) ?_
 rintro e w40 ⟨v42,rfl,sm45,ok43,hs41⟩
 refine ⟨_,rfl,?_⟩
 have hs46:=hs41.p1
 have hl47:(p2 ++ [((e17.From % 256).toNat)]) = (p2 ++ [((e17.From % 256).toNat)]):=rfl
 obtain ⟨hs48,ok49⟩:=St.relist hs46 ok38 hl47
 have sm50:Small (p2 ++ [((e17.From % 256).toNat)]):=by rw [← hl47]; exact (sm_p2.append (Small.cons (by omega) Small.nil))
 refine st_m (m_appRowB (l:=(p2 ++ [((e17.From % 256).toNat)])) Try.underlying33 inf5 hs48 ok49 (.tmp rfl rfl) 1 rfl ok43 (.tmp rfl rfl) (by first | omega | (simp only [List.length_append,List.length_singleton,List.length_cons,List.length_nil]; omega))) ?_
 rintro v51 w52 ⟨ok53,hs54⟩
 refine st (v:=v51) (x_assign (.tmp rfl rfl)) ?_
 refine c_nil (n_block (n_then (c_region (st (v:=.int .i64 ((i:Nat):Int)) (x_move (.tmp rfl hρ14)) ?_))))
 refine st (v:=.int .i64 (((i + 1):Nat):Int)) (x_add (k:=.i64) (a:=((i:Nat):Int)) (b:=1) (.tmp rfl rfl) .const ((w64 (by omega) (by omega)).trans (by omega))) ?_
 refine st (v:=.int .i64 (((i + 1):Nat):Int)) (x_assign (.tmp rfl rfl)) ?_
 refine c_nil ?_
 have hl55:((p2 ++ [((e17.From % 256).toNat)]) ++ bytesE e17.M) = ((p2 ++ [((e17.From % 256).toNat)]) ++ bytesE e17.M):=rfl
 obtain ⟨hs56,ok57⟩:=St.relist hs54 ok53 hl55
 have sm58:Small ((p2 ++ [((e17.From % 256).toNat)]) ++ bytesE e17.M):=by rw [← hl55]; exact (sm50.append sm45)
 refine n_then ⟨_,_,rfl,?_,((p2 ++ [((e17.From % 256).toNat)]) ++ bytesE e17.M),v51,(i + 1),hρ12,rfl,rfl,(sm58),ok57,(by omega),(by rw [hp2,take_succ' hx21,List.flatMap_append]; simp [itemE,List.append_assoc]),((hs56.p1).drop.p1).drop,rfl⟩
 omega
 have hp16:¬ ((((i:Nat):Int):Int) < ((n_l:Nat):Int)):=of_decide_eq_false hc16
 refine c_cond_f (t:=false) (.tmp rfl (cVb hc16)) rfl ?_
 refine c_exit (x_then (x_then (x_here (n_then (c_seq (c_region (st (v:=v_p2) (x_move (.tmp rfl hρ13)) ?_)))))))
 refine st (v:=v_p2) (x_assign (.tmp rfl rfl)) ?_
 refine c_nil (n_then (c_ret (leave_ret (res_one (v:=v_p2) rfl (.mk rfl rfl)) ?_)))
 have hl59:p2 = itemsE l:=(by rw [hp2,List.take_of_length_le (show l.length ≤ i by omega)]; rfl)
 obtain ⟨hs60,ok61⟩:=St.relist hs15 ok_p2 hl59
 have sm62:Small (itemsE l):=by rw [← hl59]; exact sm_p2
 exact ⟨v_p2,rfl,sm62,(by simpa using ok61),hs60⟩
set_option maxHeartbeats 8000000 in
theorem rstates_enc {H:Hp} {w:World} {L:List Res} (hs:St H w (L)) {A_l:Option Addr} {n_l c_l:Nat} (l:(List GState)) (h_l:Sl kState H A_l n_l c_l l) (hroom:(statesE l).length ≤ 140737488350000):Calls Try.prog 43 #[.slice A_l n_l c_l] w (fun e w' => ∃ (v0:Value),e = .returned (v0)∧Small (statesE l)∧RowOk 1 v0 (statesE l).length ((statesE l).map encB)∧St H w' (row 5 1 v0 (statesE l).length ((statesE l).map encB)::L)):=by
 have:=h_l.len; have:=h_l.le; have:n_l * 48 ≤ 140737488351232:=h_l.bnd
 refine enter (args:=[.slice A_l n_l c_l]) (N:=41) Try.func43 rfl rfl rfl ?_
 refine c_seq (c_region (st (v:=.slice none 0 0) (x_assign .const) ?_))
 refine c_nil (n_then (c_seq (c_region (st (v:=.slice A_l n_l c_l) (x_move (.tmp rfl rfl)) ?_))))
 refine st (v:=.int .i64 ((n_l:Nat):Int)) (x_len (n:=n_l) Try.underlying26 (.tmp rfl rfl)) ?_
 have hb1:n_l < 18446744073709551616:=by omega
 refine st (v:=.int .u64 ((n_l:Nat):Int)) (x_conv (k:=.i64) (a:=((n_l:Nat):Int)) Try.underlying3 Try.underlying22 (.tmp rfl rfl) (wU rfl rfl hb1)) ?_
 have h10l:=uenc_len10 (show n_l < 18446744073709551616 by omega)
 have h10m:=uenc_len10 (show l.length < 18446744073709551616 by omega)
 have hit:(statesE l).length = (uenc l.length).length + (l.flatMap stateE).length:=by unfold statesE; rw [List.length_append]
 refine st_c cb42 .func (evs1 (.tmp rfl rfl)) (ruintf_spec hs n_l hb1) ?_
 rintro e w3 ⟨v2,rfl,ok4,hs5⟩
 refine ⟨_,rfl,?_⟩
 refine st (v:=v2) (x_assign (.tmp rfl rfl)) ?_
 refine c_nil (n_then (c_seq (c_seq (c_region (st (v:=.int .i64 0) (x_assign .const) ?_)))))
 refine c_nil (n_then (c_block ?_))
 have hl7:(uenc n_l) = (uenc l.length ++ (l.take 0).flatMap stateE):=(by rw [show l.length = n_l from h_l.len]; simp)
 obtain ⟨hs8,ok9⟩:=St.relist hs5 ok4 hl7
 have sm10:Small (uenc l.length ++ (l.take 0).flatMap stateE):=by rw [← hl7]; exact (uenc_small _)
 refine c_loop (fun ρ w mm => ∃ (p2:List Nat) (v_p2:Value) (i:Nat),ρ 0 = .slice A_l n_l c_l∧ρ 3 = v_p2∧ρ 4 = .int .i64 ((i:Nat):Int)∧(Small p2)∧(RowOk 1 v_p2 p2.length (p2.map encB))∧(i ≤ n_l)∧(p2 = uenc l.length ++ (l.take i).flatMap stateE)∧St H w (row 5 1 v_p2 p2.length (p2.map encB)::L)∧mm = n_l - i) _ ⟨(uenc l.length ++ (l.take 0).flatMap stateE),v2,0,rfl,rfl,rfl,(sm10),ok9,(by omega),rfl,hs8,rfl⟩ ?_
 rintro ρ w mm ⟨p2,v_p2,i,hρ12,hρ13,hρ14,sm_p2,ok_p2,hi,hp2,hs15,rfl⟩
 refine c_seq (c_seq (c_region (st (v:=.int .i64 ((i:Nat):Int)) (x_move (.tmp rfl hρ14)) ?_)))
 refine st (v:=.slice A_l n_l c_l) (x_move (.tmp rfl hρ12)) ?_
 refine st (v:=.int .i64 ((n_l:Nat):Int)) (x_len (n:=n_l) Try.underlying26 (.tmp rfl rfl)) ?_
 refine st (v:=.bool (decide ((((i:Nat):Int):Int) < ((n_l:Nat):Int)))) (x_lss (k:=.i64) (a:=((i:Nat):Int)) (b:=((n_l:Nat):Int)) (.tmp rfl rfl) (.tmp rfl rfl)) ?_
 refine c_nil (n_then ?_)
 rcases Bool.eq_false_or_eq_true (decide ((((i:Nat):Int):Int) < ((n_l:Nat):Int))) with hc16 | hc16
 have hp16:(((i:Nat):Int):Int) < ((n_l:Nat):Int):=of_decide_eq_true hc16
 refine c_cond_t (t:=true) (.tmp rfl (cVb hc16)) rfl ?_
 refine c_skip (n_then (c_seq (c_block (c_seq (c_region ?_)))))
 obtain ⟨e17,b18,o19,cs20,hx21,hA22,hr23,hat24⟩:=h_l.get (i:=i) (by omega)
 obtain ⟨A30,n31,c32,rfl,b25,⟨b26,b27⟩,⟨b28,b29⟩,hl33⟩:=hr23
 have:=hl33.len; have:n31 * 32 ≤ 140737488351232:=hl33.bnd; have:=hl33.le
 have hat24x:∀ {w:World} {L:List Res},St H w L → At w ⟨b18,o19 + i * 4,none⟩ [.int .u64 ((e17.V.N:Nat):Int),.int .i64 e17.V.P,.int .i64 e17.Floor,.slice A30 n31 c32]:=fun h => hat24 h
 have hfa:=flat_at (g:=stateE) hx21
 have hpl:p2.length = (uenc l.length).length + ((l.take i).flatMap stateE).length:=by rw [hp2,List.length_append]
 have hil:(stateE e17).length = _:=stateE_len e17
 skip
 refine st (v:=v_p2) (x_move (.tmp rfl hρ13)) ?_
 refine st (v:=.slice A_l n_l c_l) (x_move (.tmp rfl hρ12)) ?_
 refine st (v:=.int .i64 ((i:Nat):Int)) (x_move (.tmp rfl hρ14)) ?_
 refine st (v:=.pointer (some ⟨b18,(o19 + i * 4),none⟩)) (ixo26 (.tmp rfl rfl) hA22 (i:=((i:Nat):Int)) (.tmp rfl rfl) (by omega) (by omega) (by omega)) ?_
 refine st (v:=.pointer (some ⟨b18,(o19 + i * 4) + 0,none⟩)) (fa52_0 (.tmp rfl rfl)) ?_
 refine st (v:=.agg #[.int .u64 ((e17.V.N:Nat):Int),.int .i64 e17.V.P]) (ld24 (cs:=[.int .u64 ((e17.V.N:Nat):Int),.int .i64 e17.V.P]) (.tmp rfl rfl) ((hat24x hs15).sub 0 rfl) rfl) ?_
 have hr34:kViewID.rep H e17.V [.int .u64 ((e17.V.N:Nat):Int),.int .i64 e17.V.P]:=⟨rfl,b25,⟨b26,b27⟩⟩
 refine st_c cb41 .func (evs1 (.tmp rfl rfl)) (rvid_enc hs15 e17.V hr34 ) ?_
 rintro e w35 ⟨v37,rfl,sm40,ok38,hs36⟩
 refine ⟨_,rfl,?_⟩
 have hs41:=hs36.p1
 refine st_m (m_appRowB (l:=p2) Try.underlying33 inf5 hs41 ok_p2 (.tmp rfl rfl) 1 rfl ok38 (.tmp rfl rfl) (by first | omega | (simp only [List.length_append,List.length_singleton,List.length_cons,List.length_nil]; omega))) ?_
 rintro v42 w43 ⟨ok44,hs45⟩
 refine st (v:=v42) (x_assign (.tmp rfl rfl)) ?_
 refine c_nil (n_then (c_seq (c_region (st (v:=v42) (x_move (.tmp rfl rfl)) ?_))))
 refine st (v:=.slice A_l n_l c_l) (x_move (.tmp rfl hρ12)) ?_
 refine st (v:=.int .i64 ((i:Nat):Int)) (x_move (.tmp rfl hρ14)) ?_
 refine st (v:=.pointer (some ⟨b18,(o19 + i * 4),none⟩)) (ixo26 (.tmp rfl rfl) hA22 (i:=((i:Nat):Int)) (.tmp rfl rfl) (by omega) (by omega) (by omega)) ?_
 refine st (v:=.pointer (some ⟨b18,(o19 + i * 4) + 2,none⟩)) (fa52_1 (.tmp rfl rfl)) ?_
 refine st (v:=.int .i64 e17.Floor) (ld3 (.tmp rfl rfl) ((hat24x hs45).cell 2 rfl)) ?_
 refine st (v:=.int .u64 (((e17.Floor % 18446744073709551616).toNat:Nat):Int)) (x_conv (k:=.i64) (a:=e17.Floor) Try.underlying3 Try.underlying22 (.tmp rfl rfl) (wrapU _ rfl _)) ?_
 refine st_c cb42 .func (evs1 (.tmp rfl rfl)) (ruintf_spec hs45 ((e17.Floor % 18446744073709551616).toNat) (by omega)) ?_
 rintro e w47 ⟨v46,rfl,ok48,hs49⟩
 refine ⟨_,rfl,?_⟩
 have hs51:=hs49.p1
 have hl52:(p2 ++ vidE e17.V) = (p2 ++ vidE e17.V):=rfl
 obtain ⟨hs53,ok54⟩:=St.relist hs51 ok44 hl52
 have sm55:Small (p2 ++ vidE e17.V):=by rw [← hl52]; exact (sm_p2.append sm40)
 refine st_m (m_appRowB (l:=(p2 ++ vidE e17.V)) Try.underlying33 inf5 hs53 ok54 (.tmp rfl rfl) 1 rfl ok48 (.tmp rfl rfl) (by first | omega | (simp only [List.length_append,List.length_singleton,List.length_cons,List.length_nil]; omega))) ?_
 rintro v56 w57 ⟨ok58,hs59⟩
 refine st (v:=v56) (x_assign (.tmp rfl rfl)) ?_
 refine c_nil (n_then (c_region (st (v:=v56) (x_move (.tmp rfl rfl)) ?_)))
 refine st (v:=.slice A_l n_l c_l) (x_move (.tmp rfl hρ12)) ?_
 refine st (v:=.int .i64 ((i:Nat):Int)) (x_move (.tmp rfl hρ14)) ?_
 refine st (v:=.pointer (some ⟨b18,(o19 + i * 4),none⟩)) (ixo26 (.tmp rfl rfl) hA22 (i:=((i:Nat):Int)) (.tmp rfl rfl) (by omega) (by omega) (by omega)) ?_
 refine st (v:=.pointer (some ⟨b18,(o19 + i * 4) + 3,none⟩)) (fa52_2 (.tmp rfl rfl)) ?_
 refine st (v:=.slice A30 n31 c32) (ld28 (.tmp rfl rfl) ((hat24x hs59).cell 3 rfl)) ?_
 refine st_c cb45 .func (evs1 (.tmp rfl rfl)) (ritems_enc hs59 e17.Items hl33 (by omega)) ?_
 rintro e w60 ⟨v62,rfl,sm65,ok63,hs61⟩
 have:=hl33.len
 refine ⟨_,rfl,?_⟩
 have hs66:=hs61.p1
 have hl67:((p2 ++ vidE e17.V) ++ (uenc ((e17.Floor % 18446744073709551616).toNat))) = ((p2 ++ vidE e17.V) ++ (uenc ((e17.Floor % 18446744073709551616).toNat))):=rfl
 obtain ⟨hs68,ok69⟩:=St.relist hs66 ok58 hl67
 have sm70:Small ((p2 ++ vidE e17.V) ++ (uenc ((e17.Floor % 18446744073709551616).toNat))):=by rw [← hl67]; exact (sm55.append (uenc_small _))
 refine st_m (m_appRowB (l:=((p2 ++ vidE e17.V) ++ (uenc ((e17.Floor % 18446744073709551616).toNat)))) Try.underlying33 inf5 hs68 ok69 (.tmp rfl rfl) 1 rfl ok63 (.tmp rfl rfl) (by first | omega | (simp only [List.length_append,List.length_singleton,List.length_cons,List.length_nil]; omega))) ?_
 rintro v71 w72 ⟨ok73,hs74⟩
 refine st (v:=v71) (x_assign (.tmp rfl rfl)) ?_
 refine c_nil (n_block (n_then (c_region (st (v:=.int .i64 ((i:Nat):Int)) (x_move (.tmp rfl hρ14)) ?_))))
 refine st (v:=.int .i64 (((i + 1):Nat):Int)) (x_add (k:=.i64) (a:=((i:Nat):Int)) (b:=1) (.tmp rfl rfl) .const ((w64 (by omega) (by omega)).trans (by omega))) ?_
 refine st (v:=.int .i64 (((i + 1):Nat):Int)) (x_assign (.tmp rfl rfl)) ?_
 refine c_nil ?_
 have hl75:(((p2 ++ vidE e17.V) ++ (uenc ((e17.Floor % 18446744073709551616).toNat))) ++ itemsE e17.Items) = (((p2 ++ vidE e17.V) ++ (uenc ((e17.Floor % 18446744073709551616).toNat))) ++ itemsE e17.Items):=rfl
 obtain ⟨hs76,ok77⟩:=St.relist hs74 ok73 hl75
 have sm78:Small (((p2 ++ vidE e17.V) ++ (uenc ((e17.Floor % 18446744073709551616).toNat))) ++ itemsE e17.Items):=by rw [← hl75]; exact (sm70.append sm65)
 refine n_then ⟨_,_,rfl,?_,(((p2 ++ vidE e17.V) ++ (uenc ((e17.Floor % 18446744073709551616).toNat))) ++ itemsE e17.Items),v71,(i + 1),hρ12,rfl,rfl,(sm78),ok77,(by omega),(by rw [hp2,take_succ' hx21,List.flatMap_append]; simp [stateE,List.append_assoc]),(((hs76.p1).drop.p1).drop.p1).drop,rfl⟩
 omega
 have hp16:¬ ((((i:Nat):Int):Int) < ((n_l:Nat):Int)):=of_decide_eq_false hc16
 refine c_cond_f (t:=false) (.tmp rfl (cVb hc16)) rfl ?_
 refine c_exit (x_then (x_then (x_here (n_then (c_seq (c_region (st (v:=v_p2) (x_move (.tmp rfl hρ13)) ?_)))))))
 refine st (v:=v_p2) (x_assign (.tmp rfl rfl)) ?_
 refine c_nil (n_then (c_ret (leave_ret (res_one (v:=v_p2) rfl (.mk rfl rfl)) ?_)))
 have hl79:p2 = statesE l:=(by rw [hp2,List.take_of_length_le (show l.length ≤ i by omega)]; rfl)
 obtain ⟨hs80,ok81⟩:=St.relist hs15 ok_p2 hl79
 have sm82:Small (statesE l):=by rw [← hl79]; exact sm_p2
 exact ⟨v_p2,rfl,sm82,(by simpa using ok81),hs80⟩
set_option maxHeartbeats 8000000 in
theorem rmsgs_enc {H:Hp} {w:World} {L:List Res} (hs:St H w (L)) {A_l:Option Addr} {n_l c_l:Nat} (l:(List (List Nat))) (h_l:Sl kBs H A_l n_l c_l l) (hroom:(msgsE l).length ≤ 140737488350000):Calls Try.prog 44 #[.slice A_l n_l c_l] w (fun e w' => ∃ (v0:Value),e = .returned (v0)∧Small (msgsE l)∧RowOk 1 v0 (msgsE l).length ((msgsE l).map encB)∧St H w' (row 5 1 v0 (msgsE l).length ((msgsE l).map encB)::L)):=by
 have:=h_l.len; have:=h_l.le; have:n_l * 24 ≤ 140737488351232:=h_l.bnd
 refine enter (args:=[.slice A_l n_l c_l]) (N:=23) Try.func44 rfl rfl rfl ?_
 refine c_seq (c_region (st (v:=.slice none 0 0) (x_assign .const) ?_))
 refine c_nil (n_then (c_seq (c_region (st (v:=.slice A_l n_l c_l) (x_move (.tmp rfl rfl)) ?_))))
 refine st (v:=.int .i64 ((n_l:Nat):Int)) (x_len (n:=n_l) Try.underlying27 (.tmp rfl rfl)) ?_
 have hb1:n_l < 18446744073709551616:=by omega
 refine st (v:=.int .u64 ((n_l:Nat):Int)) (x_conv (k:=.i64) (a:=((n_l:Nat):Int)) Try.underlying3 Try.underlying22 (.tmp rfl rfl) (wU rfl rfl hb1)) ?_
 have h10l:=uenc_len10 (show n_l < 18446744073709551616 by omega)
 have h10m:=uenc_len10 (show l.length < 18446744073709551616 by omega)
 have hit:(msgsE l).length = (uenc l.length).length + (l.flatMap bytesE).length:=by unfold msgsE; rw [List.length_append]
 refine st_c cb42 .func (evs1 (.tmp rfl rfl)) (ruintf_spec hs n_l hb1) ?_
 rintro e w3 ⟨v2,rfl,ok4,hs5⟩
 refine ⟨_,rfl,?_⟩
 refine st (v:=v2) (x_assign (.tmp rfl rfl)) ?_
 refine c_nil (n_then (c_seq (c_seq (c_region (st (v:=.int .i64 0) (x_assign .const) ?_)))))
 refine c_nil (n_then (c_block ?_))
 have hl7:(uenc n_l) = (uenc l.length ++ (l.take 0).flatMap bytesE):=(by rw [show l.length = n_l from h_l.len]; simp)
 obtain ⟨hs8,ok9⟩:=St.relist hs5 ok4 hl7
 have sm10:Small (uenc l.length ++ (l.take 0).flatMap bytesE):=by rw [← hl7]; exact (uenc_small _)
 refine c_loop (fun ρ w mm => ∃ (p2:List Nat) (v_p2:Value) (i:Nat),ρ 0 = .slice A_l n_l c_l∧ρ 3 = v_p2∧ρ 4 = .int .i64 ((i:Nat):Int)∧(Small p2)∧(RowOk 1 v_p2 p2.length (p2.map encB))∧(i ≤ n_l)∧(p2 = uenc l.length ++ (l.take i).flatMap bytesE)∧St H w (row 5 1 v_p2 p2.length (p2.map encB)::L)∧mm = n_l - i) _ ⟨(uenc l.length ++ (l.take 0).flatMap bytesE),v2,0,rfl,rfl,rfl,(sm10),ok9,(by omega),rfl,hs8,rfl⟩ ?_
 rintro ρ w mm ⟨p2,v_p2,i,hρ12,hρ13,hρ14,sm_p2,ok_p2,hi,hp2,hs15,rfl⟩
 refine c_seq (c_seq (c_region (st (v:=.int .i64 ((i:Nat):Int)) (x_move (.tmp rfl hρ14)) ?_)))
 refine st (v:=.slice A_l n_l c_l) (x_move (.tmp rfl hρ12)) ?_
 refine st (v:=.int .i64 ((n_l:Nat):Int)) (x_len (n:=n_l) Try.underlying27 (.tmp rfl rfl)) ?_
 refine st (v:=.bool (decide ((((i:Nat):Int):Int) < ((n_l:Nat):Int)))) (x_lss (k:=.i64) (a:=((i:Nat):Int)) (b:=((n_l:Nat):Int)) (.tmp rfl rfl) (.tmp rfl rfl)) ?_
 refine c_nil (n_then ?_)
 rcases Bool.eq_false_or_eq_true (decide ((((i:Nat):Int):Int) < ((n_l:Nat):Int))) with hc16 | hc16
 have hp16:(((i:Nat):Int):Int) < ((n_l:Nat):Int):=of_decide_eq_true hc16
 refine c_cond_t (t:=true) (.tmp rfl (cVb hc16)) rfl ?_
 refine c_skip (n_then (c_seq (c_block (c_region ?_))))
 obtain ⟨e17,b18,o19,cs20,hx21,hA22,hr23,hat24⟩:=h_l.get (i:=i) (by omega)
 obtain ⟨A25,n26,c27,rfl,hy28⟩:=hr23
 have:=hy28.len; have:=hy28.bnd; have:=hy28.le
 have hat24x:∀ {w:World} {L:List Res},St H w L → At w ⟨b18,o19 + i * 1,none⟩ [.slice A25 n26 c27]:=fun h => hat24 h
 have hfa:=flat_at (g:=bytesE) hx21
 have hpl:p2.length = (uenc l.length).length + ((l.take i).flatMap bytesE).length:=by rw [hp2,List.length_append]
 have hil:=(by unfold bytesE; rw [List.length_append]:(bytesE e17).length = (uenc e17.length).length + e17.length)
 skip
 refine st (v:=v_p2) (x_move (.tmp rfl hρ13)) ?_
 refine st (v:=.slice A_l n_l c_l) (x_move (.tmp rfl hρ12)) ?_
 refine st (v:=.int .i64 ((i:Nat):Int)) (x_move (.tmp rfl hρ14)) ?_
 refine st (v:=.pointer (some ⟨b18,(o19 + i * 1),none⟩)) (ixo27 (.tmp rfl rfl) hA22 (i:=((i:Nat):Int)) (.tmp rfl rfl) (by omega) (by omega) (by omega)) ?_
 refine st (v:=.slice A25 n26 c27) (ld33 (.tmp rfl rfl) ((hat24x hs15).cell 0 rfl)) ?_
 refine st_c cb62 .func (evs1 (.tmp rfl rfl)) (rbytes_enc hs15 e17 hy28 ) ?_
 rintro e w29 ⟨v31,rfl,sm34,ok32,hs30⟩
 refine ⟨_,rfl,?_⟩
 have hs35:=hs30.p1
 refine st_m (m_appRowB (l:=p2) Try.underlying33 inf5 hs35 ok_p2 (.tmp rfl rfl) 1 rfl ok32 (.tmp rfl rfl) (by first | omega | (simp only [List.length_append,List.length_singleton,List.length_cons,List.length_nil]; omega))) ?_
 rintro v36 w37 ⟨ok38,hs39⟩
 refine st (v:=v36) (x_assign (.tmp rfl rfl)) ?_
 refine c_nil (n_block (n_then (c_region (st (v:=.int .i64 ((i:Nat):Int)) (x_move (.tmp rfl hρ14)) ?_))))
 refine st (v:=.int .i64 (((i + 1):Nat):Int)) (x_add (k:=.i64) (a:=((i:Nat):Int)) (b:=1) (.tmp rfl rfl) .const ((w64 (by omega) (by omega)).trans (by omega))) ?_
 refine st (v:=.int .i64 (((i + 1):Nat):Int)) (x_assign (.tmp rfl rfl)) ?_
 refine c_nil ?_
 have hl40:(p2 ++ bytesE e17) = (p2 ++ bytesE e17):=rfl
 obtain ⟨hs41,ok42⟩:=St.relist hs39 ok38 hl40
 have sm43:Small (p2 ++ bytesE e17):=by rw [← hl40]; exact (sm_p2.append sm34)
 refine n_then ⟨_,_,rfl,?_,(p2 ++ bytesE e17),v36,(i + 1),hρ12,rfl,rfl,(sm43),ok42,(by omega),(by rw [hp2,take_succ' hx21,List.flatMap_append]; simp [bytesE,List.append_assoc]),(hs41.p1).drop,rfl⟩
 omega
 have hp16:¬ ((((i:Nat):Int):Int) < ((n_l:Nat):Int)):=of_decide_eq_false hc16
 refine c_cond_f (t:=false) (.tmp rfl (cVb hc16)) rfl ?_
 refine c_exit (x_then (x_then (x_here (n_then (c_seq (c_region (st (v:=v_p2) (x_move (.tmp rfl hρ13)) ?_)))))))
 refine st (v:=v_p2) (x_assign (.tmp rfl rfl)) ?_
 refine c_nil (n_then (c_ret (leave_ret (res_one (v:=v_p2) rfl (.mk rfl rfl)) ?_)))
 have hl44:p2 = msgsE l:=(by rw [hp2,List.take_of_length_le (show l.length ≤ i by omega)]; rfl)
 obtain ⟨hs45,ok46⟩:=St.relist hs15 ok_p2 hl44
 have sm47:Small (msgsE l):=by rw [← hl44]; exact sm_p2
 exact ⟨v_p2,rfl,sm47,(by simpa using ok46),hs45⟩
end Go.Proofs.Ytlfihfmmhhcigaa
