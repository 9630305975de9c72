/- Steps of the proofs over the functions of this seat, printed by a program (gen.py) and checked by Lean. -/
import Derived.Test.YtlfihfmmhhcigaaW02
import Derived.Test.YtlfihfmmhhcigaaW00
import Derived.Test.YtlfihfmmhhcigaaW01
import Derived.Test.YtlfihfmmhhcigaaW11
set_option linter.unusedVariables false
set_option linter.unusedSimpArgs false
namespace Go.Proofs.Ytlfihfmmhhcigaa
open Go Go.FM Go.Proofs
attribute [local irreducible] wpList wpQuiet wpS Code.wp Calls
set_option maxHeartbeats 8000000 in
theorem frameKeeps_spec {H:Hp} {w:World} {L:List Res} (hs:St H w (L)) (f:GFrame) {k_f:List Value} (h_f:kFrame.rep H f k_f) (hsiz:sizeF f ≤ 1048576) (hfb:FB f):Calls Try.prog 8 #[.agg k_f.toArray] w (fun e w' => e = .returned (.bool true)∧St H w' (L)):=by
 obtain ⟨A14,n15,c16,A19,n20,c21,A23,n24,c25,rfl,b1,⟨b2,b3⟩,b4,⟨b5,b6⟩,b7,b8,⟨b9,b10⟩,b11,⟨b12,b13⟩,hl17,b18,hl22,hl26,b27,b28⟩:=h_f
 have:=hl17.len; have:n15 * 48 ≤ 140737488351232:=hl17.bnd; have:=hl17.le
 have:=hl22.len; have:n20 * 24 ≤ 140737488351232:=hl22.bnd; have:=hl22.le
 have:=hl26.len; have:n24 * 32 ≤ 140737488351232:=hl26.bnd; have:=hl26.le
 refine enter (args:=[.agg #[.int .u8 ((f.Kind:Nat):Int),.int .i64 f.From,.int .u64 ((f.ID.N:Nat):Int),.int .i64 f.ID.P,.int .u16 ((f.Set:Nat):Int),.int .u64 ((f.Cur.N:Nat):Int),.int .i64 f.Cur.P,.int .u64 ((f.Prom.N:Nat):Int),.int .i64 f.Prom.P,.slice A14 n15 c16,.int .u64 ((f.Base:Nat):Int),.slice A19 n20 c21,.slice A23 n24 c25,.int .u64 ((f.Ack:Nat):Int),.int .u64 ((f.Safe:Nat):Int)]]) (N:=138) Try.func8 rfl rfl rfl ?_
 refine c_seq (c_region (st_m (m_box (cs:=[.int .u8 ((f.Kind:Nat):Int),.int .i64 f.From,.int .u64 ((f.ID.N:Nat):Int),.int .i64 f.ID.P,.int .u16 ((f.Set:Nat):Int),.int .u64 ((f.Cur.N:Nat):Int),.int .i64 f.Cur.P,.int .u64 ((f.Prom.N:Nat):Int),.int .i64 f.Prom.P,.slice A14 n15 c16,.int .u64 ((f.Base:Nat):Int),.slice A19 n20 c21,.slice A23 n24 c25,.int .u64 ((f.Ack:Nat):Int),.int .u64 ((f.Safe:Nat):Int)]) hs (v:=.agg #[.int .u8 ((f.Kind:Nat):Int),.int .i64 f.From,.int .u64 ((f.ID.N:Nat):Int),.int .i64 f.ID.P,.int .u16 ((f.Set:Nat):Int),.int .u64 ((f.Cur.N:Nat):Int),.int .i64 f.Cur.P,.int .u64 ((f.Prom.N:Nat):Int),.int .i64 f.Prom.P,.slice A14 n15 c16,.int .u64 ((f.Base:Nat):Int),.slice A19 n20 c21,.slice A23 n24 c25,.int .u64 ((f.Ack:Nat):Int),.int .u64 ((f.Safe:Nat):Int)]) (.tmp rfl rfl) rfl) ?_))
 rintro _ w30 ⟨g29,rfl,hs32⟩
 refine st (v:=.bool false) (x_assign .const) ?_
 refine c_nil (n_then (c_seq (c_seq (c_region (st (v:=.agg #[.int .u8 ((f.Kind:Nat):Int),.int .i64 f.From,.int .u64 ((f.ID.N:Nat):Int),.int .i64 f.ID.P,.int .u16 ((f.Set:Nat):Int),.int .u64 ((f.Cur.N:Nat):Int),.int .i64 f.Cur.P,.int .u64 ((f.Prom.N:Nat):Int),.int .i64 f.Prom.P,.slice A14 n15 c16,.int .u64 ((f.Base:Nat):Int),.slice A19 n20 c21,.slice A23 n24 c25,.int .u64 ((f.Ack:Nat):Int),.int .u64 ((f.Safe:Nat):Int)]) (ld30 (cs:=[.int .u8 ((f.Kind:Nat):Int),.int .i64 f.From,.int .u64 ((f.ID.N:Nat):Int),.int .i64 f.ID.P,.int .u16 ((f.Set:Nat):Int),.int .u64 ((f.Cur.N:Nat):Int),.int .i64 f.Cur.P,.int .u64 ((f.Prom.N:Nat):Int),.int .i64 f.Prom.P,.slice A14 n15 c16,.int .u64 ((f.Base:Nat):Int),.slice A19 n20 c21,.slice A23 n24 c25,.int .u64 ((f.Ack:Nat):Int),.int .u64 ((f.Safe:Nat):Int)]) (.tmp rfl rfl) (hs32.at_ 0 rfl (0) rfl) rfl) ?_)))))
 have hr33:kFrame.rep H f [.int .u8 ((f.Kind:Nat):Int),.int .i64 f.From,.int .u64 ((f.ID.N:Nat):Int),.int .i64 f.ID.P,.int .u16 ((f.Set:Nat):Int),.int .u64 ((f.Cur.N:Nat):Int),.int .i64 f.Cur.P,.int .u64 ((f.Prom.N:Nat):Int),.int .i64 f.Prom.P,.slice A14 n15 c16,.int .u64 ((f.Base:Nat):Int),.slice A19 n20 c21,.slice A23 n24 c25,.int .u64 ((f.Ack:Nat):Int),.int .u64 ((f.Safe:Nat):Int)]:=⟨A14,n15,c16,A19,n20,c21,A23,n24,c25,rfl,b1,⟨b2,b3⟩,b4,⟨b5,b6⟩,b7,b8,⟨b9,b10⟩,b11,⟨b12,b13⟩,hl17,b18,hl22,hl26,b27,b28⟩
 refine st_c cb10 .func (evs1 (.tmp rfl rfl)) (great_spec hs32 f hr33 hsiz) ?_
 rintro e w34 ⟨rfl,hs35⟩
 refine ⟨_,rfl,?_⟩
 refine st (v:=.bool (greatF f)) (x_move (.tmp rfl rfl)) ?_
 refine jw 3 (fun ρ w => ρ 18 = .bool ((greatF f) || false)∧ρ 1 = .pointer (some ⟨g29,0,none⟩)∧St H w (obj g29 30 [.int .u8 ((f.Kind:Nat):Int),.int .i64 f.From,.int .u64 ((f.ID.N:Nat):Int),.int .i64 f.ID.P,.int .u16 ((f.Set:Nat):Int),.int .u64 ((f.Cur.N:Nat):Int),.int .i64 f.Cur.P,.int .u64 ((f.Prom.N:Nat):Int),.int .i64 f.Prom.P,.slice A14 n15 c16,.int .u64 ((f.Base:Nat):Int),.slice A19 n20 c21,.slice A23 n24 c25,.int .u64 ((f.Ack:Nat):Int),.int .u64 ((f.Safe:Nat):Int)]::L)) ?_ ?_
 rcases Bool.eq_false_or_eq_true (greatF f) with hc36 | hc36
 refine g_no (yk 15 true rfl rfl hc36) rfl ?_
 refine g_no (yk 15 true rfl rfl hc36) rfl ?_
 refine st (v:=.bool true) (x_pick_t (.tmp rfl (cVb hc36)) .const) ?_
 exact jw_end ⟨(cVb (jor_t hc36)),rfl,hs35⟩
 refine g_yes (yk 15 false rfl rfl hc36) ?_
 refine st_c cb11 .func (evs0 ) (awake_spec hs35  ) ?_
 rintro e w37 ⟨rfl,hs38⟩
 refine ⟨_,rfl,?_⟩
 refine g_yes (yk 15 false rfl rfl hc36) ?_
 refine st (v:=.bool false) (x_not (b:=true) (.tmp rfl rfl)) ?_
 refine st (v:=.bool false) (x_pick_f (.tmp rfl (cVb hc36)) (.tmp rfl rfl)) ?_
 exact jw_end ⟨(cVb (jor_f hc36)),rfl,hs38⟩
 rintro ρ w ⟨hρ39,hρ40,hs41⟩
 refine st (v:=.bool ((greatF f) || false)) (x_move (.tmp rfl hρ39)) ?_
 refine jw 4 (fun ρ w => ρ 23 = .bool (((greatF f) || false) || (!(formC f)))∧ρ 1 = .pointer (some ⟨g29,0,none⟩)∧St H w (obj g29 30 [.int .u8 ((f.Kind:Nat):Int),.int .i64 f.From,.int .u64 ((f.ID.N:Nat):Int),.int .i64 f.ID.P,.int .u16 ((f.Set:Nat):Int),.int .u64 ((f.Cur.N:Nat):Int),.int .i64 f.Cur.P,.int .u64 ((f.Prom.N:Nat):Int),.int .i64 f.Prom.P,.slice A14 n15 c16,.int .u64 ((f.Base:Nat):Int),.slice A19 n20 c21,.slice A23 n24 c25,.int .u64 ((f.Ack:Nat):Int),.int .u64 ((f.Safe:Nat):Int)]::L)) ?_ ?_
 rcases Bool.eq_false_or_eq_true ((greatF f) || false) with hc42 | hc42
 have hp42:((greatF f) = true) ∨ (False):=((J_or Iff.rfl (by simp))).1 hc42
 refine g_no (yk 19 true rfl rfl hc42) rfl ?_
 refine g_no (yk 19 true rfl rfl hc42) rfl ?_
 refine g_no (yk 19 true rfl rfl hc42) rfl ?_
 refine st (v:=.bool true) (x_pick_t (.tmp rfl (cVb hc42)) .const) ?_
 exact jw_end ⟨(cVb (jor_t hc42)),hρ40,hs41⟩
 have hp42:¬ (((greatF f) = true) ∨ (False)):=J_no (J_or Iff.rfl (by simp)) hc42
 refine g_yes (yk 19 false rfl rfl hc42) ?_
 refine st (v:=.agg #[.int .u8 ((f.Kind:Nat):Int),.int .i64 f.From,.int .u64 ((f.ID.N:Nat):Int),.int .i64 f.ID.P,.int .u16 ((f.Set:Nat):Int),.int .u64 ((f.Cur.N:Nat):Int),.int .i64 f.Cur.P,.int .u64 ((f.Prom.N:Nat):Int),.int .i64 f.Prom.P,.slice A14 n15 c16,.int .u64 ((f.Base:Nat):Int),.slice A19 n20 c21,.slice A23 n24 c25,.int .u64 ((f.Ack:Nat):Int),.int .u64 ((f.Safe:Nat):Int)]) (ld30 (cs:=[.int .u8 ((f.Kind:Nat):Int),.int .i64 f.From,.int .u64 ((f.ID.N:Nat):Int),.int .i64 f.ID.P,.int .u16 ((f.Set:Nat):Int),.int .u64 ((f.Cur.N:Nat):Int),.int .i64 f.Cur.P,.int .u64 ((f.Prom.N:Nat):Int),.int .i64 f.Prom.P,.slice A14 n15 c16,.int .u64 ((f.Base:Nat):Int),.slice A19 n20 c21,.slice A23 n24 c25,.int .u64 ((f.Ack:Nat):Int),.int .u64 ((f.Safe:Nat):Int)]) (.tmp rfl hρ40) (hs41.at_ 0 rfl (0) rfl) rfl) ?_
 refine g_yes (yk 19 false rfl rfl hc42) ?_
 have hr43:kFrame.rep H f [.int .u8 ((f.Kind:Nat):Int),.int .i64 f.From,.int .u64 ((f.ID.N:Nat):Int),.int .i64 f.ID.P,.int .u16 ((f.Set:Nat):Int),.int .u64 ((f.Cur.N:Nat):Int),.int .i64 f.Cur.P,.int .u64 ((f.Prom.N:Nat):Int),.int .i64 f.Prom.P,.slice A14 n15 c16,.int .u64 ((f.Base:Nat):Int),.slice A19 n20 c21,.slice A23 n24 c25,.int .u64 ((f.Ack:Nat):Int),.int .u64 ((f.Safe:Nat):Int)]:=⟨A14,n15,c16,A19,n20,c21,A23,n24,c25,rfl,b1,⟨b2,b3⟩,b4,⟨b5,b6⟩,b7,b8,⟨b9,b10⟩,b11,⟨b12,b13⟩,hl17,b18,hl22,hl26,b27,b28⟩
 refine st_c cb12 .func (evs1 (.tmp rfl rfl)) (rform_frame hs41 f hr43 ) ?_
 rintro e w44 ⟨rfl,hs45⟩
 refine ⟨_,rfl,?_⟩
 refine g_yes (yk 19 false rfl rfl hc42) ?_
 refine st (v:=.bool (!(formC f))) (x_not (.tmp rfl rfl)) ?_
 refine st (v:=.bool (!(formC f))) (x_pick_f (.tmp rfl (cVb hc42)) (.tmp rfl rfl)) ?_
 exact jw_end ⟨(cVb (jor_f hc42)),hρ40,hs45⟩
 rintro ρ w ⟨hρ46,hρ47,hs48⟩
 refine c_nil (n_then ?_)
 rcases Bool.eq_false_or_eq_true (((greatF f) || false) || (!(formC f))) with hc49 | hc49
 have hp49:(((greatF f) = true) ∨ (False)) ∨ (¬ ((formC f) = true)):=((J_or (J_or Iff.rfl (by simp)) (J_not Iff.rfl))).1 hc49
 refine c_cond_t (t:=true) (.tmp rfl (hρ46.trans (cVb hc49))) rfl ?_
 refine c_seq (c_region (st_c cb11 .func (evs0 ) (awake_spec hs48  ) ?_))
 rintro e w50 ⟨rfl,hs51⟩
 refine ⟨_,rfl,?_⟩
 refine st (v:=.bool true) (x_assign (.tmp rfl rfl)) ?_
 refine c_nil (n_then (c_ret (r_then (leave_ret (res_one (v:=.bool true) rfl (.mk rfl rfl)) ?_))))
 exact ⟨rfl,hs51.drop⟩
 have hp49:¬ ((((greatF f) = true) ∨ (False)) ∨ (¬ ((formC f) = true))):=J_no (J_or (J_or Iff.rfl (by simp)) (J_not Iff.rfl)) hc49
 refine c_cond_f (t:=false) (.tmp rfl (hρ46.trans (cVb hc49))) rfl ?_
 refine c_skip (n_then (c_seq (c_region ?_)))
 have hgf:greatF f = false:=by have h9:=hc49; revert h9; cases greatF f <;> simp
 have hff:formC f = true:=by have h9:=hc49; revert h9; rw [hgf]; cases formC f <;> simp
 have hb_f:=big_of hgf hsiz hfb
 refine st (v:=.agg #[.int .u8 ((f.Kind:Nat):Int),.int .i64 f.From,.int .u64 ((f.ID.N:Nat):Int),.int .i64 f.ID.P,.int .u16 ((f.Set:Nat):Int),.int .u64 ((f.Cur.N:Nat):Int),.int .i64 f.Cur.P,.int .u64 ((f.Prom.N:Nat):Int),.int .i64 f.Prom.P,.slice A14 n15 c16,.int .u64 ((f.Base:Nat):Int),.slice A19 n20 c21,.slice A23 n24 c25,.int .u64 ((f.Ack:Nat):Int),.int .u64 ((f.Safe:Nat):Int)]) (ld30 (cs:=[.int .u8 ((f.Kind:Nat):Int),.int .i64 f.From,.int .u64 ((f.ID.N:Nat):Int),.int .i64 f.ID.P,.int .u16 ((f.Set:Nat):Int),.int .u64 ((f.Cur.N:Nat):Int),.int .i64 f.Cur.P,.int .u64 ((f.Prom.N:Nat):Int),.int .i64 f.Prom.P,.slice A14 n15 c16,.int .u64 ((f.Base:Nat):Int),.slice A19 n20 c21,.slice A23 n24 c25,.int .u64 ((f.Ack:Nat):Int),.int .u64 ((f.Safe:Nat):Int)]) (.tmp rfl hρ47) (hs48.at_ 0 rfl (0) rfl) rfl) ?_
 have hr52:kFrame.rep H f [.int .u8 ((f.Kind:Nat):Int),.int .i64 f.From,.int .u64 ((f.ID.N:Nat):Int),.int .i64 f.ID.P,.int .u16 ((f.Set:Nat):Int),.int .u64 ((f.Cur.N:Nat):Int),.int .i64 f.Cur.P,.int .u64 ((f.Prom.N:Nat):Int),.int .i64 f.Prom.P,.slice A14 n15 c16,.int .u64 ((f.Base:Nat):Int),.slice A19 n20 c21,.slice A23 n24 c25,.int .u64 ((f.Ack:Nat):Int),.int .u64 ((f.Safe:Nat):Int)]:=⟨A14,n15,c16,A19,n20,c21,A23,n24,c25,rfl,b1,⟨b2,b3⟩,b4,⟨b5,b6⟩,b7,b8,⟨b9,b10⟩,b11,⟨b12,b13⟩,hl17,b18,hl22,hl26,b27,b28⟩
 refine st_c cb13 .func (evs1 (.tmp rfl rfl)) (encode_spec hs48 f hr52 (Nat.le_trans hb_f (by decide))) ?_
 rintro e w53 ⟨H55,v57,hle56,rfl,sm60,ok58,hs54⟩
 refine ⟨_,rfl,?_⟩
 refine st (v:=.tuple #[v57,.int .i64 ((encC f).2)]) (x_move (.tmp rfl rfl)) ?_
 refine st (v:=v57) (x_extract (.tmp rfl rfl) (i:=0) rfl) ?_
 refine st (v:=.int .i64 ((encC f).2)) (x_extract (.tmp rfl rfl) (i:=1) rfl) ?_
 refine st (v:=v57) (x_assign (.tmp rfl rfl)) ?_
 refine st (v:=.int .i64 ((encC f).2)) (x_assign (.tmp rfl rfl)) ?_
 refine c_nil (n_then (c_seq (c_region ?_)))
 have hec:=enc_is hff hb_f hfb; have hde:=dec_is hff hb_f hfb; have hel:=encC_len f
 skip
 refine st (v:=v57) (x_move (.tmp rfl rfl)) ?_
 obtain ⟨N61,hs63,hN62⟩:=hs54.toRes
 have hs64:=St.headQ (Hp.rs H55 N61) hs63
 refine st_c cb15 .func (evs1 (.tmp rfl rfl)) (decode_own hs64 sm60 ok58 (by omega)) ?_
 rintro e w70 ⟨G65,cs66,hle67,rfl,hrep68,hs69⟩
 have hs75:=St.backQ (Hp.rs H55 N61) hs69
 obtain ⟨hs71,hj72,hj73,hdj74⟩:=St.fromRes hs75 hN62 hle67
 have hrep76:kFrameP.rep G65 f cs66:=by have h9:=hrep68; rw [hde] at h9; exact h9
 obtain ⟨A90,n91,c92,A95,n96,c97,A99,n100,c101,rfl,b77,⟨b78,b79⟩,b80,⟨b81,b82⟩,b83,b84,⟨b85,b86⟩,b87,⟨b88,b89⟩,hl93,b94,hl98,hl102,b103,b104⟩:=hrep76
 have:=hl93.len; have:n91 * 48 ≤ 140737488351232:=hl93.bnd; have:=hl93.le
 have:=hl98.len; have:n96 * 24 ≤ 140737488351232:=hl98.bnd; have:=hl98.le
 have:=hl102.len; have:n100 * 32 ≤ 140737488351232:=hl102.bnd; have:=hl102.le
 refine ⟨_,rfl,?_⟩
 refine st (v:=.tuple #[.agg #[.int .u8 ((f.Kind:Nat):Int),.int .i64 f.From,.int .u64 ((f.ID.N:Nat):Int),.int .i64 f.ID.P,.int .u16 ((f.Set:Nat):Int),.int .u64 ((f.Cur.N:Nat):Int),.int .i64 f.Cur.P,.int .u64 ((f.Prom.N:Nat):Int),.int .i64 f.Prom.P,.slice A90 n91 c92,.int .u64 ((f.Base:Nat):Int),.slice A95 n96 c97,.slice A99 n100 c101,.int .u64 ((f.Ack:Nat):Int),.int .u64 ((f.Safe:Nat):Int)],.int .i64 ((decA (encC f).1).2)]) (x_move (.tmp rfl rfl)) ?_
 refine st (v:=.agg #[.int .u8 ((f.Kind:Nat):Int),.int .i64 f.From,.int .u64 ((f.ID.N:Nat):Int),.int .i64 f.ID.P,.int .u16 ((f.Set:Nat):Int),.int .u64 ((f.Cur.N:Nat):Int),.int .i64 f.Cur.P,.int .u64 ((f.Prom.N:Nat):Int),.int .i64 f.Prom.P,.slice A90 n91 c92,.int .u64 ((f.Base:Nat):Int),.slice A95 n96 c97,.slice A99 n100 c101,.int .u64 ((f.Ack:Nat):Int),.int .u64 ((f.Safe:Nat):Int)]) (x_extract (.tmp rfl rfl) (i:=0) rfl) ?_
 refine st (v:=.int .i64 ((decA (encC f).1).2)) (x_extract (.tmp rfl rfl) (i:=1) rfl) ?_
 refine st_m (al30 (cs:=[.int .u8 0,.int .i64 0,.int .u64 0,.int .i64 0,.int .u16 0,.int .u64 0,.int .i64 0,.int .u64 0,.int .i64 0,.slice none 0 0,.int .u64 0,.slice none 0 0,.slice none 0 0,.int .u64 0,.int .u64 0]) hs71 rfl) ?_
 rintro _ w106 ⟨g105,rfl,hs108⟩
 refine st_m0 (sto30 (cs':=[.int .u8 ((f.Kind:Nat):Int),.int .i64 f.From,.int .u64 ((f.ID.N:Nat):Int),.int .i64 f.ID.P,.int .u16 ((f.Set:Nat):Int),.int .u64 ((f.Cur.N:Nat):Int),.int .i64 f.Cur.P,.int .u64 ((f.Prom.N:Nat):Int),.int .i64 f.Prom.P,.slice A90 n91 c92,.int .u64 ((f.Base:Nat):Int),.slice A95 n96 c97,.slice A99 n100 c101,.int .u64 ((f.Ack:Nat):Int),.int .u64 ((f.Safe:Nat):Int)]) (i:=0) hs108 (v:=.agg #[.int .u8 ((f.Kind:Nat):Int),.int .i64 f.From,.int .u64 ((f.ID.N:Nat):Int),.int .i64 f.ID.P,.int .u16 ((f.Set:Nat):Int),.int .u64 ((f.Cur.N:Nat):Int),.int .i64 f.Cur.P,.int .u64 ((f.Prom.N:Nat):Int),.int .i64 f.Prom.P,.slice A90 n91 c92,.int .u64 ((f.Base:Nat):Int),.slice A95 n96 c97,.slice A99 n100 c101,.int .u64 ((f.Ack:Nat):Int),.int .u64 ((f.Safe:Nat):Int)]) (.tmp rfl rfl) (.tmp rfl rfl) rfl (Nat.le_of_ble_eq_true rfl) (oneA rfl) rfl) ?_
 rintro w109 hs111
 refine st (v:=.int .i64 ((decA (encC f).1).2)) (x_assign (.tmp rfl rfl)) ?_
 refine c_nil (n_then (c_seq (c_seq (c_region (st (v:=.int .i64 0) (x_assign .const) ?_)))))
 refine c_nil (n_then (c_block (c_loop (fun ρ w mm => ∃ (i:Nat) (pl:List Nat) (v_pl:Value),ρ 1 = .pointer (some ⟨g29,0,none⟩)∧ρ 3 = v_pl∧ρ 4 = .int .i64 ((encC f).2)∧ρ 5 = .pointer (some ⟨g105,0,none⟩)∧ρ 6 = .int .i64 ((decA (encC f).1).2)∧ρ 7 = .int .i64 ((i:Nat):Int)∧(Small pl)∧(RowOk 1 v_pl pl.length (pl.map encB))∧(i ≤ (encC f).1.length)∧(pl.length = (encC f).1.length)∧St (Hp.join H55 G65) w (row 5 1 v_pl pl.length (pl.map encB)::obj g105 30 [.int .u8 ((f.Kind:Nat):Int),.int .i64 f.From,.int .u64 ((f.ID.N:Nat):Int),.int .i64 f.ID.P,.int .u16 ((f.Set:Nat):Int),.int .u64 ((f.Cur.N:Nat):Int),.int .i64 f.Cur.P,.int .u64 ((f.Prom.N:Nat):Int),.int .i64 f.Prom.P,.slice A90 n91 c92,.int .u64 ((f.Base:Nat):Int),.slice A95 n96 c97,.slice A99 n100 c101,.int .u64 ((f.Ack:Nat):Int),.int .u64 ((f.Safe:Nat):Int)]::obj g29 30 [.int .u8 ((f.Kind:Nat):Int),.int .i64 f.From,.int .u64 ((f.ID.N:Nat):Int),.int .i64 f.ID.P,.int .u16 ((f.Set:Nat):Int),.int .u64 ((f.Cur.N:Nat):Int),.int .i64 f.Cur.P,.int .u64 ((f.Prom.N:Nat):Int),.int .i64 f.Prom.P,.slice A14 n15 c16,.int .u64 ((f.Base:Nat):Int),.slice A19 n20 c21,.slice A23 n24 c25,.int .u64 ((f.Ack:Nat):Int),.int .u64 ((f.Safe:Nat):Int)]::L)∧mm = (encC f).1.length - i) _ ⟨0,(encC f).1,v57,hρ47,rfl,rfl,rfl,rfl,rfl,(sm60),ok58,(by omega),rfl,(((hs111.p2).p1).p2),rfl⟩ ?_)))
 rintro ρ w mm ⟨i,pl,v_pl,hρ113,hρ114,hρ115,hρ116,hρ117,hρ118,sm_pl,ok_pl,hi,hpl,hs119,rfl⟩
 refine c_seq (c_seq (c_region (st (v:=.int .i64 ((i:Nat):Int)) (x_move (.tmp rfl hρ118)) ?_)))
 refine st (v:=v_pl) (x_move (.tmp rfl hρ114)) ?_
 obtain ⟨A120,c121,hv122,hc123⟩:=ok_pl.slice
 refine st (v:=.int .i64 ((pl.length:Nat):Int)) (x_len (n:=pl.length) Try.underlying33 (.tmp rfl hv122)) ?_
 refine st (v:=.bool (decide ((((i:Nat):Int):Int) < ((pl.length:Nat):Int)))) (x_lss (k:=.i64) (a:=((i:Nat):Int)) (b:=((pl.length:Nat):Int)) (.tmp rfl rfl) (.tmp rfl rfl)) ?_
 refine c_nil (n_then ?_)
 rcases Bool.eq_false_or_eq_true (decide ((((i:Nat):Int):Int) < ((pl.length:Nat):Int))) with hc124 | hc124
 have hp124:(((i:Nat):Int):Int) < ((pl.length:Nat):Int):=of_decide_eq_true hc124
 refine c_cond_t (t:=true) (.tmp rfl (cVb hc124)) rfl ?_
 refine c_skip (n_then (c_seq (c_block (c_region (st (v:=v_pl) (x_move (.tmp rfl hρ114)) ?_)))))
 refine st (v:=.int .i64 ((i:Nat):Int)) (x_move (.tmp rfl hρ118)) ?_
 refine st (v:=v_pl) (x_move (.tmp rfl hρ114)) ?_
 refine st (v:=.int .i64 ((i:Nat):Int)) (x_move (.tmp rfl hρ118)) ?_
 obtain ⟨g125,c126,hv127⟩:=ok_pl.pos (by omega)
 refine st (v:=.pointer (some ⟨g125,(i),none⟩)) (ixo33 (.tmp rfl hv127) rfl (i:=((i:Nat):Int)) (.tmp rfl rfl) (by omega) (by omega) (by omega)) ?_
 obtain ⟨z128,hz129⟩:∃ x,pl[i]? = some x:=⟨_,List.getElem?_eq_getElem (by omega)⟩
 refine st (v:=.int .u8 ((z128:Nat):Int)) (ld5 (.tmp rfl rfl) (hs119.rowEnc (enc:=encB) 0 rfl hv127 i hz129)) ?_
 have hb130:(z128 ^^^ 1) < 256:=Nat.xor_lt_two_pow (n:=8) (sm_pl _ (List.mem_of_getElem? hz129)) (by decide)
 refine st (v:=.int .u8 (((z128 ^^^ 1):Nat):Int)) (x_xor (k:=.u8) (m:=z128) (n:=1) rfl (.tmp rfl rfl) .const (show _ < 2 ^ 8 from (sm_pl _ (List.mem_of_getElem? hz129))) (show _ < 2 ^ 8 from (by decide))) ?_
 obtain ⟨g131,c132,hv133⟩:=ok_pl.pos (by omega)
 refine st (v:=.pointer (some ⟨g131,(i),none⟩)) (ixo33 (.tmp rfl hv133) rfl (i:=((i:Nat):Int)) (.tmp rfl rfl) (by omega) (by omega) (by omega)) ?_
 refine st_m0 (stor5 hs119 hv133 (i:=i) (.tmp rfl rfl) (.tmp rfl rfl) rfl (by simp; omega) one1 (splice_set (by omega))) ?_
 rintro w134 hs135
 have ok136:=ok_pl.setB (i:=i) (a:=(z128 ^^^ 1))
 refine c_nil (n_block (n_then (c_region (st (v:=.int .i64 ((i:Nat):Int)) (x_move (.tmp rfl hρ118)) ?_))))
 refine st (v:=.int .i64 (((i + 1):Nat):Int)) (x_add (k:=.i64) (a:=((i:Nat):Int)) (b:=1) (.tmp rfl rfl) .const ((w64 (by omega) (by omega)).trans (by omega))) ?_
 refine st (v:=.int .i64 (((i + 1):Nat):Int)) (x_assign (.tmp rfl rfl)) ?_
 refine c_nil ?_
 refine n_then ⟨_,_,rfl,?_,(i + 1),(pl.set i (z128 ^^^ 1)),v_pl,hρ113,hρ114,hρ115,hρ116,hρ117,rfl,((sm_pl.set _ hb130)),(by simpa using ok136),(by omega),(by rw [List.length_set]; exact hpl),(by simpa using (((hs135.p2).p2).p2)),rfl⟩
 omega
 have hp124:¬ ((((i:Nat):Int):Int) < ((pl.length:Nat):Int)):=of_decide_eq_false hc124
 refine c_cond_f (t:=false) (.tmp rfl (cVb hc124)) rfl ?_
 refine c_exit (x_then (x_then (x_here (n_then (c_seq (c_seq (c_region (st (v:=.int .i64 ((encC f).2)) (x_move (.tmp rfl hρ115)) ?_))))))))
 refine st (v:=.bool (decide ((((encC f).2):Int) ≠ 0))) (x_neq (k:=.i64) (a:=((encC f).2)) (b:=0) (.tmp rfl rfl) .const) ?_
 refine st (v:=.bool (decide ((((encC f).2):Int) ≠ 0))) (x_move (.tmp rfl rfl)) ?_
 have hc137:(decide ((((encC f).2):Int) ≠ 0)) = false:=(decide_eq_false (by rw [hec]; simp))
 refine g_yes (yk 51 false rfl rfl hc137) ?_
 refine st (v:=.int .i64 ((decA (encC f).1).2)) (x_move (.tmp rfl hρ117)) ?_
 refine g_yes (yk 51 false rfl rfl hc137) ?_
 refine st (v:=.bool (decide ((((decA (encC f).1).2):Int) ≠ 0))) (x_neq (k:=.i64) (a:=((decA (encC f).1).2)) (b:=0) (.tmp rfl rfl) .const) ?_
 refine st (v:=.bool (decide ((((decA (encC f).1).2):Int) ≠ 0))) (x_pick_f (.tmp rfl (cVb hc137)) (.tmp rfl rfl)) ?_
 refine st (v:=.bool (decide ((((decA (encC f).1).2):Int) ≠ 0))) (x_move (.tmp rfl rfl)) ?_
 have hc138:(decide ((((decA (encC f).1).2):Int) ≠ 0)) = false:=(decide_eq_false (by rw [hde]; simp))
 refine g_yes (yk 55 false rfl rfl hc138) ?_
 refine st (v:=.agg #[.int .u8 ((f.Kind:Nat):Int),.int .i64 f.From,.int .u64 ((f.ID.N:Nat):Int),.int .i64 f.ID.P,.int .u16 ((f.Set:Nat):Int),.int .u64 ((f.Cur.N:Nat):Int),.int .i64 f.Cur.P,.int .u64 ((f.Prom.N:Nat):Int),.int .i64 f.Prom.P,.slice A90 n91 c92,.int .u64 ((f.Base:Nat):Int),.slice A95 n96 c97,.slice A99 n100 c101,.int .u64 ((f.Ack:Nat):Int),.int .u64 ((f.Safe:Nat):Int)]) (ld30 (cs:=[.int .u8 ((f.Kind:Nat):Int),.int .i64 f.From,.int .u64 ((f.ID.N:Nat):Int),.int .i64 f.ID.P,.int .u16 ((f.Set:Nat):Int),.int .u64 ((f.Cur.N:Nat):Int),.int .i64 f.Cur.P,.int .u64 ((f.Prom.N:Nat):Int),.int .i64 f.Prom.P,.slice A90 n91 c92,.int .u64 ((f.Base:Nat):Int),.slice A95 n96 c97,.slice A99 n100 c101,.int .u64 ((f.Ack:Nat):Int),.int .u64 ((f.Safe:Nat):Int)]) (.tmp rfl hρ116) (hs119.at_ 1 rfl (0) rfl) rfl) ?_
 refine g_yes (yk 55 false rfl rfl hc138) ?_
 refine st (v:=.agg #[.int .u8 ((f.Kind:Nat):Int),.int .i64 f.From,.int .u64 ((f.ID.N:Nat):Int),.int .i64 f.ID.P,.int .u16 ((f.Set:Nat):Int),.int .u64 ((f.Cur.N:Nat):Int),.int .i64 f.Cur.P,.int .u64 ((f.Prom.N:Nat):Int),.int .i64 f.Prom.P,.slice A14 n15 c16,.int .u64 ((f.Base:Nat):Int),.slice A19 n20 c21,.slice A23 n24 c25,.int .u64 ((f.Ack:Nat):Int),.int .u64 ((f.Safe:Nat):Int)]) (ld30 (cs:=[.int .u8 ((f.Kind:Nat):Int),.int .i64 f.From,.int .u64 ((f.ID.N:Nat):Int),.int .i64 f.ID.P,.int .u16 ((f.Set:Nat):Int),.int .u64 ((f.Cur.N:Nat):Int),.int .i64 f.Cur.P,.int .u64 ((f.Prom.N:Nat):Int),.int .i64 f.Prom.P,.slice A14 n15 c16,.int .u64 ((f.Base:Nat):Int),.slice A19 n20 c21,.slice A23 n24 c25,.int .u64 ((f.Ack:Nat):Int),.int .u64 ((f.Safe:Nat):Int)]) (.tmp rfl hρ113) (hs119.at_ 2 rfl (0) rfl) rfl) ?_
 refine g_yes (yk 55 false rfl rfl hc138) ?_
 have hr139:kFrame.rep (Hp.join H55 G65) f [.int .u8 ((f.Kind:Nat):Int),.int .i64 f.From,.int .u64 ((f.ID.N:Nat):Int),.int .i64 f.ID.P,.int .u16 ((f.Set:Nat):Int),.int .u64 ((f.Cur.N:Nat):Int),.int .i64 f.Cur.P,.int .u64 ((f.Prom.N:Nat):Int),.int .i64 f.Prom.P,.slice A90 n91 c92,.int .u64 ((f.Base:Nat):Int),.slice A95 n96 c97,.slice A99 n100 c101,.int .u64 ((f.Ack:Nat):Int),.int .u64 ((f.Safe:Nat):Int)]:=⟨A90,n91,c92,A95,n96,c97,A99,n100,c101,rfl,b77,⟨b78,b79⟩,b80,⟨b81,b82⟩,b83,b84,⟨b85,b86⟩,b87,⟨b88,b89⟩,(hl93.mono hj73),b94,((Sl.ofP hl98).mono hj73),((Sl.ofI hl102).mono hj73),b103,b104⟩
 have hr140:kFrame.rep (Hp.join H55 G65) f [.int .u8 ((f.Kind:Nat):Int),.int .i64 f.From,.int .u64 ((f.ID.N:Nat):Int),.int .i64 f.ID.P,.int .u16 ((f.Set:Nat):Int),.int .u64 ((f.Cur.N:Nat):Int),.int .i64 f.Cur.P,.int .u64 ((f.Prom.N:Nat):Int),.int .i64 f.Prom.P,.slice A14 n15 c16,.int .u64 ((f.Base:Nat):Int),.slice A19 n20 c21,.slice A23 n24 c25,.int .u64 ((f.Ack:Nat):Int),.int .u64 ((f.Safe:Nat):Int)]:=⟨A14,n15,c16,A19,n20,c21,A23,n24,c25,rfl,b1,⟨b2,b3⟩,b4,⟨b5,b6⟩,b7,b8,⟨b9,b10⟩,b11,⟨b12,b13⟩,((hl17.mono hle56).mono hj72),b18,((hl22.mono hle56).mono hj72),((hl26.mono hle56).mono hj72),b27,b28⟩
 refine st_c cb14 .func (evs2 (.tmp rfl rfl) (.tmp rfl rfl)) (same_frame hs119 f hr139 f hr140 ) ?_
 rintro e w141 ⟨rfl,hs142⟩
 refine ⟨_,rfl,?_⟩
 refine g_yes (yk 55 false rfl rfl hc138) ?_
 refine st (v:=.bool (!(decide (f = f)))) (x_not (.tmp rfl rfl)) ?_
 refine st (v:=.bool (!(decide (f = f)))) (x_pick_f (.tmp rfl (cVb hc138)) (.tmp rfl rfl)) ?_
 refine c_nil (n_then ?_)
 have hc143:(decide (f = f)) = true:=(decide_eq_true rfl)
 refine c_cond_f (t:=false) (.tmp rfl (cVb (by rw [hc143]; rfl))) rfl ?_
 refine c_skip (n_then (c_seq (c_region (st (v:=.agg #[.int .u8 ((f.Kind:Nat):Int),.int .i64 f.From,.int .u64 ((f.ID.N:Nat):Int),.int .i64 f.ID.P,.int .u16 ((f.Set:Nat):Int),.int .u64 ((f.Cur.N:Nat):Int),.int .i64 f.Cur.P,.int .u64 ((f.Prom.N:Nat):Int),.int .i64 f.Prom.P,.slice A14 n15 c16,.int .u64 ((f.Base:Nat):Int),.slice A19 n20 c21,.slice A23 n24 c25,.int .u64 ((f.Ack:Nat):Int),.int .u64 ((f.Safe:Nat):Int)]) (ld30 (cs:=[.int .u8 ((f.Kind:Nat):Int),.int .i64 f.From,.int .u64 ((f.ID.N:Nat):Int),.int .i64 f.ID.P,.int .u16 ((f.Set:Nat):Int),.int .u64 ((f.Cur.N:Nat):Int),.int .i64 f.Cur.P,.int .u64 ((f.Prom.N:Nat):Int),.int .i64 f.Prom.P,.slice A14 n15 c16,.int .u64 ((f.Base:Nat):Int),.slice A19 n20 c21,.slice A23 n24 c25,.int .u64 ((f.Ack:Nat):Int),.int .u64 ((f.Safe:Nat):Int)]) (.tmp rfl hρ113) (hs142.at_ 2 rfl (0) rfl) rfl) ?_))))
 have hr144:kFrame.rep (Hp.join H55 G65) f [.int .u8 ((f.Kind:Nat):Int),.int .i64 f.From,.int .u64 ((f.ID.N:Nat):Int),.int .i64 f.ID.P,.int .u16 ((f.Set:Nat):Int),.int .u64 ((f.Cur.N:Nat):Int),.int .i64 f.Cur.P,.int .u64 ((f.Prom.N:Nat):Int),.int .i64 f.Prom.P,.slice A14 n15 c16,.int .u64 ((f.Base:Nat):Int),.slice A19 n20 c21,.slice A23 n24 c25,.int .u64 ((f.Ack:Nat):Int),.int .u64 ((f.Safe:Nat):Int)]:=⟨A14,n15,c16,A19,n20,c21,A23,n24,c25,rfl,b1,⟨b2,b3⟩,b4,⟨b5,b6⟩,b7,b8,⟨b9,b10⟩,b11,⟨b12,b13⟩,((hl17.mono hle56).mono hj72),b18,((hl22.mono hle56).mono hj72),((hl26.mono hle56).mono hj72),b27,b28⟩
 refine st_c cb16 .func (evs1 (.tmp rfl rfl)) (rencode_spec hs142 f hr144 (Nat.le_trans hb_f (by decide)) (form_kind hff).1 (form_kind hff).2) ?_
 rintro e w145 ⟨H147,v149,hle148,rfl,sm152,ok150,hs146⟩
 refine ⟨_,rfl,?_⟩
 refine st (v:=v149) (x_assign (.tmp rfl rfl)) ?_
 refine c_nil (n_then (c_seq (c_seq (c_region ?_))))
 have hs153:St (Hp.join H55 G65) _ (obj g29 30 [.int .u8 ((f.Kind:Nat):Int),.int .i64 f.From,.int .u64 ((f.ID.N:Nat):Int),.int .i64 f.ID.P,.int .u16 ((f.Set:Nat):Int),.int .u64 ((f.Cur.N:Nat):Int),.int .i64 f.Cur.P,.int .u64 ((f.Prom.N:Nat):Int),.int .i64 f.Prom.P,.slice A14 n15 c16,.int .u64 ((f.Base:Nat):Int),.slice A19 n20 c21,.slice A23 n24 c25,.int .u64 ((f.Ack:Nat):Int),.int .u64 ((f.Safe:Nat):Int)]::obj g105 30 [.int .u8 ((f.Kind:Nat):Int),.int .i64 f.From,.int .u64 ((f.ID.N:Nat):Int),.int .i64 f.ID.P,.int .u16 ((f.Set:Nat):Int),.int .u64 ((f.Cur.N:Nat):Int),.int .i64 f.Cur.P,.int .u64 ((f.Prom.N:Nat):Int),.int .i64 f.Prom.P,.slice A90 n91 c92,.int .u64 ((f.Base:Nat):Int),.slice A95 n96 c97,.slice A99 n100 c101,.int .u64 ((f.Ack:Nat):Int),.int .u64 ((f.Safe:Nat):Int)]::row 5 1 v149 ((seal_ (bodyE f)).length) ((seal_ (bodyE f)).map encB)::L):=((((hs146.p1).drop.p1).p2).weaken hle148)
 skip
 refine st (v:=.int .i64 0) (x_assign .const) ?_
 refine c_nil (n_then (c_block (c_loop (fun ρ w mm => ∃ (J_1:Hp) (i1:Nat),ρ 1 = .pointer (some ⟨g29,0,none⟩)∧ρ 5 = .pointer (some ⟨g105,0,none⟩)∧ρ 8 = v149∧ρ 9 = .int .i64 ((i1:Nat):Int)∧(Hp.le H55 J_1)∧(Like G65 J_1)∧(i1 ≤ f.Msgs.length)∧St J_1 w (obj g29 30 [.int .u8 ((f.Kind:Nat):Int),.int .i64 f.From,.int .u64 ((f.ID.N:Nat):Int),.int .i64 f.ID.P,.int .u16 ((f.Set:Nat):Int),.int .u64 ((f.Cur.N:Nat):Int),.int .i64 f.Cur.P,.int .u64 ((f.Prom.N:Nat):Int),.int .i64 f.Prom.P,.slice A14 n15 c16,.int .u64 ((f.Base:Nat):Int),.slice A19 n20 c21,.slice A23 n24 c25,.int .u64 ((f.Ack:Nat):Int),.int .u64 ((f.Safe:Nat):Int)]::obj g105 30 [.int .u8 ((f.Kind:Nat):Int),.int .i64 f.From,.int .u64 ((f.ID.N:Nat):Int),.int .i64 f.ID.P,.int .u16 ((f.Set:Nat):Int),.int .u64 ((f.Cur.N:Nat):Int),.int .i64 f.Cur.P,.int .u64 ((f.Prom.N:Nat):Int),.int .i64 f.Prom.P,.slice A90 n91 c92,.int .u64 ((f.Base:Nat):Int),.slice A95 n96 c97,.slice A99 n100 c101,.int .u64 ((f.Ack:Nat):Int),.int .u64 ((f.Safe:Nat):Int)]::row 5 1 v149 ((seal_ (bodyE f)).length) ((seal_ (bodyE f)).map encB)::L)∧mm = f.Msgs.length - i1) _ ⟨(Hp.join H55 G65),0,hρ113,hρ116,rfl,rfl,hj72,(Like.of hj73),(Nat.zero_le _),hs153,rfl⟩ ?_)))
 rintro ρ w mm ⟨J_1,i1,hρ154,hρ155,hρ156,hρ157,j1_1,j2_1,hi1,hs158,rfl⟩
 refine c_seq (c_seq (c_region (st (v:=.int .i64 ((i1:Nat):Int)) (x_move (.tmp rfl hρ157)) ?_)))
 refine st (v:=.pointer (some ⟨g105,0 + 11,none⟩)) (fa30_8 (.tmp rfl hρ155)) ?_
 refine st (v:=.slice A95 n96 c97) (ld27 (.tmp rfl rfl) (hs158.cell 1 rfl (0 + 11) rfl)) ?_
 refine st (v:=.int .i64 ((n96:Nat):Int)) (x_len (n:=n96) Try.underlying27 (.tmp rfl rfl)) ?_
 refine st (v:=.bool (decide ((((i1:Nat):Int):Int) < ((n96:Nat):Int)))) (x_lss (k:=.i64) (a:=((i1:Nat):Int)) (b:=((n96:Nat):Int)) (.tmp rfl rfl) (.tmp rfl rfl)) ?_
 refine c_nil (n_then ?_)
 rcases Bool.eq_false_or_eq_true (decide ((((i1:Nat):Int):Int) < ((n96:Nat):Int))) with hc159 | hc159
 have hp159:(((i1:Nat):Int):Int) < ((n96:Nat):Int):=of_decide_eq_true hc159
 refine c_cond_t (t:=true) (.tmp rfl (cVb hc159)) rfl ?_
 refine c_skip (n_then (c_seq (c_block (c_seq (c_region (st (v:=.int .i64 0) (x_assign .const) ?_))))))
 refine c_nil (n_then (c_block (c_loop (fun ρ w mm => ∃ (J_2:Hp) (k1:Nat),ρ 1 = .pointer (some ⟨g29,0,none⟩)∧ρ 5 = .pointer (some ⟨g105,0,none⟩)∧ρ 8 = v149∧ρ 9 = .int .i64 ((i1:Nat):Int)∧ρ 10 = .int .i64 ((k1:Nat):Int)∧(Hp.le H55 J_2)∧(Like G65 J_2)∧(k1 ≤ (f.Msgs.getD i1 []).length)∧St J_2 w (obj g29 30 [.int .u8 ((f.Kind:Nat):Int),.int .i64 f.From,.int .u64 ((f.ID.N:Nat):Int),.int .i64 f.ID.P,.int .u16 ((f.Set:Nat):Int),.int .u64 ((f.Cur.N:Nat):Int),.int .i64 f.Cur.P,.int .u64 ((f.Prom.N:Nat):Int),.int .i64 f.Prom.P,.slice A14 n15 c16,.int .u64 ((f.Base:Nat):Int),.slice A19 n20 c21,.slice A23 n24 c25,.int .u64 ((f.Ack:Nat):Int),.int .u64 ((f.Safe:Nat):Int)]::obj g105 30 [.int .u8 ((f.Kind:Nat):Int),.int .i64 f.From,.int .u64 ((f.ID.N:Nat):Int),.int .i64 f.ID.P,.int .u16 ((f.Set:Nat):Int),.int .u64 ((f.Cur.N:Nat):Int),.int .i64 f.Cur.P,.int .u64 ((f.Prom.N:Nat):Int),.int .i64 f.Prom.P,.slice A90 n91 c92,.int .u64 ((f.Base:Nat):Int),.slice A95 n96 c97,.slice A99 n100 c101,.int .u64 ((f.Ack:Nat):Int),.int .u64 ((f.Safe:Nat):Int)]::row 5 1 v149 ((seal_ (bodyE f)).length) ((seal_ (bodyE f)).map encB)::L)∧mm = (f.Msgs.getD i1 []).length - k1) _ ⟨J_1,0,hρ154,hρ155,hρ156,hρ157,rfl,j1_1,j2_1,(Nat.zero_le _),hs158,rfl⟩ ?_)))
 rintro ρ w mm ⟨J_2,k1,hρ161,hρ162,hρ163,hρ164,hρ165,j1_2,j2_2,hk1,hs166,rfl⟩
 refine c_seq (c_seq (c_region (st (v:=.int .i64 ((k1:Nat):Int)) (x_move (.tmp rfl hρ165)) ?_)))
 refine st (v:=.pointer (some ⟨g105,0 + 11,none⟩)) (fa30_8 (.tmp rfl hρ162)) ?_
 refine st (v:=.slice A95 n96 c97) (ld27 (.tmp rfl rfl) (hs166.cell 1 rfl (0 + 11) rfl)) ?_
 refine st (v:=.int .i64 ((i1:Nat):Int)) (x_move (.tmp rfl hρ164)) ?_
 obtain ⟨e167,b168,o169,A170,n171,c172,hx173,hA174,hy175,pl176,hat177⟩:=lk_msgs j2_2 hl98 (i:=i1) (by omega)
 have:=hy175.len; have:=hy175.bnd; have:=hy175.le
 have:(f.Msgs.getD i1 []).length = n171:=by rw [List.getD_eq_getElem?_getD,hx173]; exact hy175.len
 refine st (v:=.pointer (some ⟨b168,(o169 + i1 * 1),none⟩)) (ixo27 (.tmp rfl rfl) hA174 (i:=((i1:Nat):Int)) (.tmp rfl rfl) (by omega) (by omega) (by omega)) ?_
 refine st (v:=.slice A170 n171 c172) (ld33 (.tmp rfl rfl) ((hat177 hs166).cell 0 rfl)) ?_
 refine st (v:=.int .i64 ((n171:Nat):Int)) (x_len (n:=n171) Try.underlying33 (.tmp rfl rfl)) ?_
 refine st (v:=.bool (decide ((((k1:Nat):Int):Int) < ((n171:Nat):Int)))) (x_lss (k:=.i64) (a:=((k1:Nat):Int)) (b:=((n171:Nat):Int)) (.tmp rfl rfl) (.tmp rfl rfl)) ?_
 refine c_nil (n_then ?_)
 rcases Bool.eq_false_or_eq_true (decide ((((k1:Nat):Int):Int) < ((n171:Nat):Int))) with hc178 | hc178
 have hp178:(((k1:Nat):Int):Int) < ((n171:Nat):Int):=of_decide_eq_true hc178
 refine c_cond_t (t:=true) (.tmp rfl (cVb hc178)) rfl ?_
 refine c_skip (n_then (c_seq (c_block (s_region (L:=obj g29 30 [.int .u8 ((f.Kind:Nat):Int),.int .i64 f.From,.int .u64 ((f.ID.N:Nat):Int),.int .i64 f.ID.P,.int .u16 ((f.Set:Nat):Int),.int .u64 ((f.Cur.N:Nat):Int),.int .i64 f.Cur.P,.int .u64 ((f.Prom.N:Nat):Int),.int .i64 f.Prom.P,.slice A14 n15 c16,.int .u64 ((f.Base:Nat):Int),.slice A19 n20 c21,.slice A23 n24 c25,.int .u64 ((f.Ack:Nat):Int),.int .u64 ((f.Safe:Nat):Int)]::obj g105 30 [.int .u8 ((f.Kind:Nat):Int),.int .i64 f.From,.int .u64 ((f.ID.N:Nat):Int),.int .i64 f.ID.P,.int .u16 ((f.Set:Nat):Int),.int .u64 ((f.Cur.N:Nat):Int),.int .i64 f.Cur.P,.int .u64 ((f.Prom.N:Nat):Int),.int .i64 f.Prom.P,.slice A90 n91 c92,.int .u64 ((f.Base:Nat):Int),.slice A95 n96 c97,.slice A99 n100 c101,.int .u64 ((f.Ack:Nat):Int),.int .u64 ((f.Safe:Nat):Int)]::row 5 1 v149 ((seal_ (bodyE f)).length) ((seal_ (bodyE f)).map encB)::L) (L':=obj g29 30 [.int .u8 ((f.Kind:Nat):Int),.int .i64 f.From,.int .u64 ((f.ID.N:Nat):Int),.int .i64 f.ID.P,.int .u16 ((f.Set:Nat):Int),.int .u64 ((f.Cur.N:Nat):Int),.int .i64 f.Cur.P,.int .u64 ((f.Prom.N:Nat):Int),.int .i64 f.Prom.P,.slice A14 n15 c16,.int .u64 ((f.Base:Nat):Int),.slice A19 n20 c21,.slice A23 n24 c25,.int .u64 ((f.Ack:Nat):Int),.int .u64 ((f.Safe:Nat):Int)]::obj g105 30 [.int .u8 ((f.Kind:Nat):Int),.int .i64 f.From,.int .u64 ((f.ID.N:Nat):Int),.int .i64 f.ID.P,.int .u16 ((f.Set:Nat):Int),.int .u64 ((f.Cur.N:Nat):Int),.int .i64 f.Cur.P,.int .u64 ((f.Prom.N:Nat):Int),.int .i64 f.Prom.P,.slice A90 n91 c92,.int .u64 ((f.Base:Nat):Int),.slice A95 n96 c97,.slice A99 n100 c101,.int .u64 ((f.Ack:Nat):Int),.int .u64 ((f.Safe:Nat):Int)]::row 5 1 v149 ((seal_ (bodyE f)).length) ((seal_ (bodyE f)).map encB)::L) (some 16) [(0,true),(1,true),(2,true),(3,true),(4,true),(5,true),(6,true),(7,true),(8,true),(9,true),(10,true),(11,true),(12,true),(13,true),(14,true),(15,true),(16,false)] mixed hs166 (fun u hu => hu) (by kernel_rfl) ?_))))
 intro w179 hs180
 refine s_st (k:=0) (v:=.pointer (some ⟨g105,0 + 11,none⟩)) rfl (fun w hs => (fa30_8 (.tmp rfl hρ162))) ?_
 refine s_st (k:=1) (v:=.slice A95 n96 c97) rfl (fun w hs => (ld27 (.tmp rfl rfl) (hs.cell 1 rfl (0 + 11) rfl))) ?_
 refine s_st (k:=2) (v:=.int .i64 ((i1:Nat):Int)) rfl (fun w hs => (x_move (.tmp rfl hρ164))) ?_
 refine s_st (k:=3) (v:=.pointer (some ⟨b168,(o169 + i1 * 1),none⟩)) rfl (fun w hs => (ixo27 (.tmp rfl rfl) hA174 (i:=((i1:Nat):Int)) (.tmp rfl rfl) (by omega) (by omega) (by omega))) ?_
 refine s_st (k:=4) (v:=.slice A170 n171 c172) rfl (fun w hs => (ld33 (.tmp rfl rfl) ((hat177 hs).cell 0 rfl))) ?_
 refine s_st (k:=5) (v:=.int .i64 ((k1:Nat):Int)) rfl (fun w hs => (x_move (.tmp rfl hρ165))) ?_
 refine s_st (k:=6) (v:=.pointer (some ⟨g105,0 + 11,none⟩)) rfl (fun w hs => (fa30_8 (.tmp rfl hρ162))) ?_
 refine s_st (k:=7) (v:=.slice A95 n96 c97) rfl (fun w hs => (ld27 (.tmp rfl rfl) (hs.cell 1 rfl (0 + 11) rfl))) ?_
 refine s_st (k:=8) (v:=.int .i64 ((i1:Nat):Int)) rfl (fun w hs => (x_move (.tmp rfl hρ164))) ?_
 refine s_st (k:=9) (v:=.pointer (some ⟨b168,(o169 + i1 * 1),none⟩)) rfl (fun w hs => (ixo27 (.tmp rfl rfl) hA174 (i:=((i1:Nat):Int)) (.tmp rfl rfl) (by omega) (by omega) (by omega))) ?_
 refine s_st (k:=10) (v:=.slice A170 n171 c172) rfl (fun w hs => (ld33 (.tmp rfl rfl) ((hat177 hs).cell 0 rfl))) ?_
 refine s_st (k:=11) (v:=.int .i64 ((k1:Nat):Int)) rfl (fun w hs => (x_move (.tmp rfl hρ165))) ?_
 obtain ⟨b181,o182,m183,hA184,hm185,hat186⟩:=lk_byte j2_2 hy175 (k:=k1) (by omega)
 refine s_st (k:=12) (v:=.pointer (some ⟨b181,(o182 + k1 * 1),none⟩)) rfl (fun w hs => (ixo33 (.tmp rfl rfl) hA184 (i:=((k1:Nat):Int)) (.tmp rfl rfl) (by omega) (by omega) (by omega))) ?_
 refine s_st (k:=13) (v:=.int .u8 ((m183:Nat):Int)) rfl (fun w hs => (ld5 (.tmp rfl rfl) ((hat186 hs).cell 0 rfl))) ?_
 have hb187:(m183 ^^^ 1) < 256:=Nat.xor_lt_two_pow (n:=8) hm185 (by decide)
 refine s_st (k:=14) (v:=.int .u8 (((m183 ^^^ 1):Nat):Int)) rfl (fun w hs => (x_xor (k:=.u8) (m:=m183) (n:=1) rfl (.tmp rfl rfl) .const (show _ < 2 ^ 8 from hm185) (show _ < 2 ^ 8 from (by decide)))) ?_
 refine s_st (k:=15) (v:=.pointer (some ⟨b181,(o182 + k1 * 1),none⟩)) rfl (fun w hs => (ixo33 (.tmp rfl rfl) hA184 (i:=((k1:Nat):Int)) (.tmp rfl rfl) (by omega) (by omega) (by omega))) ?_
 refine s_eff (k:=16) rfl ?_
 obtain ⟨i188,e189,e190,e191,e192⟩:=inf5
 refine st_m0 (m_storeLk e189 e191 j1_2 j2_2 hdj74 hy175 pl176 (k:=k1) (by omega) hA184 hs180 (.tmp rfl rfl) (.tmp rfl rfl) hb187) ?_
 rintro w193 ⟨J194,k195,k196,hs197⟩
 refine s_end ?_
 refine n_block (n_then (c_region (st (v:=.int .i64 ((k1:Nat):Int)) (x_move (.tmp rfl hρ165)) ?_)))
 refine st (v:=.int .i64 (((k1 + 1):Nat):Int)) (x_add (k:=.i64) (a:=((k1:Nat):Int)) (b:=1) (.tmp rfl rfl) .const ((w64 (by omega) (by omega)).trans (by omega))) ?_
 refine st (v:=.int .i64 (((k1 + 1):Nat):Int)) (x_assign (.tmp rfl rfl)) ?_
 refine c_nil ?_
 refine n_then ⟨_,_,rfl,?_,J194,(k1 + 1),hρ161,hρ162,hρ163,hρ164,rfl,k195,k196,(by omega),(((hs197.p2).p2).p2),rfl⟩
 omega
 have hp178:¬ ((((k1:Nat):Int):Int) < ((n171:Nat):Int)):=of_decide_eq_false hc178
 refine c_cond_f (t:=false) (.tmp rfl (cVb hc178)) rfl ?_
 refine c_exit (x_then (x_then (x_here (n_block (n_then (c_region (st (v:=.int .i64 ((i1:Nat):Int)) (x_move (.tmp rfl hρ164)) ?_)))))))
 refine st (v:=.int .i64 (((i1 + 1):Nat):Int)) (x_add (k:=.i64) (a:=((i1:Nat):Int)) (b:=1) (.tmp rfl rfl) .const ((w64 (by omega) (by omega)).trans (by omega))) ?_
 refine st (v:=.int .i64 (((i1 + 1):Nat):Int)) (x_assign (.tmp rfl rfl)) ?_
 refine c_nil ?_
 refine n_then ⟨_,_,rfl,?_,J_2,(i1 + 1),hρ161,hρ162,hρ163,rfl,j1_2,j2_2,(by omega),(((hs166.p2).p2).p2),rfl⟩
 omega
 have hp159:¬ ((((i1:Nat):Int):Int) < ((n96:Nat):Int)):=of_decide_eq_false hc159
 refine c_cond_f (t:=false) (.tmp rfl (cVb hc159)) rfl ?_
 refine c_exit (x_then (x_then (x_here (n_then (c_seq (c_seq (c_region (st (v:=.int .i64 0) (x_assign .const) ?_))))))))
 refine c_nil (n_then (c_block (c_loop (fun ρ w mm => ∃ (J_3:Hp) (i2:Nat),ρ 1 = .pointer (some ⟨g29,0,none⟩)∧ρ 5 = .pointer (some ⟨g105,0,none⟩)∧ρ 8 = v149∧ρ 11 = .int .i64 ((i2:Nat):Int)∧(Hp.le H55 J_3)∧(Like G65 J_3)∧(i2 ≤ f.Items.length)∧St J_3 w (obj g29 30 [.int .u8 ((f.Kind:Nat):Int),.int .i64 f.From,.int .u64 ((f.ID.N:Nat):Int),.int .i64 f.ID.P,.int .u16 ((f.Set:Nat):Int),.int .u64 ((f.Cur.N:Nat):Int),.int .i64 f.Cur.P,.int .u64 ((f.Prom.N:Nat):Int),.int .i64 f.Prom.P,.slice A14 n15 c16,.int .u64 ((f.Base:Nat):Int),.slice A19 n20 c21,.slice A23 n24 c25,.int .u64 ((f.Ack:Nat):Int),.int .u64 ((f.Safe:Nat):Int)]::obj g105 30 [.int .u8 ((f.Kind:Nat):Int),.int .i64 f.From,.int .u64 ((f.ID.N:Nat):Int),.int .i64 f.ID.P,.int .u16 ((f.Set:Nat):Int),.int .u64 ((f.Cur.N:Nat):Int),.int .i64 f.Cur.P,.int .u64 ((f.Prom.N:Nat):Int),.int .i64 f.Prom.P,.slice A90 n91 c92,.int .u64 ((f.Base:Nat):Int),.slice A95 n96 c97,.slice A99 n100 c101,.int .u64 ((f.Ack:Nat):Int),.int .u64 ((f.Safe:Nat):Int)]::row 5 1 v149 ((seal_ (bodyE f)).length) ((seal_ (bodyE f)).map encB)::L)∧mm = f.Items.length - i2) _ ⟨J_1,0,hρ154,hρ155,hρ156,rfl,j1_1,j2_1,(Nat.zero_le _),hs158,rfl⟩ ?_)))
 rintro ρ w mm ⟨J_3,i2,hρ198,hρ199,hρ200,hρ201,j1_3,j2_3,hi2,hs202,rfl⟩
 refine c_seq (c_seq (c_region (st (v:=.int .i64 ((i2:Nat):Int)) (x_move (.tmp rfl hρ201)) ?_)))
 refine st (v:=.pointer (some ⟨g105,0 + 12,none⟩)) (fa30_9 (.tmp rfl hρ199)) ?_
 refine st (v:=.slice A99 n100 c101) (ld28 (.tmp rfl rfl) (hs202.cell 1 rfl (0 + 12) rfl)) ?_
 refine st (v:=.int .i64 ((n100:Nat):Int)) (x_len (n:=n100) Try.underlying28 (.tmp rfl rfl)) ?_
 refine st (v:=.bool (decide ((((i2:Nat):Int):Int) < ((n100:Nat):Int)))) (x_lss (k:=.i64) (a:=((i2:Nat):Int)) (b:=((n100:Nat):Int)) (.tmp rfl rfl) (.tmp rfl rfl)) ?_
 refine c_nil (n_then ?_)
 rcases Bool.eq_false_or_eq_true (decide ((((i2:Nat):Int):Int) < ((n100:Nat):Int))) with hc203 | hc203
 have hp203:(((i2:Nat):Int):Int) < ((n100:Nat):Int):=of_decide_eq_true hc203
 refine c_cond_t (t:=true) (.tmp rfl (cVb hc203)) rfl ?_
 refine c_skip (n_then (c_seq (c_block (c_seq (c_region (st (v:=.int .i64 0) (x_assign .const) ?_))))))
 refine c_nil (n_then (c_block (c_loop (fun ρ w mm => ∃ (J_4:Hp) (k2:Nat),ρ 1 = .pointer (some ⟨g29,0,none⟩)∧ρ 5 = .pointer (some ⟨g105,0,none⟩)∧ρ 8 = v149∧ρ 11 = .int .i64 ((i2:Nat):Int)∧ρ 12 = .int .i64 ((k2:Nat):Int)∧(Hp.le H55 J_4)∧(Like G65 J_4)∧(k2 ≤ (f.Items.getD i2 (GItem.mk 0 [])).M.length)∧St J_4 w (obj g29 30 [.int .u8 ((f.Kind:Nat):Int),.int .i64 f.From,.int .u64 ((f.ID.N:Nat):Int),.int .i64 f.ID.P,.int .u16 ((f.Set:Nat):Int),.int .u64 ((f.Cur.N:Nat):Int),.int .i64 f.Cur.P,.int .u64 ((f.Prom.N:Nat):Int),.int .i64 f.Prom.P,.slice A14 n15 c16,.int .u64 ((f.Base:Nat):Int),.slice A19 n20 c21,.slice A23 n24 c25,.int .u64 ((f.Ack:Nat):Int),.int .u64 ((f.Safe:Nat):Int)]::obj g105 30 [.int .u8 ((f.Kind:Nat):Int),.int .i64 f.From,.int .u64 ((f.ID.N:Nat):Int),.int .i64 f.ID.P,.int .u16 ((f.Set:Nat):Int),.int .u64 ((f.Cur.N:Nat):Int),.int .i64 f.Cur.P,.int .u64 ((f.Prom.N:Nat):Int),.int .i64 f.Prom.P,.slice A90 n91 c92,.int .u64 ((f.Base:Nat):Int),.slice A95 n96 c97,.slice A99 n100 c101,.int .u64 ((f.Ack:Nat):Int),.int .u64 ((f.Safe:Nat):Int)]::row 5 1 v149 ((seal_ (bodyE f)).length) ((seal_ (bodyE f)).map encB)::L)∧mm = (f.Items.getD i2 (GItem.mk 0 [])).M.length - k2) _ ⟨J_3,0,hρ198,hρ199,hρ200,hρ201,rfl,j1_3,j2_3,(Nat.zero_le _),hs202,rfl⟩ ?_)))
 rintro ρ w mm ⟨J_4,k2,hρ205,hρ206,hρ207,hρ208,hρ209,j1_4,j2_4,hk2,hs210,rfl⟩
 refine c_seq (c_seq (c_region (st (v:=.int .i64 ((k2:Nat):Int)) (x_move (.tmp rfl hρ209)) ?_)))
 refine st (v:=.pointer (some ⟨g105,0 + 12,none⟩)) (fa30_9 (.tmp rfl hρ206)) ?_
 refine st (v:=.slice A99 n100 c101) (ld28 (.tmp rfl rfl) (hs210.cell 1 rfl (0 + 12) rfl)) ?_
 refine st (v:=.int .i64 ((i2:Nat):Int)) (x_move (.tmp rfl hρ208)) ?_
 obtain ⟨e211,b212,o213,A214,n215,c216,hx217,hA218,hy219,pl220,hat221⟩:=lk_items j2_4 hl102 (i:=i2) (by omega)
 have:=hy219.len; have:=hy219.bnd; have:=hy219.le
 have:(f.Items.getD i2 (GItem.mk 0 [])).M.length = n215:=by rw [List.getD_eq_getElem?_getD,hx217]; exact hy219.len
 refine st (v:=.pointer (some ⟨b212,(o213 + i2 * 2),none⟩)) (ixo28 (.tmp rfl rfl) hA218 (i:=((i2:Nat):Int)) (.tmp rfl rfl) (by omega) (by omega) (by omega)) ?_
 refine st (v:=.pointer (some ⟨b212,(o213 + i2 * 2) + 1,none⟩)) (fa49_1 (.tmp rfl rfl)) ?_
 refine st (v:=.slice A214 n215 c216) (ld33 (.tmp rfl rfl) ((hat221 hs210).cell 1 rfl)) ?_
 refine st (v:=.int .i64 ((n215:Nat):Int)) (x_len (n:=n215) Try.underlying33 (.tmp rfl rfl)) ?_
 refine st (v:=.bool (decide ((((k2:Nat):Int):Int) < ((n215:Nat):Int)))) (x_lss (k:=.i64) (a:=((k2:Nat):Int)) (b:=((n215:Nat):Int)) (.tmp rfl rfl) (.tmp rfl rfl)) ?_
 refine c_nil (n_then ?_)
 rcases Bool.eq_false_or_eq_true (decide ((((k2:Nat):Int):Int) < ((n215:Nat):Int))) with hc222 | hc222
 have hp222:(((k2:Nat):Int):Int) < ((n215:Nat):Int):=of_decide_eq_true hc222
 refine c_cond_t (t:=true) (.tmp rfl (cVb hc222)) rfl ?_
 refine c_skip (n_then (c_seq (c_block (s_region (L:=obj g29 30 [.int .u8 ((f.Kind:Nat):Int),.int .i64 f.From,.int .u64 ((f.ID.N:Nat):Int),.int .i64 f.ID.P,.int .u16 ((f.Set:Nat):Int),.int .u64 ((f.Cur.N:Nat):Int),.int .i64 f.Cur.P,.int .u64 ((f.Prom.N:Nat):Int),.int .i64 f.Prom.P,.slice A14 n15 c16,.int .u64 ((f.Base:Nat):Int),.slice A19 n20 c21,.slice A23 n24 c25,.int .u64 ((f.Ack:Nat):Int),.int .u64 ((f.Safe:Nat):Int)]::obj g105 30 [.int .u8 ((f.Kind:Nat):Int),.int .i64 f.From,.int .u64 ((f.ID.N:Nat):Int),.int .i64 f.ID.P,.int .u16 ((f.Set:Nat):Int),.int .u64 ((f.Cur.N:Nat):Int),.int .i64 f.Cur.P,.int .u64 ((f.Prom.N:Nat):Int),.int .i64 f.Prom.P,.slice A90 n91 c92,.int .u64 ((f.Base:Nat):Int),.slice A95 n96 c97,.slice A99 n100 c101,.int .u64 ((f.Ack:Nat):Int),.int .u64 ((f.Safe:Nat):Int)]::row 5 1 v149 ((seal_ (bodyE f)).length) ((seal_ (bodyE f)).map encB)::L) (L':=obj g29 30 [.int .u8 ((f.Kind:Nat):Int),.int .i64 f.From,.int .u64 ((f.ID.N:Nat):Int),.int .i64 f.ID.P,.int .u16 ((f.Set:Nat):Int),.int .u64 ((f.Cur.N:Nat):Int),.int .i64 f.Cur.P,.int .u64 ((f.Prom.N:Nat):Int),.int .i64 f.Prom.P,.slice A14 n15 c16,.int .u64 ((f.Base:Nat):Int),.slice A19 n20 c21,.slice A23 n24 c25,.int .u64 ((f.Ack:Nat):Int),.int .u64 ((f.Safe:Nat):Int)]::obj g105 30 [.int .u8 ((f.Kind:Nat):Int),.int .i64 f.From,.int .u64 ((f.ID.N:Nat):Int),.int .i64 f.ID.P,.int .u16 ((f.Set:Nat):Int),.int .u64 ((f.Cur.N:Nat):Int),.int .i64 f.Cur.P,.int .u64 ((f.Prom.N:Nat):Int),.int .i64 f.Prom.P,.slice A90 n91 c92,.int .u64 ((f.Base:Nat):Int),.slice A95 n96 c97,.slice A99 n100 c101,.int .u64 ((f.Ack:Nat):Int),.int .u64 ((f.Safe:Nat):Int)]::row 5 1 v149 ((seal_ (bodyE f)).length) ((seal_ (bodyE f)).map encB)::L) (some 18) [(0,true),(1,true),(2,true),(3,true),(4,true),(5,true),(6,true),(7,true),(8,true),(9,true),(10,true),(11,true),(12,true),(13,true),(14,true),(15,true),(16,true),(17,true),(18,false)] mixed hs210 (fun u hu => hu) (by kernel_rfl) ?_))))
 intro w223 hs224
 refine s_st (k:=0) (v:=.pointer (some ⟨g105,0 + 12,none⟩)) rfl (fun w hs => (fa30_9 (.tmp rfl hρ206))) ?_
 refine s_st (k:=1) (v:=.slice A99 n100 c101) rfl (fun w hs => (ld28 (.tmp rfl rfl) (hs.cell 1 rfl (0 + 12) rfl))) ?_
 refine s_st (k:=2) (v:=.int .i64 ((i2:Nat):Int)) rfl (fun w hs => (x_move (.tmp rfl hρ208))) ?_
 refine s_st (k:=3) (v:=.pointer (some ⟨b212,(o213 + i2 * 2),none⟩)) rfl (fun w hs => (ixo28 (.tmp rfl rfl) hA218 (i:=((i2:Nat):Int)) (.tmp rfl rfl) (by omega) (by omega) (by omega))) ?_
 refine s_st (k:=4) (v:=.pointer (some ⟨b212,(o213 + i2 * 2) + 1,none⟩)) rfl (fun w hs => (fa49_1 (.tmp rfl rfl))) ?_
 refine s_st (k:=5) (v:=.slice A214 n215 c216) rfl (fun w hs => (ld33 (.tmp rfl rfl) ((hat221 hs).cell 1 rfl))) ?_
 refine s_st (k:=6) (v:=.int .i64 ((k2:Nat):Int)) rfl (fun w hs => (x_move (.tmp rfl hρ209))) ?_
 refine s_st (k:=7) (v:=.pointer (some ⟨g105,0 + 12,none⟩)) rfl (fun w hs => (fa30_9 (.tmp rfl hρ206))) ?_
 refine s_st (k:=8) (v:=.slice A99 n100 c101) rfl (fun w hs => (ld28 (.tmp rfl rfl) (hs.cell 1 rfl (0 + 12) rfl))) ?_
 refine s_st (k:=9) (v:=.int .i64 ((i2:Nat):Int)) rfl (fun w hs => (x_move (.tmp rfl hρ208))) ?_
 refine s_st (k:=10) (v:=.pointer (some ⟨b212,(o213 + i2 * 2),none⟩)) rfl (fun w hs => (ixo28 (.tmp rfl rfl) hA218 (i:=((i2:Nat):Int)) (.tmp rfl rfl) (by omega) (by omega) (by omega))) ?_
 refine s_st (k:=11) (v:=.pointer (some ⟨b212,(o213 + i2 * 2) + 1,none⟩)) rfl (fun w hs => (fa49_1 (.tmp rfl rfl))) ?_
 refine s_st (k:=12) (v:=.slice A214 n215 c216) rfl (fun w hs => (ld33 (.tmp rfl rfl) ((hat221 hs).cell 1 rfl))) ?_
 refine s_st (k:=13) (v:=.int .i64 ((k2:Nat):Int)) rfl (fun w hs => (x_move (.tmp rfl hρ209))) ?_
 obtain ⟨b225,o226,m227,hA228,hm229,hat230⟩:=lk_byte j2_4 hy219 (k:=k2) (by omega)
 refine s_st (k:=14) (v:=.pointer (some ⟨b225,(o226 + k2 * 1),none⟩)) rfl (fun w hs => (ixo33 (.tmp rfl rfl) hA228 (i:=((k2:Nat):Int)) (.tmp rfl rfl) (by omega) (by omega) (by omega))) ?_
 refine s_st (k:=15) (v:=.int .u8 ((m227:Nat):Int)) rfl (fun w hs => (ld5 (.tmp rfl rfl) ((hat230 hs).cell 0 rfl))) ?_
 have hb231:(m227 ^^^ 1) < 256:=Nat.xor_lt_two_pow (n:=8) hm229 (by decide)
 refine s_st (k:=16) (v:=.int .u8 (((m227 ^^^ 1):Nat):Int)) rfl (fun w hs => (x_xor (k:=.u8) (m:=m227) (n:=1) rfl (.tmp rfl rfl) .const (show _ < 2 ^ 8 from hm229) (show _ < 2 ^ 8 from (by decide)))) ?_
 refine s_st (k:=17) (v:=.pointer (some ⟨b225,(o226 + k2 * 1),none⟩)) rfl (fun w hs => (ixo33 (.tmp rfl rfl) hA228 (i:=((k2:Nat):Int)) (.tmp rfl rfl) (by omega) (by omega) (by omega))) ?_
 refine s_eff (k:=18) rfl ?_
 obtain ⟨i232,e233,e234,e235,e236⟩:=inf5
 refine st_m0 (m_storeLk e233 e235 j1_4 j2_4 hdj74 hy219 pl220 (k:=k2) (by omega) hA228 hs224 (.tmp rfl rfl) (.tmp rfl rfl) hb231) ?_
 rintro w237 ⟨J238,k239,k240,hs241⟩
 refine s_end ?_
 refine n_block (n_then (c_region (st (v:=.int .i64 ((k2:Nat):Int)) (x_move (.tmp rfl hρ209)) ?_)))
 refine st (v:=.int .i64 (((k2 + 1):Nat):Int)) (x_add (k:=.i64) (a:=((k2:Nat):Int)) (b:=1) (.tmp rfl rfl) .const ((w64 (by omega) (by omega)).trans (by omega))) ?_
 refine st (v:=.int .i64 (((k2 + 1):Nat):Int)) (x_assign (.tmp rfl rfl)) ?_
 refine c_nil ?_
 refine n_then ⟨_,_,rfl,?_,J238,(k2 + 1),hρ205,hρ206,hρ207,hρ208,rfl,k239,k240,(by omega),(((hs241.p2).p2).p2),rfl⟩
 omega
 have hp222:¬ ((((k2:Nat):Int):Int) < ((n215:Nat):Int)):=of_decide_eq_false hc222
 refine c_cond_f (t:=false) (.tmp rfl (cVb hc222)) rfl ?_
 refine c_exit (x_then (x_then (x_here (n_block (n_then (c_region (st (v:=.int .i64 ((i2:Nat):Int)) (x_move (.tmp rfl hρ208)) ?_)))))))
 refine st (v:=.int .i64 (((i2 + 1):Nat):Int)) (x_add (k:=.i64) (a:=((i2:Nat):Int)) (b:=1) (.tmp rfl rfl) .const ((w64 (by omega) (by omega)).trans (by omega))) ?_
 refine st (v:=.int .i64 (((i2 + 1):Nat):Int)) (x_assign (.tmp rfl rfl)) ?_
 refine c_nil ?_
 refine n_then ⟨_,_,rfl,?_,J_4,(i2 + 1),hρ205,hρ206,hρ207,rfl,j1_4,j2_4,(by omega),(((hs210.p2).p2).p2),rfl⟩
 omega
 have hp203:¬ ((((i2:Nat):Int):Int) < ((n100:Nat):Int)):=of_decide_eq_false hc203
 refine c_cond_f (t:=false) (.tmp rfl (cVb hc203)) rfl ?_
 refine c_exit (x_then (x_then (x_here (n_then (c_seq (s_region (L:=obj g29 30 [.int .u8 ((f.Kind:Nat):Int),.int .i64 f.From,.int .u64 ((f.ID.N:Nat):Int),.int .i64 f.ID.P,.int .u16 ((f.Set:Nat):Int),.int .u64 ((f.Cur.N:Nat):Int),.int .i64 f.Cur.P,.int .u64 ((f.Prom.N:Nat):Int),.int .i64 f.Prom.P,.slice A14 n15 c16,.int .u64 ((f.Base:Nat):Int),.slice A19 n20 c21,.slice A23 n24 c25,.int .u64 ((f.Ack:Nat):Int),.int .u64 ((f.Safe:Nat):Int)]::obj g105 30 [.int .u8 ((f.Kind:Nat):Int),.int .i64 f.From,.int .u64 ((f.ID.N:Nat):Int),.int .i64 f.ID.P,.int .u16 ((f.Set:Nat):Int),.int .u64 ((f.Cur.N:Nat):Int),.int .i64 f.Cur.P,.int .u64 ((f.Prom.N:Nat):Int),.int .i64 f.Prom.P,.slice A90 n91 c92,.int .u64 ((f.Base:Nat):Int),.slice A95 n96 c97,.slice A99 n100 c101,.int .u64 ((f.Ack:Nat):Int),.int .u64 ((f.Safe:Nat):Int)]::row 5 1 v149 ((seal_ (bodyE f)).length) ((seal_ (bodyE f)).map encB)::L) (L':=obj g29 30 [.int .u8 ((f.Kind:Nat):Int),.int .i64 f.From,.int .u64 ((f.ID.N:Nat):Int),.int .i64 f.ID.P,.int .u16 ((f.Set:Nat):Int),.int .u64 ((f.Cur.N:Nat):Int),.int .i64 f.Cur.P,.int .u64 ((f.Prom.N:Nat):Int),.int .i64 f.Prom.P,.slice A14 n15 c16,.int .u64 ((f.Base:Nat):Int),.slice A19 n20 c21,.slice A23 n24 c25,.int .u64 ((f.Ack:Nat):Int),.int .u64 ((f.Safe:Nat):Int)]::obj g105 30 [.int .u8 ((f.Kind:Nat):Int),.int .i64 f.From,.int .u64 ((f.ID.N:Nat):Int),.int .i64 f.ID.P,.int .u16 ((f.Set:Nat):Int),.int .u64 ((f.Cur.N:Nat):Int),.int .i64 f.Cur.P,.int .u64 ((f.Prom.N:Nat):Int),.int .i64 f.Prom.P,.slice A90 n91 c92,.int .u64 ((f.Base:Nat):Int),.slice A95 n96 c97,.slice A99 n100 c101,.int .u64 ((f.Ack:Nat):Int),.int .u64 ((f.Safe:Nat):Int)]::row 5 1 v149 ((seal_ (bodyE f)).length) ((seal_ (bodyE f)).map encB)::L) none [(0,true),(3,true),(4,true),(1,false),(2,true),(5,true),(6,true)] mixed hs202 (fun u hu => hu) (by kernel_rfl) ?_))))))
 intro w242 hs243
 refine s_st (k:=0) (v:=.agg #[.int .u8 ((f.Kind:Nat):Int),.int .i64 f.From,.int .u64 ((f.ID.N:Nat):Int),.int .i64 f.ID.P,.int .u16 ((f.Set:Nat):Int),.int .u64 ((f.Cur.N:Nat):Int),.int .i64 f.Cur.P,.int .u64 ((f.Prom.N:Nat):Int),.int .i64 f.Prom.P,.slice A14 n15 c16,.int .u64 ((f.Base:Nat):Int),.slice A19 n20 c21,.slice A23 n24 c25,.int .u64 ((f.Ack:Nat):Int),.int .u64 ((f.Safe:Nat):Int)]) rfl (fun w hs => (ld30 (cs:=[.int .u8 ((f.Kind:Nat):Int),.int .i64 f.From,.int .u64 ((f.ID.N:Nat):Int),.int .i64 f.ID.P,.int .u16 ((f.Set:Nat):Int),.int .u64 ((f.Cur.N:Nat):Int),.int .i64 f.Cur.P,.int .u64 ((f.Prom.N:Nat):Int),.int .i64 f.Prom.P,.slice A14 n15 c16,.int .u64 ((f.Base:Nat):Int),.slice A19 n20 c21,.slice A23 n24 c25,.int .u64 ((f.Ack:Nat):Int),.int .u64 ((f.Safe:Nat):Int)]) (.tmp rfl hρ198) (hs.at_ 0 rfl (0) rfl) rfl)) ?_
 refine s_st (k:=3) (v:=v149) rfl (fun w hs => (x_move (.tmp rfl hρ200))) ?_
 refine s_st (k:=4) (v:=.string (bstr (seal_ (bodyE f)))) rfl (fun w hs => (hs.rowStr Try.underlying33 Try.underlying5 Try.underlying9 2 rfl ok150 (.tmp rfl rfl))) ?_
 refine s_eff (k:=1) rfl ?_
 have hr244:kFrame.rep J_3 f [.int .u8 ((f.Kind:Nat):Int),.int .i64 f.From,.int .u64 ((f.ID.N:Nat):Int),.int .i64 f.ID.P,.int .u16 ((f.Set:Nat):Int),.int .u64 ((f.Cur.N:Nat):Int),.int .i64 f.Cur.P,.int .u64 ((f.Prom.N:Nat):Int),.int .i64 f.Prom.P,.slice A14 n15 c16,.int .u64 ((f.Base:Nat):Int),.slice A19 n20 c21,.slice A23 n24 c25,.int .u64 ((f.Ack:Nat):Int),.int .u64 ((f.Safe:Nat):Int)]:=⟨A14,n15,c16,A19,n20,c21,A23,n24,c25,rfl,b1,⟨b2,b3⟩,b4,⟨b5,b6⟩,b7,b8,⟨b9,b10⟩,b11,⟨b12,b13⟩,((hl17.mono hle56).mono j1_3),b18,((hl22.mono hle56).mono j1_3),((hl26.mono hle56).mono j1_3),b27,b28⟩
 refine st_c cb16 .func (evs1 (.tmp rfl rfl)) (rencode_spec hs243 f hr244 (Nat.le_trans hb_f (by decide)) (form_kind hff).1 (form_kind hff).2) ?_
 rintro e w245 ⟨H247,v249,hle248,rfl,sm252,ok250,hs246⟩
 refine ⟨_,rfl,?_⟩
 refine s_on (S':=fun u => St H247 u (row 5 1 v249 ((seal_ (bodyE f)).length) ((seal_ (bodyE f)).map encB)::obj g29 30 [.int .u8 ((f.Kind:Nat):Int),.int .i64 f.From,.int .u64 ((f.ID.N:Nat):Int),.int .i64 f.ID.P,.int .u16 ((f.Set:Nat):Int),.int .u64 ((f.Cur.N:Nat):Int),.int .i64 f.Cur.P,.int .u64 ((f.Prom.N:Nat):Int),.int .i64 f.Prom.P,.slice A14 n15 c16,.int .u64 ((f.Base:Nat):Int),.slice A19 n20 c21,.slice A23 n24 c25,.int .u64 ((f.Ack:Nat):Int),.int .u64 ((f.Safe:Nat):Int)]::obj g105 30 [.int .u8 ((f.Kind:Nat):Int),.int .i64 f.From,.int .u64 ((f.ID.N:Nat):Int),.int .i64 f.ID.P,.int .u16 ((f.Set:Nat):Int),.int .u64 ((f.Cur.N:Nat):Int),.int .i64 f.Cur.P,.int .u64 ((f.Prom.N:Nat):Int),.int .i64 f.Prom.P,.slice A90 n91 c92,.int .u64 ((f.Base:Nat):Int),.slice A95 n96 c97,.slice A99 n100 c101,.int .u64 ((f.Ack:Nat):Int),.int .u64 ((f.Safe:Nat):Int)]::row 5 1 v149 ((seal_ (bodyE f)).length) ((seal_ (bodyE f)).map encB)::L)) (fun u hu => hu.drop.weaken hle248) hs246 ?_
 refine s_st (k:=2) (v:=.string (bstr (seal_ (bodyE f)))) rfl (fun w hs => (hs.rowStr Try.underlying33 Try.underlying5 Try.underlying9 0 rfl ok250 (.tmp rfl rfl))) ?_
 refine s_st (k:=5) (v:=.bool (decide ((bstr (seal_ (bodyE f))) = (bstr (seal_ (bodyE f)))))) rfl (fun w hs => (x_eqlS (.tmp rfl rfl) (.tmp rfl rfl))) ?_
 refine s_st (k:=6) (v:=.bool true) rfl (fun w hs => (x_assign (.tmp rfl (cVb (show (decide ((bstr (seal_ (bodyE f))) = (bstr (seal_ (bodyE f))))) = true from by simp))))) ?_
 refine s_nil ?_
 refine n_then (c_ret (leave_ret (res_one (v:=.bool true) rfl (.mk rfl rfl)) ?_))
 exact ⟨rfl,(hs246.drop.drop.drop.drop.weaken ((hle56.trans j1_3).trans hle248))⟩
end Go.Proofs.Ytlfihfmmhhcigaa
