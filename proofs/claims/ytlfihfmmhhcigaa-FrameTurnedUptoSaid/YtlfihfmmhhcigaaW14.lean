/- Steps of the proofs over the functions of this seat, printed by a program (gen.py) and checked by Lean. -/
import Derived.Test.YtlfihfmmhhcigaaW03
import Derived.Test.YtlfihfmmhhcigaaW01
import Derived.Test.YtlfihfmmhhcigaaW00
import Derived.Test.YtlfihfmmhhcigaaW02
import Derived.Test.YtlfihfmmhhcigaaW13
set_option linter.unusedVariables false
set_option linter.unusedSimpArgs false
namespace Go.Proofs.Ytlfihfmmhhcigaa
open Go Go.FM Go.Proofs
attribute [local irreducible] wpList wpQuiet wpS Code.wp Calls
set_option maxHeartbeats 8000000 in
theorem frameTurned_spec {H:Hp} {w:World} {L:List Res} (hs:St H w (L)) (f:GFrame) {k_f:List Value} (h_f:kFrame.rep H f k_f) (at_:Nat) (b_at_:at_ < 65536) (pattern:Nat) (b_pattern:pattern < 4294967296) (cut:Nat) (b_cut:cut < 65536) (hsiz:sizeF f ≤ 1048576) (hfb:FB f):Calls Try.prog 6 #[.agg k_f.toArray,.int .u16 ((at_:Nat):Int),.int .u32 ((pattern:Nat):Int),.int .u16 ((cut:Nat):Int)] w (fun e w' => e = .returned (.bool true)∧St H w' (L)):=by
 obtain ⟨A14,n15,c16,A19,n20,c21,A23,n24,c25,rfl,b1,⟨b2,b3⟩,b4,⟨b5,b6⟩,b7,b8,⟨b9,b10⟩,b11,⟨b12,b13⟩,hl17,b18,hl22,hl26,b27,b28⟩:=h_f
 have:=hl17.len; have:n15 * 48 ≤ 140737488351232:=hl17.bnd; have:=hl17.le
 have:=hl22.len; have:n20 * 24 ≤ 140737488351232:=hl22.bnd; have:=hl22.le
 have:=hl26.len; have:n24 * 32 ≤ 140737488351232:=hl26.bnd; have:=hl26.le
 refine enter (args:=[.agg #[.int .u8 ((f.Kind:Nat):Int),.int .i64 f.From,.int .u64 ((f.ID.N:Nat):Int),.int .i64 f.ID.P,.int .u16 ((f.Set:Nat):Int),.int .u64 ((f.Cur.N:Nat):Int),.int .i64 f.Cur.P,.int .u64 ((f.Prom.N:Nat):Int),.int .i64 f.Prom.P,.slice A14 n15 c16,.int .u64 ((f.Base:Nat):Int),.slice A19 n20 c21,.slice A23 n24 c25,.int .u64 ((f.Ack:Nat):Int),.int .u64 ((f.Safe:Nat):Int)],.int .u16 ((at_:Nat):Int),.int .u32 ((pattern:Nat):Int),.int .u16 ((cut:Nat):Int)]) (N:=133) Try.func6 rfl rfl rfl ?_
 refine c_seq (c_region (st_m (m_box (cs:=[.int .u8 ((f.Kind:Nat):Int),.int .i64 f.From,.int .u64 ((f.ID.N:Nat):Int),.int .i64 f.ID.P,.int .u16 ((f.Set:Nat):Int),.int .u64 ((f.Cur.N:Nat):Int),.int .i64 f.Cur.P,.int .u64 ((f.Prom.N:Nat):Int),.int .i64 f.Prom.P,.slice A14 n15 c16,.int .u64 ((f.Base:Nat):Int),.slice A19 n20 c21,.slice A23 n24 c25,.int .u64 ((f.Ack:Nat):Int),.int .u64 ((f.Safe:Nat):Int)]) hs (v:=.agg #[.int .u8 ((f.Kind:Nat):Int),.int .i64 f.From,.int .u64 ((f.ID.N:Nat):Int),.int .i64 f.ID.P,.int .u16 ((f.Set:Nat):Int),.int .u64 ((f.Cur.N:Nat):Int),.int .i64 f.Cur.P,.int .u64 ((f.Prom.N:Nat):Int),.int .i64 f.Prom.P,.slice A14 n15 c16,.int .u64 ((f.Base:Nat):Int),.slice A19 n20 c21,.slice A23 n24 c25,.int .u64 ((f.Ack:Nat):Int),.int .u64 ((f.Safe:Nat):Int)]) (.tmp rfl rfl) rfl) ?_))
 rintro _ w30 ⟨g29,rfl,hs32⟩
 refine st (v:=.bool false) (x_assign .const) ?_
 refine c_nil (n_then (c_seq (c_seq (c_region (st (v:=.agg #[.int .u8 ((f.Kind:Nat):Int),.int .i64 f.From,.int .u64 ((f.ID.N:Nat):Int),.int .i64 f.ID.P,.int .u16 ((f.Set:Nat):Int),.int .u64 ((f.Cur.N:Nat):Int),.int .i64 f.Cur.P,.int .u64 ((f.Prom.N:Nat):Int),.int .i64 f.Prom.P,.slice A14 n15 c16,.int .u64 ((f.Base:Nat):Int),.slice A19 n20 c21,.slice A23 n24 c25,.int .u64 ((f.Ack:Nat):Int),.int .u64 ((f.Safe:Nat):Int)]) (ld30 (cs:=[.int .u8 ((f.Kind:Nat):Int),.int .i64 f.From,.int .u64 ((f.ID.N:Nat):Int),.int .i64 f.ID.P,.int .u16 ((f.Set:Nat):Int),.int .u64 ((f.Cur.N:Nat):Int),.int .i64 f.Cur.P,.int .u64 ((f.Prom.N:Nat):Int),.int .i64 f.Prom.P,.slice A14 n15 c16,.int .u64 ((f.Base:Nat):Int),.slice A19 n20 c21,.slice A23 n24 c25,.int .u64 ((f.Ack:Nat):Int),.int .u64 ((f.Safe:Nat):Int)]) (.tmp rfl rfl) (hs32.at_ 0 rfl (0) rfl) rfl) ?_)))))
 have hr33:kFrame.rep H f [.int .u8 ((f.Kind:Nat):Int),.int .i64 f.From,.int .u64 ((f.ID.N:Nat):Int),.int .i64 f.ID.P,.int .u16 ((f.Set:Nat):Int),.int .u64 ((f.Cur.N:Nat):Int),.int .i64 f.Cur.P,.int .u64 ((f.Prom.N:Nat):Int),.int .i64 f.Prom.P,.slice A14 n15 c16,.int .u64 ((f.Base:Nat):Int),.slice A19 n20 c21,.slice A23 n24 c25,.int .u64 ((f.Ack:Nat):Int),.int .u64 ((f.Safe:Nat):Int)]:=⟨A14,n15,c16,A19,n20,c21,A23,n24,c25,rfl,b1,⟨b2,b3⟩,b4,⟨b5,b6⟩,b7,b8,⟨b9,b10⟩,b11,⟨b12,b13⟩,hl17,b18,hl22,hl26,b27,b28⟩
 refine st_c cb10 .func (evs1 (.tmp rfl rfl)) (great_spec hs32 f hr33 hsiz) ?_
 rintro e w34 ⟨rfl,hs35⟩
 refine ⟨_,rfl,?_⟩
 refine st (v:=.bool (greatF f)) (x_move (.tmp rfl rfl)) ?_
 refine jw 3 (fun ρ w => ρ 26 = .bool ((greatF f) || false)∧ρ 1 = .int .u16 ((at_:Nat):Int)∧ρ 2 = .int .u32 ((pattern:Nat):Int)∧ρ 3 = .int .u16 ((cut:Nat):Int)∧ρ 4 = .pointer (some ⟨g29,0,none⟩)∧St H w (obj g29 30 [.int .u8 ((f.Kind:Nat):Int),.int .i64 f.From,.int .u64 ((f.ID.N:Nat):Int),.int .i64 f.ID.P,.int .u16 ((f.Set:Nat):Int),.int .u64 ((f.Cur.N:Nat):Int),.int .i64 f.Cur.P,.int .u64 ((f.Prom.N:Nat):Int),.int .i64 f.Prom.P,.slice A14 n15 c16,.int .u64 ((f.Base:Nat):Int),.slice A19 n20 c21,.slice A23 n24 c25,.int .u64 ((f.Ack:Nat):Int),.int .u64 ((f.Safe:Nat):Int)]::L)) ?_ ?_
 rcases Bool.eq_false_or_eq_true (greatF f) with hc36 | hc36
 refine g_no (yk 23 true rfl rfl hc36) rfl ?_
 refine g_no (yk 23 true rfl rfl hc36) rfl ?_
 refine st (v:=.bool true) (x_pick_t (.tmp rfl (cVb hc36)) .const) ?_
 exact jw_end ⟨(cVb (jor_t hc36)),rfl,rfl,rfl,rfl,hs35⟩
 refine g_yes (yk 23 false rfl rfl hc36) ?_
 refine st_c cb11 .func (evs0 ) (awake_spec hs35  ) ?_
 rintro e w37 ⟨rfl,hs38⟩
 refine ⟨_,rfl,?_⟩
 refine g_yes (yk 23 false rfl rfl hc36) ?_
 refine st (v:=.bool false) (x_not (b:=true) (.tmp rfl rfl)) ?_
 refine st (v:=.bool false) (x_pick_f (.tmp rfl (cVb hc36)) (.tmp rfl rfl)) ?_
 exact jw_end ⟨(cVb (jor_f hc36)),rfl,rfl,rfl,rfl,hs38⟩
 rintro ρ w ⟨hρ39,hρ40,hρ41,hρ42,hρ43,hs44⟩
 refine st (v:=.bool ((greatF f) || false)) (x_move (.tmp rfl hρ39)) ?_
 refine jw 4 (fun ρ w => ρ 31 = .bool (((greatF f) || false) || (!(formC f)))∧ρ 1 = .int .u16 ((at_:Nat):Int)∧ρ 2 = .int .u32 ((pattern:Nat):Int)∧ρ 3 = .int .u16 ((cut:Nat):Int)∧ρ 4 = .pointer (some ⟨g29,0,none⟩)∧St H w (obj g29 30 [.int .u8 ((f.Kind:Nat):Int),.int .i64 f.From,.int .u64 ((f.ID.N:Nat):Int),.int .i64 f.ID.P,.int .u16 ((f.Set:Nat):Int),.int .u64 ((f.Cur.N:Nat):Int),.int .i64 f.Cur.P,.int .u64 ((f.Prom.N:Nat):Int),.int .i64 f.Prom.P,.slice A14 n15 c16,.int .u64 ((f.Base:Nat):Int),.slice A19 n20 c21,.slice A23 n24 c25,.int .u64 ((f.Ack:Nat):Int),.int .u64 ((f.Safe:Nat):Int)]::L)) ?_ ?_
 rcases Bool.eq_false_or_eq_true ((greatF f) || false) with hc45 | hc45
 have hp45:((greatF f) = true) ∨ (False):=((J_or Iff.rfl (by simp))).1 hc45
 refine g_no (yk 27 true rfl rfl hc45) rfl ?_
 refine g_no (yk 27 true rfl rfl hc45) rfl ?_
 refine g_no (yk 27 true rfl rfl hc45) rfl ?_
 refine st (v:=.bool true) (x_pick_t (.tmp rfl (cVb hc45)) .const) ?_
 exact jw_end ⟨(cVb (jor_t hc45)),hρ40,hρ41,hρ42,hρ43,hs44⟩
 have hp45:¬ (((greatF f) = true) ∨ (False)):=J_no (J_or Iff.rfl (by simp)) hc45
 refine g_yes (yk 27 false rfl rfl hc45) ?_
 refine st (v:=.agg #[.int .u8 ((f.Kind:Nat):Int),.int .i64 f.From,.int .u64 ((f.ID.N:Nat):Int),.int .i64 f.ID.P,.int .u16 ((f.Set:Nat):Int),.int .u64 ((f.Cur.N:Nat):Int),.int .i64 f.Cur.P,.int .u64 ((f.Prom.N:Nat):Int),.int .i64 f.Prom.P,.slice A14 n15 c16,.int .u64 ((f.Base:Nat):Int),.slice A19 n20 c21,.slice A23 n24 c25,.int .u64 ((f.Ack:Nat):Int),.int .u64 ((f.Safe:Nat):Int)]) (ld30 (cs:=[.int .u8 ((f.Kind:Nat):Int),.int .i64 f.From,.int .u64 ((f.ID.N:Nat):Int),.int .i64 f.ID.P,.int .u16 ((f.Set:Nat):Int),.int .u64 ((f.Cur.N:Nat):Int),.int .i64 f.Cur.P,.int .u64 ((f.Prom.N:Nat):Int),.int .i64 f.Prom.P,.slice A14 n15 c16,.int .u64 ((f.Base:Nat):Int),.slice A19 n20 c21,.slice A23 n24 c25,.int .u64 ((f.Ack:Nat):Int),.int .u64 ((f.Safe:Nat):Int)]) (.tmp rfl hρ43) (hs44.at_ 0 rfl (0) rfl) rfl) ?_
 refine g_yes (yk 27 false rfl rfl hc45) ?_
 have hr46:kFrame.rep H f [.int .u8 ((f.Kind:Nat):Int),.int .i64 f.From,.int .u64 ((f.ID.N:Nat):Int),.int .i64 f.ID.P,.int .u16 ((f.Set:Nat):Int),.int .u64 ((f.Cur.N:Nat):Int),.int .i64 f.Cur.P,.int .u64 ((f.Prom.N:Nat):Int),.int .i64 f.Prom.P,.slice A14 n15 c16,.int .u64 ((f.Base:Nat):Int),.slice A19 n20 c21,.slice A23 n24 c25,.int .u64 ((f.Ack:Nat):Int),.int .u64 ((f.Safe:Nat):Int)]:=⟨A14,n15,c16,A19,n20,c21,A23,n24,c25,rfl,b1,⟨b2,b3⟩,b4,⟨b5,b6⟩,b7,b8,⟨b9,b10⟩,b11,⟨b12,b13⟩,hl17,b18,hl22,hl26,b27,b28⟩
 refine st_c cb12 .func (evs1 (.tmp rfl rfl)) (rform_frame hs44 f hr46 ) ?_
 rintro e w47 ⟨rfl,hs48⟩
 refine ⟨_,rfl,?_⟩
 refine g_yes (yk 27 false rfl rfl hc45) ?_
 refine st (v:=.bool (!(formC f))) (x_not (.tmp rfl rfl)) ?_
 refine st (v:=.bool (!(formC f))) (x_pick_f (.tmp rfl (cVb hc45)) (.tmp rfl rfl)) ?_
 exact jw_end ⟨(cVb (jor_f hc45)),hρ40,hρ41,hρ42,hρ43,hs48⟩
 rintro ρ w ⟨hρ49,hρ50,hρ51,hρ52,hρ53,hs54⟩
 refine st (v:=.bool (((greatF f) || false) || (!(formC f)))) (x_move (.tmp rfl hρ49)) ?_
 refine jw 3 (fun ρ w => ρ 35 = .bool ((((greatF f) || false) || (!(formC f))) || (decide ((((pattern:Nat):Int):Int) = 0)))∧ρ 1 = .int .u16 ((at_:Nat):Int)∧ρ 2 = .int .u32 ((pattern:Nat):Int)∧ρ 3 = .int .u16 ((cut:Nat):Int)∧ρ 4 = .pointer (some ⟨g29,0,none⟩)∧St H w (obj g29 30 [.int .u8 ((f.Kind:Nat):Int),.int .i64 f.From,.int .u64 ((f.ID.N:Nat):Int),.int .i64 f.ID.P,.int .u16 ((f.Set:Nat):Int),.int .u64 ((f.Cur.N:Nat):Int),.int .i64 f.Cur.P,.int .u64 ((f.Prom.N:Nat):Int),.int .i64 f.Prom.P,.slice A14 n15 c16,.int .u64 ((f.Base:Nat):Int),.slice A19 n20 c21,.slice A23 n24 c25,.int .u64 ((f.Ack:Nat):Int),.int .u64 ((f.Safe:Nat):Int)]::L)) ?_ ?_
 rcases Bool.eq_false_or_eq_true (((greatF f) || false) || (!(formC f))) with hc55 | hc55
 have hp55:(((greatF f) = true) ∨ (False)) ∨ (¬ ((formC f) = true)):=((J_or (J_or Iff.rfl (by simp)) (J_not Iff.rfl))).1 hc55
 refine g_no (yk 32 true rfl rfl hc55) rfl ?_
 refine g_no (yk 32 true rfl rfl hc55) rfl ?_
 refine st (v:=.bool true) (x_pick_t (.tmp rfl (cVb hc55)) .const) ?_
 exact jw_end ⟨(cVb (jor_t hc55)),hρ50,hρ51,hρ52,hρ53,hs54⟩
 have hp55:¬ ((((greatF f) = true) ∨ (False)) ∨ (¬ ((formC f) = true))):=J_no (J_or (J_or Iff.rfl (by simp)) (J_not Iff.rfl)) hc55
 refine g_yes (yk 32 false rfl rfl hc55) ?_
 refine st (v:=.int .u32 ((pattern:Nat):Int)) (x_move (.tmp rfl hρ51)) ?_
 refine g_yes (yk 32 false rfl rfl hc55) ?_
 refine st (v:=.bool (decide ((((pattern:Nat):Int):Int) = 0))) (x_eql (k:=.u32) (a:=((pattern:Nat):Int)) (b:=0) (.tmp rfl rfl) .const) ?_
 refine st (v:=.bool (decide ((((pattern:Nat):Int):Int) = 0))) (x_pick_f (.tmp rfl (cVb hc55)) (.tmp rfl rfl)) ?_
 exact jw_end ⟨(cVb (jor_f hc55)),hρ50,hρ51,hρ52,hρ53,hs54⟩
 rintro ρ w ⟨hρ56,hρ57,hρ58,hρ59,hρ60,hs61⟩
 refine c_nil (n_then ?_)
 rcases Bool.eq_false_or_eq_true ((((greatF f) || false) || (!(formC f))) || (decide ((((pattern:Nat):Int):Int) = 0))) with hc62 | hc62
 have hp62:((((greatF f) = true) ∨ (False)) ∨ (¬ ((formC f) = true))) ∨ ((((pattern:Nat):Int):Int) = 0):=((J_or (J_or (J_or Iff.rfl (by simp)) (J_not Iff.rfl)) decide_eq_true_iff)).1 hc62
 refine c_cond_t (t:=true) (.tmp rfl (hρ56.trans (cVb hc62))) rfl ?_
 refine c_seq (c_region (st_c cb11 .func (evs0 ) (awake_spec hs61  ) ?_))
 rintro e w63 ⟨rfl,hs64⟩
 refine ⟨_,rfl,?_⟩
 refine st (v:=.bool true) (x_assign (.tmp rfl rfl)) ?_
 refine c_nil (n_then (c_ret (r_then (leave_ret (res_one (v:=.bool true) rfl (.mk rfl rfl)) ?_))))
 exact ⟨rfl,hs64.drop⟩
 have hp62:¬ (((((greatF f) = true) ∨ (False)) ∨ (¬ ((formC f) = true))) ∨ ((((pattern:Nat):Int):Int) = 0)):=J_no (J_or (J_or (J_or Iff.rfl (by simp)) (J_not Iff.rfl)) decide_eq_true_iff) hc62
 refine c_cond_f (t:=false) (.tmp rfl (hρ56.trans (cVb hc62))) rfl ?_
 refine c_skip (n_then (c_seq (c_region ?_)))
 have hgf:greatF f = false:=by have h9:=hc62; revert h9; cases greatF f <;> simp
 have hff:formC f = true:=by have h9:=hc62; revert h9; rw [hgf]; cases formC f <;> simp
 have hb_f:=big_of hgf hsiz hfb
 refine st (v:=.agg #[.int .u8 ((f.Kind:Nat):Int),.int .i64 f.From,.int .u64 ((f.ID.N:Nat):Int),.int .i64 f.ID.P,.int .u16 ((f.Set:Nat):Int),.int .u64 ((f.Cur.N:Nat):Int),.int .i64 f.Cur.P,.int .u64 ((f.Prom.N:Nat):Int),.int .i64 f.Prom.P,.slice A14 n15 c16,.int .u64 ((f.Base:Nat):Int),.slice A19 n20 c21,.slice A23 n24 c25,.int .u64 ((f.Ack:Nat):Int),.int .u64 ((f.Safe:Nat):Int)]) (ld30 (cs:=[.int .u8 ((f.Kind:Nat):Int),.int .i64 f.From,.int .u64 ((f.ID.N:Nat):Int),.int .i64 f.ID.P,.int .u16 ((f.Set:Nat):Int),.int .u64 ((f.Cur.N:Nat):Int),.int .i64 f.Cur.P,.int .u64 ((f.Prom.N:Nat):Int),.int .i64 f.Prom.P,.slice A14 n15 c16,.int .u64 ((f.Base:Nat):Int),.slice A19 n20 c21,.slice A23 n24 c25,.int .u64 ((f.Ack:Nat):Int),.int .u64 ((f.Safe:Nat):Int)]) (.tmp rfl hρ60) (hs61.at_ 0 rfl (0) rfl) rfl) ?_
 have hr65:kFrame.rep H f [.int .u8 ((f.Kind:Nat):Int),.int .i64 f.From,.int .u64 ((f.ID.N:Nat):Int),.int .i64 f.ID.P,.int .u16 ((f.Set:Nat):Int),.int .u64 ((f.Cur.N:Nat):Int),.int .i64 f.Cur.P,.int .u64 ((f.Prom.N:Nat):Int),.int .i64 f.Prom.P,.slice A14 n15 c16,.int .u64 ((f.Base:Nat):Int),.slice A19 n20 c21,.slice A23 n24 c25,.int .u64 ((f.Ack:Nat):Int),.int .u64 ((f.Safe:Nat):Int)]:=⟨A14,n15,c16,A19,n20,c21,A23,n24,c25,rfl,b1,⟨b2,b3⟩,b4,⟨b5,b6⟩,b7,b8,⟨b9,b10⟩,b11,⟨b12,b13⟩,hl17,b18,hl22,hl26,b27,b28⟩
 refine st_c cb13 .func (evs1 (.tmp rfl rfl)) (encode_spec hs61 f hr65 (Nat.le_trans hb_f (by decide))) ?_
 rintro e w66 ⟨H68,v70,hle69,rfl,sm73,ok71,hs67⟩
 refine ⟨_,rfl,?_⟩
 refine st (v:=.tuple #[v70,.int .i64 ((encC f).2)]) (x_move (.tmp rfl rfl)) ?_
 refine st (v:=v70) (x_extract (.tmp rfl rfl) (i:=0) rfl) ?_
 refine st (v:=.int .i64 ((encC f).2)) (x_extract (.tmp rfl rfl) (i:=1) rfl) ?_
 refine st (v:=v70) (x_assign (.tmp rfl rfl)) ?_
 refine st (v:=.int .i64 ((encC f).2)) (x_assign (.tmp rfl rfl)) ?_
 refine c_nil (n_then (c_seq (c_seq (c_region ?_))))
 have hec:=enc_is hff hb_f hfb; have hsm:=sealed_len (f:=f) hff hb_f hfb; have hel:=encC_len f; have he1:(encC f).1 = seal_ (bodyE f):=by rw [hec]
 skip
 refine st (v:=.int .i64 ((encC f).2)) (x_move (.tmp rfl rfl)) ?_
 refine st (v:=.bool (decide ((((encC f).2):Int) ≠ 0))) (x_neq (k:=.i64) (a:=((encC f).2)) (b:=0) (.tmp rfl rfl) .const) ?_
 refine c_nil (n_then ?_)
 have hc74:(decide ((((encC f).2):Int) ≠ 0)) = false:=(decide_eq_false (by rw [hec]; simp))
 refine c_cond_f (t:=false) (.tmp rfl (cVb hc74)) rfl ?_
 refine c_skip (n_then (c_seq (c_region ?_)))
 obtain ⟨H75,A76,c77,hle78,hs79,rfl,hp80⟩:=hs67.freezeBs ok71 sm73 (by omega)
 have hy81:By H75 A76 (((encC f).1).length) c77 ((encC f).1):=⟨hp80,by omega⟩
 skip
 refine st (v:=.slice none 0 0) (x_assign .const) ?_
 refine c_nil (n_then (c_seq (c_region (st (v:=.slice none 0 0) (x_move (.tmp rfl rfl)) ?_))))
 refine st (v:=.slice A76 (((encC f).1).length) c77) (x_move (.tmp rfl rfl)) ?_
 refine st_m (m_appNil Try.underlying33 inf5 hs79 (.tmp rfl rfl) (.tmp rfl rfl) hy81.toBs (by omega)) ?_
 rintro v82 w83 ⟨ok84,hs85⟩
 refine st (v:=v82) (x_assign (.tmp rfl rfl)) ?_
 refine c_nil (n_then (c_seq (c_region ?_)))
 have hl87:((encC f).1) = ((encC f).1):=rfl
 obtain ⟨hs88,ok89⟩:=St.relist hs85 ok84 hl87
 have sm90:Small ((encC f).1):=by rw [← hl87]; exact hy81.toBs.lt
 skip
 refine st (v:=.int .u16 ((at_:Nat):Int)) (x_move (.tmp rfl hρ57)) ?_
 refine st (v:=.int .i64 ((at_:Nat):Int)) (x_conv (k:=.u16) (a:=((at_:Nat):Int)) Try.underlying25 Try.underlying3 (.tmp rfl rfl) (w64 (by omega) (by omega))) ?_
 refine st (v:=v82) (x_move (.tmp rfl rfl)) ?_
 obtain ⟨A91,c92,hv93,hc94⟩:=ok89.slice
 refine st (v:=.int .i64 ((((encC f).1).length:Nat):Int)) (x_len (n:=((encC f).1).length) Try.underlying33 (.tmp rfl hv93)) ?_
 refine st (v:=.int .i64 (((8 * ((encC f).1).length):Nat):Int)) (x_mul (k:=.i64) (a:=8) (b:=((((encC f).1).length:Nat):Int)) .const (.tmp rfl rfl) ((w64 (by omega) (by omega)).trans (by omega))) ?_
 have:at_ % (8 * ((encC f).1).length) < (8 * ((encC f).1).length):=Nat.mod_lt _ (by omega)
 refine st (v:=.int .i64 (((at_ % (8 * ((encC f).1).length)):Nat):Int)) (x_remN (k:=.i64) (m:=at_) (n:=(8 * ((encC f).1).length)) (.tmp rfl rfl) (.tmp rfl rfl) (by omega)) ?_
 obtain ⟨k,hk,hklt⟩:∃ k,(at_ % (8 * ((encC f).1).length)) = k∧k < 8 * (encC f).1.length:=⟨_,rfl,Nat.mod_lt _ (by omega)⟩
 refine st (v:=.int .i64 ((k:Nat):Int)) (x_assign (.tmp rfl (congrArg (fun x:Nat => Value.int .i64 (x:Int)) hk))) ?_
 refine c_nil (n_then (c_seq (c_seq (c_region (st (v:=.int .i64 0) (x_assign .const) ?_)))))
 refine c_nil (n_then (c_block ?_))
 have hslt:Small (encC f).1:=(hy81).lt
 have hl0:((encC f).1).length = (encC f).1.length:=by first | rfl | simp
 refine c_loop (fun ρ w mm => ∃ (i:Nat),ρ 2 = .int .u32 ((pattern:Nat):Int)∧ρ 3 = .int .u16 ((cut:Nat):Int)∧ρ 9 = .slice A76 (((encC f).1).length) c77∧ρ 11 = v82∧ρ 12 = .int .i64 ((k:Nat):Int)∧ρ 13 = .int .i64 ((i:Nat):Int)∧(i ≤ 32)∧(k + i ≤ 8 * (encC f).1.length)∧(RowOk 1 v82 (encC f).1.length ((turn (encC f).1 k pattern i).map encB))∧St H75 w (row 5 1 v82 ((encC f).1.length) ((turn (encC f).1 k pattern i).map encB)::L)∧mm = 32 - i) _ ⟨0,hρ58,hρ59,rfl,rfl,rfl,rfl,(by omega),(by omega),ok89,(hs88.p1).drop,rfl⟩ ?_
 rintro ρ w mm ⟨i,hρ96,hρ97,hρ98,hρ99,hρ100,hρ101,hi,hki,ok2,hs102,rfl⟩
 refine c_seq (c_seq (c_region ?_))
 have hlt:=turn_length (encC f).1 k pattern i
 refine st (v:=.int .i64 ((i:Nat):Int)) (x_move (.tmp rfl hρ101)) ?_
 refine st (v:=.bool (decide ((((i:Nat):Int):Int) < 32))) (x_lss (k:=.i64) (a:=((i:Nat):Int)) (b:=32) (.tmp rfl rfl) .const) ?_
 refine st (v:=.bool (decide ((((i:Nat):Int):Int) < 32))) (x_move (.tmp rfl rfl)) ?_
 refine jw 8 (fun ρ w => ρ 63 = .bool ((decide ((((i:Nat):Int):Int) < 32)) && (decide (((((k + i):Nat):Int):Int) < (((8 * (encC f).1.length):Nat):Int))))∧ρ 2 = .int .u32 ((pattern:Nat):Int)∧ρ 3 = .int .u16 ((cut:Nat):Int)∧ρ 9 = .slice A76 (((encC f).1).length) c77∧ρ 11 = v82∧ρ 12 = .int .i64 ((k:Nat):Int)∧ρ 13 = .int .i64 ((i:Nat):Int)∧St H75 w (row 5 1 v82 ((encC f).1.length) ((turn (encC f).1 k pattern i).map encB)::L)) ?_ ?_
 rcases Bool.eq_false_or_eq_true (decide ((((i:Nat):Int):Int) < 32)) with hc103 | hc103
 have hp103:(((i:Nat):Int):Int) < 32:=of_decide_eq_true hc103
 refine g_yes (yk 55 true rfl rfl hc103) ?_
 refine st (v:=.int .i64 ((k:Nat):Int)) (x_move (.tmp rfl hρ100)) ?_
 refine g_yes (yk 55 true rfl rfl hc103) ?_
 refine st (v:=.int .i64 ((i:Nat):Int)) (x_move (.tmp rfl hρ101)) ?_
 refine g_yes (yk 55 true rfl rfl hc103) ?_
 refine st (v:=.int .i64 (((k + i):Nat):Int)) (x_add (k:=.i64) (a:=((k:Nat):Int)) (b:=((i:Nat):Int)) (.tmp rfl rfl) (.tmp rfl rfl) ((w64 (by omega) (by omega)).trans (by omega))) ?_
 refine g_yes (yk 55 true rfl rfl hc103) ?_
 refine st (v:=v82) (x_move (.tmp rfl hρ99)) ?_
 refine g_yes (yk 55 true rfl rfl hc103) ?_
 obtain ⟨A104,c105,hv106,hc107⟩:=ok2.slice
 refine st (v:=.int .i64 (((encC f).1.length:Nat):Int)) (x_len (n:=(encC f).1.length) Try.underlying33 (.tmp rfl hv106)) ?_
 refine g_yes (yk 55 true rfl rfl hc103) ?_
 refine st (v:=.int .i64 (((8 * (encC f).1.length):Nat):Int)) (x_mul (k:=.i64) (a:=8) (b:=(((encC f).1.length:Nat):Int)) .const (.tmp rfl rfl) ((w64 (by omega) (by omega)).trans (by omega))) ?_
 refine g_yes (yk 55 true rfl rfl hc103) ?_
 refine st (v:=.bool (decide (((((k + i):Nat):Int):Int) < (((8 * (encC f).1.length):Nat):Int)))) (x_lss (k:=.i64) (a:=(((k + i):Nat):Int)) (b:=(((8 * (encC f).1.length):Nat):Int)) (.tmp rfl rfl) (.tmp rfl rfl)) ?_
 refine st (v:=.bool (decide (((((k + i):Nat):Int):Int) < (((8 * (encC f).1.length):Nat):Int)))) (x_pick_t (.tmp rfl (cVb hc103)) (.tmp rfl rfl)) ?_
 exact jw_end ⟨(cVb (jand_t hc103)),hρ96,hρ97,hρ98,hρ99,hρ100,hρ101,hs102⟩
 have hp103:¬ ((((i:Nat):Int):Int) < 32):=of_decide_eq_false hc103
 refine g_no (yk 55 false rfl rfl hc103) rfl ?_
 refine g_no (yk 55 false rfl rfl hc103) rfl ?_
 refine g_no (yk 55 false rfl rfl hc103) rfl ?_
 refine g_no (yk 55 false rfl rfl hc103) rfl ?_
 refine g_no (yk 55 false rfl rfl hc103) rfl ?_
 refine g_no (yk 55 false rfl rfl hc103) rfl ?_
 refine g_no (yk 55 false rfl rfl hc103) rfl ?_
 refine st (v:=.bool false) (x_pick_f (.tmp rfl (cVb hc103)) .const) ?_
 exact jw_end ⟨(cVb (jand_f hc103)),hρ96,hρ97,hρ98,hρ99,hρ100,hρ101,hs102⟩
 rintro ρ w ⟨hρ108,hρ109,hρ110,hρ111,hρ112,hρ113,hρ114,hs115⟩
 refine c_nil (n_then ?_)
 rcases Bool.eq_false_or_eq_true ((decide ((((i:Nat):Int):Int) < 32)) && (decide (((((k + i):Nat):Int):Int) < (((8 * (encC f).1.length):Nat):Int)))) with hc116 | hc116
 have hp116:((((i:Nat):Int):Int) < 32)∧(((((k + i):Nat):Int):Int) < (((8 * (encC f).1.length):Nat):Int)):=((J_and decide_eq_true_iff decide_eq_true_iff)).1 hc116
 refine c_cond_t (t:=true) (.tmp rfl (hρ108.trans (cVb hc116))) rfl ?_
 refine c_skip (n_then (c_seq (c_block (c_seq (c_region (st (v:=.int .u32 ((pattern:Nat):Int)) (x_move (.tmp rfl hρ109)) ?_))))))
 refine st (v:=.int .i64 ((i:Nat):Int)) (x_move (.tmp rfl hρ114)) ?_
 have hb117:(pattern / 2 ^ i) < 4294967296:=Nat.lt_of_le_of_lt (Nat.div_le_self _ _) b_pattern
 refine st (v:=.int .u32 (((pattern / 2 ^ i):Nat):Int)) (x_shr (k:=.u32) (m:=pattern) (b:=((i:Nat):Int)) rfl (.tmp rfl rfl) (.tmp rfl rfl) (by omega) (show _ < 2 ^ 32 from b_pattern)) ?_
 have hb118:((pattern / 2 ^ i) &&& 1) < 4294967296:=Nat.lt_of_le_of_lt Nat.and_le_left hb117
 refine st (v:=.int .u32 ((((pattern / 2 ^ i) &&& 1):Nat):Int)) (x_and (k:=.u32) (m:=(pattern / 2 ^ i)) (n:=1) rfl (.tmp rfl rfl) .const (show _ < 2 ^ 32 from hb117) (show _ < 2 ^ 32 from (by decide))) ?_
 refine st (v:=.bool (decide ((((((pattern / 2 ^ i) &&& 1):Nat):Int):Int) = 1))) (x_eql (k:=.u32) (a:=((((pattern / 2 ^ i) &&& 1):Nat):Int)) (b:=1) (.tmp rfl rfl) .const) ?_
 refine c_nil (n_then ?_)
 rcases Bool.eq_false_or_eq_true (decide ((((((pattern / 2 ^ i) &&& 1):Nat):Int):Int) = 1)) with hc119 | hc119
 have hp119:(((((pattern / 2 ^ i) &&& 1):Nat):Int):Int) = 1:=of_decide_eq_true hc119
 refine c_cond_t (t:=true) (.tmp rfl (cVb hc119)) rfl ?_
 refine s_region (L:=row 5 1 v82 ((encC f).1.length) ((turn (encC f).1 k pattern i).map encB)::L) (L':=row 5 1 v82 ((encC f).1.length) ((turn (encC f).1 k pattern i).map encB)::L) (some 19) [(0,true),(1,true),(2,true),(3,true),(4,true),(5,true),(6,true),(7,true),(8,true),(9,true),(10,true),(11,true),(12,true),(13,true),(14,true),(15,true),(16,true),(17,true),(18,true),(19,false)] mixed hs115 (fun u hu => hu) (by kernel_rfl) ?_
 intro w120 hs121
 refine s_st (k:=0) (v:=v82) rfl (fun w hs => (x_move (.tmp rfl hρ112))) ?_
 refine s_st (k:=1) (v:=.int .i64 ((k:Nat):Int)) rfl (fun w hs => (x_move (.tmp rfl hρ113))) ?_
 refine s_st (k:=2) (v:=.int .i64 ((i:Nat):Int)) rfl (fun w hs => (x_move (.tmp rfl hρ114))) ?_
 refine s_st (k:=3) (v:=.int .i64 (((k + i):Nat):Int)) rfl (fun w hs => (x_add (k:=.i64) (a:=((k:Nat):Int)) (b:=((i:Nat):Int)) (.tmp rfl rfl) (.tmp rfl rfl) ((w64 (by omega) (by omega)).trans (by omega)))) ?_
 refine s_st (k:=4) (v:=.int .i64 ((((k + i) / 8):Nat):Int)) rfl (fun w hs => (x_quoN (k:=.i64) (m:=(k + i)) (n:=8) (.tmp rfl rfl) .const (by omega) (.inl ⟨by omega,rfl,by omega⟩))) ?_
 refine s_st (k:=5) (v:=v82) rfl (fun w hs => (x_move (.tmp rfl hρ112))) ?_
 refine s_st (k:=6) (v:=.int .i64 ((k:Nat):Int)) rfl (fun w hs => (x_move (.tmp rfl hρ113))) ?_
 refine s_st (k:=7) (v:=.int .i64 ((i:Nat):Int)) rfl (fun w hs => (x_move (.tmp rfl hρ114))) ?_
 refine s_st (k:=8) (v:=.int .i64 (((k + i):Nat):Int)) rfl (fun w hs => (x_add (k:=.i64) (a:=((k:Nat):Int)) (b:=((i:Nat):Int)) (.tmp rfl rfl) (.tmp rfl rfl) ((w64 (by omega) (by omega)).trans (by omega)))) ?_
 refine s_st (k:=9) (v:=.int .i64 ((((k + i) / 8):Nat):Int)) rfl (fun w hs => (x_quoN (k:=.i64) (m:=(k + i)) (n:=8) (.tmp rfl rfl) .const (by omega) (.inl ⟨by omega,rfl,by omega⟩))) ?_
 obtain ⟨g122,c123,hv124⟩:=ok2.pos (by omega)
 refine s_st (k:=10) (v:=.pointer (some ⟨g122,(((k + i) / 8)),none⟩)) rfl (fun w hs => (ixo33 (.tmp rfl hv124) rfl (i:=((((k + i) / 8):Nat):Int)) (.tmp rfl rfl) (by omega) (by omega) (by omega))) ?_
 obtain ⟨z125,hz126⟩:∃ x,(turn (encC f).1 k pattern i)[((k + i) / 8)]? = some x:=⟨_,List.getElem?_eq_getElem (by omega)⟩
 refine s_st (k:=11) (v:=.int .u8 ((z125:Nat):Int)) rfl (fun w hs => (ld5 (.tmp rfl rfl) (hs.rowEnc (enc:=encB) 0 rfl hv124 ((k + i) / 8) hz126))) ?_
 refine s_st (k:=12) (v:=.int .i64 ((k:Nat):Int)) rfl (fun w hs => (x_move (.tmp rfl hρ113))) ?_
 refine s_st (k:=13) (v:=.int .i64 ((i:Nat):Int)) rfl (fun w hs => (x_move (.tmp rfl hρ114))) ?_
 refine s_st (k:=14) (v:=.int .i64 (((k + i):Nat):Int)) rfl (fun w hs => (x_add (k:=.i64) (a:=((k:Nat):Int)) (b:=((i:Nat):Int)) (.tmp rfl rfl) (.tmp rfl rfl) ((w64 (by omega) (by omega)).trans (by omega)))) ?_
 refine s_st (k:=15) (v:=.int .i64 ((((k + i) % 8):Nat):Int)) rfl (fun w hs => (x_remN (k:=.i64) (m:=(k + i)) (n:=8) (.tmp rfl rfl) .const (by omega))) ?_
 have hb127:(1 * 2 ^ ((k + i) % 8) % 256) < 256:=Nat.mod_lt _ (by decide)
 refine s_st (k:=16) (v:=.int .u8 (((1 * 2 ^ ((k + i) % 8) % 256):Nat):Int)) rfl (fun w hs => (x_shl (k:=.u8) (m:=1) (b:=((((k + i) % 8):Nat):Int)) rfl .const (.tmp rfl rfl) (by omega))) ?_
 have hb128:(z125 ^^^ (1 * 2 ^ ((k + i) % 8) % 256)) < 256:=Nat.xor_lt_two_pow (n:=8) ((turn_small hslt k pattern i) _ (List.mem_of_getElem? hz126)) hb127
 refine s_st (k:=17) (v:=.int .u8 (((z125 ^^^ (1 * 2 ^ ((k + i) % 8) % 256)):Nat):Int)) rfl (fun w hs => (x_xor (k:=.u8) (m:=z125) (n:=(1 * 2 ^ ((k + i) % 8) % 256)) rfl (.tmp rfl rfl) (.tmp rfl rfl) (show _ < 2 ^ 8 from ((turn_small hslt k pattern i) _ (List.mem_of_getElem? hz126))) (show _ < 2 ^ 8 from hb127))) ?_
 obtain ⟨g129,c130,hv131⟩:=ok2.pos (by omega)
 refine s_st (k:=18) (v:=.pointer (some ⟨g129,(((k + i) / 8)),none⟩)) rfl (fun w hs => (ixo33 (.tmp rfl hv131) rfl (i:=((((k + i) / 8):Nat):Int)) (.tmp rfl rfl) (by omega) (by omega) (by omega))) ?_
 refine s_eff (k:=19) rfl ?_
 refine st_m0 (stor5 hs121 hv131 (i:=((k + i) / 8)) (.tmp rfl rfl) (.tmp rfl rfl) rfl (by simp; omega) one1 (splice_set (by omega))) ?_
 rintro w132 hs133
 have ok134:=ok2.setB (i:=((k + i) / 8)) (a:=(z125 ^^^ (1 * 2 ^ ((k + i) % 8) % 256)))
 refine s_end ?_
 refine n_block (n_then (c_region (st (v:=.int .i64 ((i:Nat):Int)) (x_move (.tmp rfl hρ114)) ?_)))
 refine st (v:=.int .i64 (((i + 1):Nat):Int)) (x_add (k:=.i64) (a:=((i:Nat):Int)) (b:=1) (.tmp rfl rfl) .const ((w64 (by omega) (by omega)).trans (by omega))) ?_
 refine st (v:=.int .i64 (((i + 1):Nat):Int)) (x_assign (.tmp rfl rfl)) ?_
 refine c_nil ?_
 refine n_then ⟨_,_,rfl,?_,(i + 1),hρ109,hρ110,hρ111,hρ112,hρ113,rfl,(by omega),(by omega),(by rw [← turn_yes hp119 hz126]; exact ok134),(by rw [← turn_yes hp119 hz126]; exact hs133),rfl⟩
 omega
 have hp119:¬ ((((((pattern / 2 ^ i) &&& 1):Nat):Int):Int) = 1):=of_decide_eq_false hc119
 refine c_cond_f (t:=false) (.tmp rfl (cVb hc119)) rfl ?_
 refine c_skip (n_block (n_then (c_region (st (v:=.int .i64 ((i:Nat):Int)) (x_move (.tmp rfl hρ114)) ?_))))
 refine st (v:=.int .i64 (((i + 1):Nat):Int)) (x_add (k:=.i64) (a:=((i:Nat):Int)) (b:=1) (.tmp rfl rfl) .const ((w64 (by omega) (by omega)).trans (by omega))) ?_
 refine st (v:=.int .i64 (((i + 1):Nat):Int)) (x_assign (.tmp rfl rfl)) ?_
 refine c_nil ?_
 refine n_then ⟨_,_,rfl,?_,(i + 1),hρ109,hρ110,hρ111,hρ112,hρ113,rfl,(by omega),(by omega),(by rw [← turn_no hp119]; exact ok2),(by rw [← turn_no hp119]; exact hs115),rfl⟩
 omega
 have hp116:¬ (((((i:Nat):Int):Int) < 32)∧(((((k + i):Nat):Int):Int) < (((8 * (encC f).1.length):Nat):Int))):=J_no (J_and decide_eq_true_iff decide_eq_true_iff) hc116
 refine c_cond_f (t:=false) (.tmp rfl (hρ108.trans (cVb hc116))) rfl ?_
 refine c_exit (x_then (x_then (x_here (n_then (c_seq (c_region (st (v:=v82) (x_move (.tmp rfl hρ112)) ?_)))))))
 obtain ⟨H135,A136,c137,hle138,hs139,rfl,hp140⟩:=hs115.freezeBs ok2 (turn_small hslt k pattern i) (by omega)
 have hy141:By H135 A136 ((encC f).1.length) c137 (turn (encC f).1 k pattern i):=⟨hp140,by omega⟩
 refine st_c cb15 .func (evs1 (.tmp rfl rfl)) (decode_spec hs139 (turn (encC f).1 k pattern i) hy141 ) ?_
 rintro e w142 ⟨H144,cs146,hle145,rfl,hr147,hs143⟩
 obtain ⟨A161,n162,c163,A166,n167,c168,A170,n171,c172,rfl,b148,⟨b149,b150⟩,b151,⟨b152,b153⟩,b154,b155,⟨b156,b157⟩,b158,⟨b159,b160⟩,hl164,b165,hl169,hl173,b174,b175⟩:=hr147
 have:=hl164.len; have:n162 * 48 ≤ 140737488351232:=hl164.bnd; have:=hl164.le
 have:=hl169.len; have:n167 * 24 ≤ 140737488351232:=hl169.bnd; have:=hl169.le
 have:=hl173.len; have:n171 * 32 ≤ 140737488351232:=hl173.bnd; have:=hl173.le
 refine ⟨_,rfl,?_⟩
 refine st (v:=.tuple #[.agg #[.int .u8 (((((decA (turn (encC f).1 k pattern i)).1).Kind):Nat):Int),.int .i64 (((decA (turn (encC f).1 k pattern i)).1).From),.int .u64 ((((((decA (turn (encC f).1 k pattern i)).1).ID).N):Nat):Int),.int .i64 ((((decA (turn (encC f).1 k pattern i)).1).ID).P),.int .u16 (((((decA (turn (encC f).1 k pattern i)).1).Set):Nat):Int),.int .u64 ((((((decA (turn (encC f).1 k pattern i)).1).Cur).N):Nat):Int),.int .i64 ((((decA (turn (encC f).1 k pattern i)).1).Cur).P),.int .u64 ((((((decA (turn (encC f).1 k pattern i)).1).Prom).N):Nat):Int),.int .i64 ((((decA (turn (encC f).1 k pattern i)).1).Prom).P),.slice A161 n162 c163,.int .u64 (((((decA (turn (encC f).1 k pattern i)).1).Base):Nat):Int),.slice A166 n167 c168,.slice A170 n171 c172,.int .u64 (((((decA (turn (encC f).1 k pattern i)).1).Ack):Nat):Int),.int .u64 (((((decA (turn (encC f).1 k pattern i)).1).Safe):Nat):Int)],.int .i64 ((decA (turn (encC f).1 k pattern i)).2)]) (x_move (.tmp rfl rfl)) ?_
 refine st (v:=.agg #[.int .u8 (((((decA (turn (encC f).1 k pattern i)).1).Kind):Nat):Int),.int .i64 (((decA (turn (encC f).1 k pattern i)).1).From),.int .u64 ((((((decA (turn (encC f).1 k pattern i)).1).ID).N):Nat):Int),.int .i64 ((((decA (turn (encC f).1 k pattern i)).1).ID).P),.int .u16 (((((decA (turn (encC f).1 k pattern i)).1).Set):Nat):Int),.int .u64 ((((((decA (turn (encC f).1 k pattern i)).1).Cur).N):Nat):Int),.int .i64 ((((decA (turn (encC f).1 k pattern i)).1).Cur).P),.int .u64 ((((((decA (turn (encC f).1 k pattern i)).1).Prom).N):Nat):Int),.int .i64 ((((decA (turn (encC f).1 k pattern i)).1).Prom).P),.slice A161 n162 c163,.int .u64 (((((decA (turn (encC f).1 k pattern i)).1).Base):Nat):Int),.slice A166 n167 c168,.slice A170 n171 c172,.int .u64 (((((decA (turn (encC f).1 k pattern i)).1).Ack):Nat):Int),.int .u64 (((((decA (turn (encC f).1 k pattern i)).1).Safe):Nat):Int)]) (x_extract (.tmp rfl rfl) (i:=0) rfl) ?_
 refine st (v:=.int .i64 ((decA (turn (encC f).1 k pattern i)).2)) (x_extract (.tmp rfl rfl) (i:=1) rfl) ?_
 refine st_m (al30 (cs:=[.int .u8 0,.int .i64 0,.int .u64 0,.int .i64 0,.int .u16 0,.int .u64 0,.int .i64 0,.int .u64 0,.int .i64 0,.slice none 0 0,.int .u64 0,.slice none 0 0,.slice none 0 0,.int .u64 0,.int .u64 0]) hs143 rfl) ?_
 rintro _ w177 ⟨g176,rfl,hs179⟩
 refine st_m0 (sto30 (cs':=[.int .u8 (((((decA (turn (encC f).1 k pattern i)).1).Kind):Nat):Int),.int .i64 (((decA (turn (encC f).1 k pattern i)).1).From),.int .u64 ((((((decA (turn (encC f).1 k pattern i)).1).ID).N):Nat):Int),.int .i64 ((((decA (turn (encC f).1 k pattern i)).1).ID).P),.int .u16 (((((decA (turn (encC f).1 k pattern i)).1).Set):Nat):Int),.int .u64 ((((((decA (turn (encC f).1 k pattern i)).1).Cur).N):Nat):Int),.int .i64 ((((decA (turn (encC f).1 k pattern i)).1).Cur).P),.int .u64 ((((((decA (turn (encC f).1 k pattern i)).1).Prom).N):Nat):Int),.int .i64 ((((decA (turn (encC f).1 k pattern i)).1).Prom).P),.slice A161 n162 c163,.int .u64 (((((decA (turn (encC f).1 k pattern i)).1).Base):Nat):Int),.slice A166 n167 c168,.slice A170 n171 c172,.int .u64 (((((decA (turn (encC f).1 k pattern i)).1).Ack):Nat):Int),.int .u64 (((((decA (turn (encC f).1 k pattern i)).1).Safe):Nat):Int)]) (i:=0) hs179 (v:=.agg #[.int .u8 (((((decA (turn (encC f).1 k pattern i)).1).Kind):Nat):Int),.int .i64 (((decA (turn (encC f).1 k pattern i)).1).From),.int .u64 ((((((decA (turn (encC f).1 k pattern i)).1).ID).N):Nat):Int),.int .i64 ((((decA (turn (encC f).1 k pattern i)).1).ID).P),.int .u16 (((((decA (turn (encC f).1 k pattern i)).1).Set):Nat):Int),.int .u64 ((((((decA (turn (encC f).1 k pattern i)).1).Cur).N):Nat):Int),.int .i64 ((((decA (turn (encC f).1 k pattern i)).1).Cur).P),.int .u64 ((((((decA (turn (encC f).1 k pattern i)).1).Prom).N):Nat):Int),.int .i64 ((((decA (turn (encC f).1 k pattern i)).1).Prom).P),.slice A161 n162 c163,.int .u64 (((((decA (turn (encC f).1 k pattern i)).1).Base):Nat):Int),.slice A166 n167 c168,.slice A170 n171 c172,.int .u64 (((((decA (turn (encC f).1 k pattern i)).1).Ack):Nat):Int),.int .u64 (((((decA (turn (encC f).1 k pattern i)).1).Safe):Nat):Int)]) (.tmp rfl rfl) (.tmp rfl rfl) rfl (Nat.le_of_ble_eq_true rfl) (oneA rfl) rfl) ?_
 rintro w180 hs182
 refine st (v:=.int .i64 ((decA (turn (encC f).1 k pattern i)).2)) (x_assign (.tmp rfl rfl)) ?_
 refine c_nil (n_then (c_seq (c_region (st (v:=.int .u16 ((cut:Nat):Int)) (x_move (.tmp rfl hρ110)) ?_))))
 refine st (v:=.int .i64 ((cut:Nat):Int)) (x_conv (k:=.u16) (a:=((cut:Nat):Int)) Try.underlying25 Try.underlying3 (.tmp rfl rfl) (w64 (by omega) (by omega))) ?_
 refine st (v:=.slice A76 (((encC f).1).length) c77) (x_move (.tmp rfl hρ111)) ?_
 refine st (v:=.int .i64 (((((encC f).1).length):Nat):Int)) (x_len (n:=(((encC f).1).length)) Try.underlying33 (.tmp rfl rfl)) ?_
 have:cut % (((encC f).1).length) < (((encC f).1).length):=Nat.mod_lt _ (by omega)
 refine st (v:=.int .i64 (((cut % (((encC f).1).length)):Nat):Int)) (x_remN (k:=.i64) (m:=cut) (n:=(((encC f).1).length)) (.tmp rfl rfl) (.tmp rfl rfl) (by omega)) ?_
 refine st (v:=.int .i64 (((cut % (((encC f).1).length)):Nat):Int)) (x_assign (.tmp rfl rfl)) ?_
 refine c_nil (n_then (c_seq (c_region (st (v:=.slice A76 (((encC f).1).length) c77) (x_move (.tmp rfl hρ111)) ?_))))
 refine st (v:=.int .i64 (((cut % (((encC f).1).length)):Nat):Int)) (x_move (.tmp rfl rfl)) ?_
 have:=((hy81.toBs.mono hle138).mono hle145).le
 refine st (v:=.slice A76 (cut % (((encC f).1).length)) c77) (bs_h Try.underlying33 inf5 (a:=(((cut % (((encC f).1).length)):Nat):Int)) (.tmp rfl rfl) (.tmp rfl rfl) (by omega) (by omega)) ?_
 refine st_c cb15 .func (evs1 (.tmp rfl rfl)) (decode_spec hs182 (((encC f).1).take (cut % (((encC f).1).length))) ⟨(((hy81.toBs.mono hle138).mono hle145).take (k:=(cut % (((encC f).1).length))) (by omega)),by omega⟩ ) ?_
 rintro e w183 ⟨H185,cs187,hle186,rfl,hr188,hs184⟩
 obtain ⟨A202,n203,c204,A207,n208,c209,A211,n212,c213,rfl,b189,⟨b190,b191⟩,b192,⟨b193,b194⟩,b195,b196,⟨b197,b198⟩,b199,⟨b200,b201⟩,hl205,b206,hl210,hl214,b215,b216⟩:=hr188
 have:=hl205.len; have:n203 * 48 ≤ 140737488351232:=hl205.bnd; have:=hl205.le
 have:=hl210.len; have:n208 * 24 ≤ 140737488351232:=hl210.bnd; have:=hl210.le
 have:=hl214.len; have:n212 * 32 ≤ 140737488351232:=hl214.bnd; have:=hl214.le
 refine ⟨_,rfl,?_⟩
 refine st (v:=.tuple #[.agg #[.int .u8 (((((decA (((encC f).1).take (cut % (((encC f).1).length)))).1).Kind):Nat):Int),.int .i64 (((decA (((encC f).1).take (cut % (((encC f).1).length)))).1).From),.int .u64 ((((((decA (((encC f).1).take (cut % (((encC f).1).length)))).1).ID).N):Nat):Int),.int .i64 ((((decA (((encC f).1).take (cut % (((encC f).1).length)))).1).ID).P),.int .u16 (((((decA (((encC f).1).take (cut % (((encC f).1).length)))).1).Set):Nat):Int),.int .u64 ((((((decA (((encC f).1).take (cut % (((encC f).1).length)))).1).Cur).N):Nat):Int),.int .i64 ((((decA (((encC f).1).take (cut % (((encC f).1).length)))).1).Cur).P),.int .u64 ((((((decA (((encC f).1).take (cut % (((encC f).1).length)))).1).Prom).N):Nat):Int),.int .i64 ((((decA (((encC f).1).take (cut % (((encC f).1).length)))).1).Prom).P),.slice A202 n203 c204,.int .u64 (((((decA (((encC f).1).take (cut % (((encC f).1).length)))).1).Base):Nat):Int),.slice A207 n208 c209,.slice A211 n212 c213,.int .u64 (((((decA (((encC f).1).take (cut % (((encC f).1).length)))).1).Ack):Nat):Int),.int .u64 (((((decA (((encC f).1).take (cut % (((encC f).1).length)))).1).Safe):Nat):Int)],.int .i64 ((decA (((encC f).1).take (cut % (((encC f).1).length)))).2)]) (x_move (.tmp rfl rfl)) ?_
 refine st (v:=.agg #[.int .u8 (((((decA (((encC f).1).take (cut % (((encC f).1).length)))).1).Kind):Nat):Int),.int .i64 (((decA (((encC f).1).take (cut % (((encC f).1).length)))).1).From),.int .u64 ((((((decA (((encC f).1).take (cut % (((encC f).1).length)))).1).ID).N):Nat):Int),.int .i64 ((((decA (((encC f).1).take (cut % (((encC f).1).length)))).1).ID).P),.int .u16 (((((decA (((encC f).1).take (cut % (((encC f).1).length)))).1).Set):Nat):Int),.int .u64 ((((((decA (((encC f).1).take (cut % (((encC f).1).length)))).1).Cur).N):Nat):Int),.int .i64 ((((decA (((encC f).1).take (cut % (((encC f).1).length)))).1).Cur).P),.int .u64 ((((((decA (((encC f).1).take (cut % (((encC f).1).length)))).1).Prom).N):Nat):Int),.int .i64 ((((decA (((encC f).1).take (cut % (((encC f).1).length)))).1).Prom).P),.slice A202 n203 c204,.int .u64 (((((decA (((encC f).1).take (cut % (((encC f).1).length)))).1).Base):Nat):Int),.slice A207 n208 c209,.slice A211 n212 c213,.int .u64 (((((decA (((encC f).1).take (cut % (((encC f).1).length)))).1).Ack):Nat):Int),.int .u64 (((((decA (((encC f).1).take (cut % (((encC f).1).length)))).1).Safe):Nat):Int)]) (x_extract (.tmp rfl rfl) (i:=0) rfl) ?_
 refine st (v:=.int .i64 ((decA (((encC f).1).take (cut % (((encC f).1).length)))).2)) (x_extract (.tmp rfl rfl) (i:=1) rfl) ?_
 refine st_m (al30 (cs:=[.int .u8 0,.int .i64 0,.int .u64 0,.int .i64 0,.int .u16 0,.int .u64 0,.int .i64 0,.int .u64 0,.int .i64 0,.slice none 0 0,.int .u64 0,.slice none 0 0,.slice none 0 0,.int .u64 0,.int .u64 0]) hs184 rfl) ?_
 rintro _ w218 ⟨g217,rfl,hs220⟩
 refine st_m0 (sto30 (cs':=[.int .u8 (((((decA (((encC f).1).take (cut % (((encC f).1).length)))).1).Kind):Nat):Int),.int .i64 (((decA (((encC f).1).take (cut % (((encC f).1).length)))).1).From),.int .u64 ((((((decA (((encC f).1).take (cut % (((encC f).1).length)))).1).ID).N):Nat):Int),.int .i64 ((((decA (((encC f).1).take (cut % (((encC f).1).length)))).1).ID).P),.int .u16 (((((decA (((encC f).1).take (cut % (((encC f).1).length)))).1).Set):Nat):Int),.int .u64 ((((((decA (((encC f).1).take (cut % (((encC f).1).length)))).1).Cur).N):Nat):Int),.int .i64 ((((decA (((encC f).1).take (cut % (((encC f).1).length)))).1).Cur).P),.int .u64 ((((((decA (((encC f).1).take (cut % (((encC f).1).length)))).1).Prom).N):Nat):Int),.int .i64 ((((decA (((encC f).1).take (cut % (((encC f).1).length)))).1).Prom).P),.slice A202 n203 c204,.int .u64 (((((decA (((encC f).1).take (cut % (((encC f).1).length)))).1).Base):Nat):Int),.slice A207 n208 c209,.slice A211 n212 c213,.int .u64 (((((decA (((encC f).1).take (cut % (((encC f).1).length)))).1).Ack):Nat):Int),.int .u64 (((((decA (((encC f).1).take (cut % (((encC f).1).length)))).1).Safe):Nat):Int)]) (i:=0) hs220 (v:=.agg #[.int .u8 (((((decA (((encC f).1).take (cut % (((encC f).1).length)))).1).Kind):Nat):Int),.int .i64 (((decA (((encC f).1).take (cut % (((encC f).1).length)))).1).From),.int .u64 ((((((decA (((encC f).1).take (cut % (((encC f).1).length)))).1).ID).N):Nat):Int),.int .i64 ((((decA (((encC f).1).take (cut % (((encC f).1).length)))).1).ID).P),.int .u16 (((((decA (((encC f).1).take (cut % (((encC f).1).length)))).1).Set):Nat):Int),.int .u64 ((((((decA (((encC f).1).take (cut % (((encC f).1).length)))).1).Cur).N):Nat):Int),.int .i64 ((((decA (((encC f).1).take (cut % (((encC f).1).length)))).1).Cur).P),.int .u64 ((((((decA (((encC f).1).take (cut % (((encC f).1).length)))).1).Prom).N):Nat):Int),.int .i64 ((((decA (((encC f).1).take (cut % (((encC f).1).length)))).1).Prom).P),.slice A202 n203 c204,.int .u64 (((((decA (((encC f).1).take (cut % (((encC f).1).length)))).1).Base):Nat):Int),.slice A207 n208 c209,.slice A211 n212 c213,.int .u64 (((((decA (((encC f).1).take (cut % (((encC f).1).length)))).1).Ack):Nat):Int),.int .u64 (((((decA (((encC f).1).take (cut % (((encC f).1).length)))).1).Safe):Nat):Int)]) (.tmp rfl rfl) (.tmp rfl rfl) rfl (Nat.le_of_ble_eq_true rfl) (oneA rfl) rfl) ?_
 rintro w221 hs223
 refine st (v:=.int .i64 ((decA (((encC f).1).take (cut % (((encC f).1).length)))).2)) (x_assign (.tmp rfl rfl)) ?_
 refine c_nil (n_then (c_seq (c_region (st (v:=.slice A76 (((encC f).1).length) c77) (x_move (.tmp rfl hρ111)) ?_))))
 refine st (v:=.int .i64 (((cut % (((encC f).1).length)):Nat):Int)) (x_move (.tmp rfl rfl)) ?_
 have:=(((hy81.toBs.mono hle138).mono hle145).mono hle186).le
 refine st (v:=.slice A76 (cut % (((encC f).1).length)) c77) (bs_h Try.underlying33 inf5 (a:=(((cut % (((encC f).1).length)):Nat):Int)) (.tmp rfl rfl) (.tmp rfl rfl) (by omega) (by omega)) ?_
 refine st_c cb18 .func (evs1 (.tmp rfl rfl)) (rdecode_spec hs223 (((encC f).1).take (cut % (((encC f).1).length))) ⟨((((hy81.toBs.mono hle138).mono hle145).mono hle186).take (k:=(cut % (((encC f).1).length))) (by omega)),by omega⟩ ) ?_
 rintro e w224 ⟨H226,cs228,hle227,rfl,hr229,hs225⟩
 obtain ⟨A243,n244,c245,A248,n249,c250,A252,n253,c254,rfl,b230,⟨b231,b232⟩,b233,⟨b234,b235⟩,b236,b237,⟨b238,b239⟩,b240,⟨b241,b242⟩,hl246,b247,hl251,hl255,b256,b257⟩:=hr229
 have:=hl246.len; have:n244 * 48 ≤ 140737488351232:=hl246.bnd; have:=hl246.le
 have:=hl251.len; have:n249 * 24 ≤ 140737488351232:=hl251.bnd; have:=hl251.le
 have:=hl255.len; have:n253 * 32 ≤ 140737488351232:=hl255.bnd; have:=hl255.le
 refine ⟨_,rfl,?_⟩
 refine st (v:=.tuple #[.agg #[.int .u8 (((((refA (((encC f).1).take (cut % (((encC f).1).length)))).1).Kind):Nat):Int),.int .i64 (((refA (((encC f).1).take (cut % (((encC f).1).length)))).1).From),.int .u64 ((((((refA (((encC f).1).take (cut % (((encC f).1).length)))).1).ID).N):Nat):Int),.int .i64 ((((refA (((encC f).1).take (cut % (((encC f).1).length)))).1).ID).P),.int .u16 (((((refA (((encC f).1).take (cut % (((encC f).1).length)))).1).Set):Nat):Int),.int .u64 ((((((refA (((encC f).1).take (cut % (((encC f).1).length)))).1).Cur).N):Nat):Int),.int .i64 ((((refA (((encC f).1).take (cut % (((encC f).1).length)))).1).Cur).P),.int .u64 ((((((refA (((encC f).1).take (cut % (((encC f).1).length)))).1).Prom).N):Nat):Int),.int .i64 ((((refA (((encC f).1).take (cut % (((encC f).1).length)))).1).Prom).P),.slice A243 n244 c245,.int .u64 (((((refA (((encC f).1).take (cut % (((encC f).1).length)))).1).Base):Nat):Int),.slice A248 n249 c250,.slice A252 n253 c254,.int .u64 (((((refA (((encC f).1).take (cut % (((encC f).1).length)))).1).Ack):Nat):Int),.int .u64 (((((refA (((encC f).1).take (cut % (((encC f).1).length)))).1).Safe):Nat):Int)],.int .i64 ((refA (((encC f).1).take (cut % (((encC f).1).length)))).2)]) (x_move (.tmp rfl rfl)) ?_
 refine st (v:=.agg #[.int .u8 (((((refA (((encC f).1).take (cut % (((encC f).1).length)))).1).Kind):Nat):Int),.int .i64 (((refA (((encC f).1).take (cut % (((encC f).1).length)))).1).From),.int .u64 ((((((refA (((encC f).1).take (cut % (((encC f).1).length)))).1).ID).N):Nat):Int),.int .i64 ((((refA (((encC f).1).take (cut % (((encC f).1).length)))).1).ID).P),.int .u16 (((((refA (((encC f).1).take (cut % (((encC f).1).length)))).1).Set):Nat):Int),.int .u64 ((((((refA (((encC f).1).take (cut % (((encC f).1).length)))).1).Cur).N):Nat):Int),.int .i64 ((((refA (((encC f).1).take (cut % (((encC f).1).length)))).1).Cur).P),.int .u64 ((((((refA (((encC f).1).take (cut % (((encC f).1).length)))).1).Prom).N):Nat):Int),.int .i64 ((((refA (((encC f).1).take (cut % (((encC f).1).length)))).1).Prom).P),.slice A243 n244 c245,.int .u64 (((((refA (((encC f).1).take (cut % (((encC f).1).length)))).1).Base):Nat):Int),.slice A248 n249 c250,.slice A252 n253 c254,.int .u64 (((((refA (((encC f).1).take (cut % (((encC f).1).length)))).1).Ack):Nat):Int),.int .u64 (((((refA (((encC f).1).take (cut % (((encC f).1).length)))).1).Safe):Nat):Int)]) (x_extract (.tmp rfl rfl) (i:=0) rfl) ?_
 refine st (v:=.int .i64 ((refA (((encC f).1).take (cut % (((encC f).1).length)))).2)) (x_extract (.tmp rfl rfl) (i:=1) rfl) ?_
 refine st_m (al30 (cs:=[.int .u8 0,.int .i64 0,.int .u64 0,.int .i64 0,.int .u16 0,.int .u64 0,.int .i64 0,.int .u64 0,.int .i64 0,.slice none 0 0,.int .u64 0,.slice none 0 0,.slice none 0 0,.int .u64 0,.int .u64 0]) hs225 rfl) ?_
 rintro _ w259 ⟨g258,rfl,hs261⟩
 refine st_m0 (sto30 (cs':=[.int .u8 (((((refA (((encC f).1).take (cut % (((encC f).1).length)))).1).Kind):Nat):Int),.int .i64 (((refA (((encC f).1).take (cut % (((encC f).1).length)))).1).From),.int .u64 ((((((refA (((encC f).1).take (cut % (((encC f).1).length)))).1).ID).N):Nat):Int),.int .i64 ((((refA (((encC f).1).take (cut % (((encC f).1).length)))).1).ID).P),.int .u16 (((((refA (((encC f).1).take (cut % (((encC f).1).length)))).1).Set):Nat):Int),.int .u64 ((((((refA (((encC f).1).take (cut % (((encC f).1).length)))).1).Cur).N):Nat):Int),.int .i64 ((((refA (((encC f).1).take (cut % (((encC f).1).length)))).1).Cur).P),.int .u64 ((((((refA (((encC f).1).take (cut % (((encC f).1).length)))).1).Prom).N):Nat):Int),.int .i64 ((((refA (((encC f).1).take (cut % (((encC f).1).length)))).1).Prom).P),.slice A243 n244 c245,.int .u64 (((((refA (((encC f).1).take (cut % (((encC f).1).length)))).1).Base):Nat):Int),.slice A248 n249 c250,.slice A252 n253 c254,.int .u64 (((((refA (((encC f).1).take (cut % (((encC f).1).length)))).1).Ack):Nat):Int),.int .u64 (((((refA (((encC f).1).take (cut % (((encC f).1).length)))).1).Safe):Nat):Int)]) (i:=0) hs261 (v:=.agg #[.int .u8 (((((refA (((encC f).1).take (cut % (((encC f).1).length)))).1).Kind):Nat):Int),.int .i64 (((refA (((encC f).1).take (cut % (((encC f).1).length)))).1).From),.int .u64 ((((((refA (((encC f).1).take (cut % (((encC f).1).length)))).1).ID).N):Nat):Int),.int .i64 ((((refA (((encC f).1).take (cut % (((encC f).1).length)))).1).ID).P),.int .u16 (((((refA (((encC f).1).take (cut % (((encC f).1).length)))).1).Set):Nat):Int),.int .u64 ((((((refA (((encC f).1).take (cut % (((encC f).1).length)))).1).Cur).N):Nat):Int),.int .i64 ((((refA (((encC f).1).take (cut % (((encC f).1).length)))).1).Cur).P),.int .u64 ((((((refA (((encC f).1).take (cut % (((encC f).1).length)))).1).Prom).N):Nat):Int),.int .i64 ((((refA (((encC f).1).take (cut % (((encC f).1).length)))).1).Prom).P),.slice A243 n244 c245,.int .u64 (((((refA (((encC f).1).take (cut % (((encC f).1).length)))).1).Base):Nat):Int),.slice A248 n249 c250,.slice A252 n253 c254,.int .u64 (((((refA (((encC f).1).take (cut % (((encC f).1).length)))).1).Ack):Nat):Int),.int .u64 (((((refA (((encC f).1).take (cut % (((encC f).1).length)))).1).Safe):Nat):Int)]) (.tmp rfl rfl) (.tmp rfl rfl) rfl (Nat.le_of_ble_eq_true rfl) (oneA rfl) rfl) ?_
 rintro w262 hs264
 refine st (v:=.int .i64 ((refA (((encC f).1).take (cut % (((encC f).1).length)))).2)) (x_assign (.tmp rfl rfl)) ?_
 refine c_nil (n_then (c_seq (c_region (st (v:=.slice A136 ((encC f).1.length) c137) (x_move (.tmp rfl hρ112)) ?_))))
 refine st (v:=.string (bstr (turn (encC f).1 k pattern i))) ((((hy141.toBs.mono hle145).mono hle186).mono hle227).str Try.underlying33 Try.underlying5 Try.underlying9 hs264 (.tmp rfl rfl)) ?_
 refine st (v:=.slice A76 (((encC f).1).length) c77) (x_move (.tmp rfl hρ111)) ?_
 refine st (v:=.string (bstr ((encC f).1))) (((((hy81.toBs.mono hle138).mono hle145).mono hle186).mono hle227).str Try.underlying33 Try.underlying5 Try.underlying9 hs264 (.tmp rfl rfl)) ?_
 refine st (v:=.bool (decide ((bstr (turn (encC f).1 k pattern i)) = (bstr ((encC f).1))))) (x_eqlS (.tmp rfl rfl) (.tmp rfl rfl)) ?_
 refine st (v:=.bool (decide ((bstr (turn (encC f).1 k pattern i)) = (bstr ((encC f).1))))) (x_move (.tmp rfl rfl)) ?_
 refine jw 3 (fun ρ w => ρ 122 = .bool ((decide ((bstr (turn (encC f).1 k pattern i)) = (bstr ((encC f).1)))) || (decide ((((decA (turn (encC f).1 k pattern i)).2):Int) = 5)))∧ρ 17 = .pointer (some ⟨g217,0,none⟩)∧ρ 18 = .int .i64 ((decA (((encC f).1).take (cut % (((encC f).1).length)))).2)∧ρ 19 = .pointer (some ⟨g258,0,none⟩)∧ρ 20 = .int .i64 ((refA (((encC f).1).take (cut % (((encC f).1).length)))).2)∧St H226 w (obj g258 30 [.int .u8 (((((refA (((encC f).1).take (cut % (((encC f).1).length)))).1).Kind):Nat):Int),.int .i64 (((refA (((encC f).1).take (cut % (((encC f).1).length)))).1).From),.int .u64 ((((((refA (((encC f).1).take (cut % (((encC f).1).length)))).1).ID).N):Nat):Int),.int .i64 ((((refA (((encC f).1).take (cut % (((encC f).1).length)))).1).ID).P),.int .u16 (((((refA (((encC f).1).take (cut % (((encC f).1).length)))).1).Set):Nat):Int),.int .u64 ((((((refA (((encC f).1).take (cut % (((encC f).1).length)))).1).Cur).N):Nat):Int),.int .i64 ((((refA (((encC f).1).take (cut % (((encC f).1).length)))).1).Cur).P),.int .u64 ((((((refA (((encC f).1).take (cut % (((encC f).1).length)))).1).Prom).N):Nat):Int),.int .i64 ((((refA (((encC f).1).take (cut % (((encC f).1).length)))).1).Prom).P),.slice A243 n244 c245,.int .u64 (((((refA (((encC f).1).take (cut % (((encC f).1).length)))).1).Base):Nat):Int),.slice A248 n249 c250,.slice A252 n253 c254,.int .u64 (((((refA (((encC f).1).take (cut % (((encC f).1).length)))).1).Ack):Nat):Int),.int .u64 (((((refA (((encC f).1).take (cut % (((encC f).1).length)))).1).Safe):Nat):Int)]::obj g217 30 [.int .u8 (((((decA (((encC f).1).take (cut % (((encC f).1).length)))).1).Kind):Nat):Int),.int .i64 (((decA (((encC f).1).take (cut % (((encC f).1).length)))).1).From),.int .u64 ((((((decA (((encC f).1).take (cut % (((encC f).1).length)))).1).ID).N):Nat):Int),.int .i64 ((((decA (((encC f).1).take (cut % (((encC f).1).length)))).1).ID).P),.int .u16 (((((decA (((encC f).1).take (cut % (((encC f).1).length)))).1).Set):Nat):Int),.int .u64 ((((((decA (((encC f).1).take (cut % (((encC f).1).length)))).1).Cur).N):Nat):Int),.int .i64 ((((decA (((encC f).1).take (cut % (((encC f).1).length)))).1).Cur).P),.int .u64 ((((((decA (((encC f).1).take (cut % (((encC f).1).length)))).1).Prom).N):Nat):Int),.int .i64 ((((decA (((encC f).1).take (cut % (((encC f).1).length)))).1).Prom).P),.slice A202 n203 c204,.int .u64 (((((decA (((encC f).1).take (cut % (((encC f).1).length)))).1).Base):Nat):Int),.slice A207 n208 c209,.slice A211 n212 c213,.int .u64 (((((decA (((encC f).1).take (cut % (((encC f).1).length)))).1).Ack):Nat):Int),.int .u64 (((((decA (((encC f).1).take (cut % (((encC f).1).length)))).1).Safe):Nat):Int)]::obj g176 30 [.int .u8 (((((decA (turn (encC f).1 k pattern i)).1).Kind):Nat):Int),.int .i64 (((decA (turn (encC f).1 k pattern i)).1).From),.int .u64 ((((((decA (turn (encC f).1 k pattern i)).1).ID).N):Nat):Int),.int .i64 ((((decA (turn (encC f).1 k pattern i)).1).ID).P),.int .u16 (((((decA (turn (encC f).1 k pattern i)).1).Set):Nat):Int),.int .u64 ((((((decA (turn (encC f).1 k pattern i)).1).Cur).N):Nat):Int),.int .i64 ((((decA (turn (encC f).1 k pattern i)).1).Cur).P),.int .u64 ((((((decA (turn (encC f).1 k pattern i)).1).Prom).N):Nat):Int),.int .i64 ((((decA (turn (encC f).1 k pattern i)).1).Prom).P),.slice A161 n162 c163,.int .u64 (((((decA (turn (encC f).1 k pattern i)).1).Base):Nat):Int),.slice A166 n167 c168,.slice A170 n171 c172,.int .u64 (((((decA (turn (encC f).1 k pattern i)).1).Ack):Nat):Int),.int .u64 (((((decA (turn (encC f).1 k pattern i)).1).Safe):Nat):Int)]::L)) ?_ ?_
 rcases Bool.eq_false_or_eq_true (decide ((bstr (turn (encC f).1 k pattern i)) = (bstr ((encC f).1)))) with hc265 | hc265
 have hp265:(bstr (turn (encC f).1 k pattern i)) = (bstr ((encC f).1)):=of_decide_eq_true hc265
 refine g_no (yk 119 true rfl rfl hc265) rfl ?_
 refine g_no (yk 119 true rfl rfl hc265) rfl ?_
 refine st (v:=.bool true) (x_pick_t (.tmp rfl (cVb hc265)) .const) ?_
 exact jw_end ⟨(cVb (jor_t hc265)),rfl,rfl,rfl,rfl,hs264⟩
 have hp265:¬ ((bstr (turn (encC f).1 k pattern i)) = (bstr ((encC f).1))):=of_decide_eq_false hc265
 refine g_yes (yk 119 false rfl rfl hc265) ?_
 refine st (v:=.int .i64 ((decA (turn (encC f).1 k pattern i)).2)) (x_move (.tmp rfl rfl)) ?_
 refine g_yes (yk 119 false rfl rfl hc265) ?_
 refine st (v:=.bool (decide ((((decA (turn (encC f).1 k pattern i)).2):Int) = 5))) (x_eql (k:=.i64) (a:=((decA (turn (encC f).1 k pattern i)).2)) (b:=5) (.tmp rfl rfl) .const) ?_
 refine st (v:=.bool (decide ((((decA (turn (encC f).1 k pattern i)).2):Int) = 5))) (x_pick_f (.tmp rfl (cVb hc265)) (.tmp rfl rfl)) ?_
 exact jw_end ⟨(cVb (jor_f hc265)),rfl,rfl,rfl,rfl,hs264⟩
 rintro ρ w ⟨hρ266,hρ267,hρ268,hρ269,hρ270,hs271⟩
 refine st (v:=.bool ((decide ((bstr (turn (encC f).1 k pattern i)) = (bstr ((encC f).1)))) || (decide ((((decA (turn (encC f).1 k pattern i)).2):Int) = 5)))) (x_move (.tmp rfl hρ266)) ?_
 have hc272:((decide ((bstr (turn (encC f).1 k pattern i)) = (bstr ((encC f).1)))) || (decide ((((decA (turn (encC f).1 k pattern i)).2):Int) = 5))) = true:=(by rw [he1] at hslt hel hki ⊢; exact turned_or hslt hi hki hel)
 refine g_yes (yk 123 true rfl rfl hc272) ?_
 refine st (v:=.int .i64 ((decA (((encC f).1).take (cut % (((encC f).1).length)))).2)) (x_move (.tmp rfl hρ268)) ?_
 refine g_yes (yk 123 true rfl rfl hc272) ?_
 refine st (v:=.int .i64 ((refA (((encC f).1).take (cut % (((encC f).1).length)))).2)) (x_move (.tmp rfl hρ270)) ?_
 refine g_yes (yk 123 true rfl rfl hc272) ?_
 refine st (v:=.bool (decide ((((decA (((encC f).1).take (cut % (((encC f).1).length)))).2):Int) = ((refA (((encC f).1).take (cut % (((encC f).1).length)))).2)))) (x_eql (k:=.i64) (a:=((decA (((encC f).1).take (cut % (((encC f).1).length)))).2)) (b:=((refA (((encC f).1).take (cut % (((encC f).1).length)))).2)) (.tmp rfl rfl) (.tmp rfl rfl)) ?_
 refine st (v:=.bool (decide ((((decA (((encC f).1).take (cut % (((encC f).1).length)))).2):Int) = ((refA (((encC f).1).take (cut % (((encC f).1).length)))).2)))) (x_pick_t (.tmp rfl (cVb hc272)) (.tmp rfl rfl)) ?_
 refine st (v:=.bool (decide ((((decA (((encC f).1).take (cut % (((encC f).1).length)))).2):Int) = ((refA (((encC f).1).take (cut % (((encC f).1).length)))).2)))) (x_move (.tmp rfl rfl)) ?_
 have hc273:(decide ((((decA (((encC f).1).take (cut % (((encC f).1).length)))).2):Int) = ((refA (((encC f).1).take (cut % (((encC f).1).length)))).2))) = true:=(decide_eq_true (by rw [ways2 (hslt.take _)]))
 refine g_yes (yk 128 true rfl rfl hc273) ?_
 refine st (v:=.agg #[.int .u8 (((((decA (((encC f).1).take (cut % (((encC f).1).length)))).1).Kind):Nat):Int),.int .i64 (((decA (((encC f).1).take (cut % (((encC f).1).length)))).1).From),.int .u64 ((((((decA (((encC f).1).take (cut % (((encC f).1).length)))).1).ID).N):Nat):Int),.int .i64 ((((decA (((encC f).1).take (cut % (((encC f).1).length)))).1).ID).P),.int .u16 (((((decA (((encC f).1).take (cut % (((encC f).1).length)))).1).Set):Nat):Int),.int .u64 ((((((decA (((encC f).1).take (cut % (((encC f).1).length)))).1).Cur).N):Nat):Int),.int .i64 ((((decA (((encC f).1).take (cut % (((encC f).1).length)))).1).Cur).P),.int .u64 ((((((decA (((encC f).1).take (cut % (((encC f).1).length)))).1).Prom).N):Nat):Int),.int .i64 ((((decA (((encC f).1).take (cut % (((encC f).1).length)))).1).Prom).P),.slice A202 n203 c204,.int .u64 (((((decA (((encC f).1).take (cut % (((encC f).1).length)))).1).Base):Nat):Int),.slice A207 n208 c209,.slice A211 n212 c213,.int .u64 (((((decA (((encC f).1).take (cut % (((encC f).1).length)))).1).Ack):Nat):Int),.int .u64 (((((decA (((encC f).1).take (cut % (((encC f).1).length)))).1).Safe):Nat):Int)]) (ld30 (cs:=[.int .u8 (((((decA (((encC f).1).take (cut % (((encC f).1).length)))).1).Kind):Nat):Int),.int .i64 (((decA (((encC f).1).take (cut % (((encC f).1).length)))).1).From),.int .u64 ((((((decA (((encC f).1).take (cut % (((encC f).1).length)))).1).ID).N):Nat):Int),.int .i64 ((((decA (((encC f).1).take (cut % (((encC f).1).length)))).1).ID).P),.int .u16 (((((decA (((encC f).1).take (cut % (((encC f).1).length)))).1).Set):Nat):Int),.int .u64 ((((((decA (((encC f).1).take (cut % (((encC f).1).length)))).1).Cur).N):Nat):Int),.int .i64 ((((decA (((encC f).1).take (cut % (((encC f).1).length)))).1).Cur).P),.int .u64 ((((((decA (((encC f).1).take (cut % (((encC f).1).length)))).1).Prom).N):Nat):Int),.int .i64 ((((decA (((encC f).1).take (cut % (((encC f).1).length)))).1).Prom).P),.slice A202 n203 c204,.int .u64 (((((decA (((encC f).1).take (cut % (((encC f).1).length)))).1).Base):Nat):Int),.slice A207 n208 c209,.slice A211 n212 c213,.int .u64 (((((decA (((encC f).1).take (cut % (((encC f).1).length)))).1).Ack):Nat):Int),.int .u64 (((((decA (((encC f).1).take (cut % (((encC f).1).length)))).1).Safe):Nat):Int)]) (.tmp rfl hρ267) (hs271.at_ 1 rfl (0) rfl) rfl) ?_
 refine g_yes (yk 128 true rfl rfl hc273) ?_
 refine st (v:=.agg #[.int .u8 (((((refA (((encC f).1).take (cut % (((encC f).1).length)))).1).Kind):Nat):Int),.int .i64 (((refA (((encC f).1).take (cut % (((encC f).1).length)))).1).From),.int .u64 ((((((refA (((encC f).1).take (cut % (((encC f).1).length)))).1).ID).N):Nat):Int),.int .i64 ((((refA (((encC f).1).take (cut % (((encC f).1).length)))).1).ID).P),.int .u16 (((((refA (((encC f).1).take (cut % (((encC f).1).length)))).1).Set):Nat):Int),.int .u64 ((((((refA (((encC f).1).take (cut % (((encC f).1).length)))).1).Cur).N):Nat):Int),.int .i64 ((((refA (((encC f).1).take (cut % (((encC f).1).length)))).1).Cur).P),.int .u64 ((((((refA (((encC f).1).take (cut % (((encC f).1).length)))).1).Prom).N):Nat):Int),.int .i64 ((((refA (((encC f).1).take (cut % (((encC f).1).length)))).1).Prom).P),.slice A243 n244 c245,.int .u64 (((((refA (((encC f).1).take (cut % (((encC f).1).length)))).1).Base):Nat):Int),.slice A248 n249 c250,.slice A252 n253 c254,.int .u64 (((((refA (((encC f).1).take (cut % (((encC f).1).length)))).1).Ack):Nat):Int),.int .u64 (((((refA (((encC f).1).take (cut % (((encC f).1).length)))).1).Safe):Nat):Int)]) (ld30 (cs:=[.int .u8 (((((refA (((encC f).1).take (cut % (((encC f).1).length)))).1).Kind):Nat):Int),.int .i64 (((refA (((encC f).1).take (cut % (((encC f).1).length)))).1).From),.int .u64 ((((((refA (((encC f).1).take (cut % (((encC f).1).length)))).1).ID).N):Nat):Int),.int .i64 ((((refA (((encC f).1).take (cut % (((encC f).1).length)))).1).ID).P),.int .u16 (((((refA (((encC f).1).take (cut % (((encC f).1).length)))).1).Set):Nat):Int),.int .u64 ((((((refA (((encC f).1).take (cut % (((encC f).1).length)))).1).Cur).N):Nat):Int),.int .i64 ((((refA (((encC f).1).take (cut % (((encC f).1).length)))).1).Cur).P),.int .u64 ((((((refA (((encC f).1).take (cut % (((encC f).1).length)))).1).Prom).N):Nat):Int),.int .i64 ((((refA (((encC f).1).take (cut % (((encC f).1).length)))).1).Prom).P),.slice A243 n244 c245,.int .u64 (((((refA (((encC f).1).take (cut % (((encC f).1).length)))).1).Base):Nat):Int),.slice A248 n249 c250,.slice A252 n253 c254,.int .u64 (((((refA (((encC f).1).take (cut % (((encC f).1).length)))).1).Ack):Nat):Int),.int .u64 (((((refA (((encC f).1).take (cut % (((encC f).1).length)))).1).Safe):Nat):Int)]) (.tmp rfl hρ269) (hs271.at_ 0 rfl (0) rfl) rfl) ?_
 refine g_yes (yk 128 true rfl rfl hc273) ?_
 have hr274:kFrame.rep H226 ((decA (((encC f).1).take (cut % (((encC f).1).length)))).1) [.int .u8 (((((decA (((encC f).1).take (cut % (((encC f).1).length)))).1).Kind):Nat):Int),.int .i64 (((decA (((encC f).1).take (cut % (((encC f).1).length)))).1).From),.int .u64 ((((((decA (((encC f).1).take (cut % (((encC f).1).length)))).1).ID).N):Nat):Int),.int .i64 ((((decA (((encC f).1).take (cut % (((encC f).1).length)))).1).ID).P),.int .u16 (((((decA (((encC f).1).take (cut % (((encC f).1).length)))).1).Set):Nat):Int),.int .u64 ((((((decA (((encC f).1).take (cut % (((encC f).1).length)))).1).Cur).N):Nat):Int),.int .i64 ((((decA (((encC f).1).take (cut % (((encC f).1).length)))).1).Cur).P),.int .u64 ((((((decA (((encC f).1).take (cut % (((encC f).1).length)))).1).Prom).N):Nat):Int),.int .i64 ((((decA (((encC f).1).take (cut % (((encC f).1).length)))).1).Prom).P),.slice A202 n203 c204,.int .u64 (((((decA (((encC f).1).take (cut % (((encC f).1).length)))).1).Base):Nat):Int),.slice A207 n208 c209,.slice A211 n212 c213,.int .u64 (((((decA (((encC f).1).take (cut % (((encC f).1).length)))).1).Ack):Nat):Int),.int .u64 (((((decA (((encC f).1).take (cut % (((encC f).1).length)))).1).Safe):Nat):Int)]:=⟨A202,n203,c204,A207,n208,c209,A211,n212,c213,rfl,b189,⟨b190,b191⟩,b192,⟨b193,b194⟩,b195,b196,⟨b197,b198⟩,b199,⟨b200,b201⟩,(hl205.mono hle227),b206,(hl210.mono hle227),(hl214.mono hle227),b215,b216⟩
 have hr275:kFrame.rep H226 ((refA (((encC f).1).take (cut % (((encC f).1).length)))).1) [.int .u8 (((((refA (((encC f).1).take (cut % (((encC f).1).length)))).1).Kind):Nat):Int),.int .i64 (((refA (((encC f).1).take (cut % (((encC f).1).length)))).1).From),.int .u64 ((((((refA (((encC f).1).take (cut % (((encC f).1).length)))).1).ID).N):Nat):Int),.int .i64 ((((refA (((encC f).1).take (cut % (((encC f).1).length)))).1).ID).P),.int .u16 (((((refA (((encC f).1).take (cut % (((encC f).1).length)))).1).Set):Nat):Int),.int .u64 ((((((refA (((encC f).1).take (cut % (((encC f).1).length)))).1).Cur).N):Nat):Int),.int .i64 ((((refA (((encC f).1).take (cut % (((encC f).1).length)))).1).Cur).P),.int .u64 ((((((refA (((encC f).1).take (cut % (((encC f).1).length)))).1).Prom).N):Nat):Int),.int .i64 ((((refA (((encC f).1).take (cut % (((encC f).1).length)))).1).Prom).P),.slice A243 n244 c245,.int .u64 (((((refA (((encC f).1).take (cut % (((encC f).1).length)))).1).Base):Nat):Int),.slice A248 n249 c250,.slice A252 n253 c254,.int .u64 (((((refA (((encC f).1).take (cut % (((encC f).1).length)))).1).Ack):Nat):Int),.int .u64 (((((refA (((encC f).1).take (cut % (((encC f).1).length)))).1).Safe):Nat):Int)]:=⟨A243,n244,c245,A248,n249,c250,A252,n253,c254,rfl,b230,⟨b231,b232⟩,b233,⟨b234,b235⟩,b236,b237,⟨b238,b239⟩,b240,⟨b241,b242⟩,hl246,b247,hl251,hl255,b256,b257⟩
 refine st_c cb14 .func (evs2 (.tmp rfl rfl) (.tmp rfl rfl)) (same_frame hs271 ((decA (((encC f).1).take (cut % (((encC f).1).length)))).1) hr274 ((refA (((encC f).1).take (cut % (((encC f).1).length)))).1) hr275 ) ?_
 rintro e w276 ⟨rfl,hs277⟩
 refine ⟨_,rfl,?_⟩
 refine st (v:=.bool (decide (((decA (((encC f).1).take (cut % (((encC f).1).length)))).1) = ((refA (((encC f).1).take (cut % (((encC f).1).length)))).1)))) (x_pick_t (.tmp rfl (cVb hc273)) (.tmp rfl rfl)) ?_
 refine st (v:=.bool (decide (((decA (((encC f).1).take (cut % (((encC f).1).length)))).1) = ((refA (((encC f).1).take (cut % (((encC f).1).length)))).1)))) (x_assign (.tmp rfl rfl)) ?_
 refine c_nil (n_then (c_ret (leave_ret (res_one (v:=.bool (decide (((decA (((encC f).1).take (cut % (((encC f).1).length)))).1) = ((refA (((encC f).1).take (cut % (((encC f).1).length)))).1)))) rfl (.mk rfl rfl)) ?_)))
 have hyes:(decide (((decA (((encC f).1).take (cut % (((encC f).1).length)))).1) = ((refA (((encC f).1).take (cut % (((encC f).1).length)))).1))) = true:=(decide_eq_true (by rw [ways2 (hslt.take _)]))
 rw [hyes]
 exact ⟨rfl,(hs277.drop.drop.drop.weaken (((((hle69.trans hle78).trans hle138).trans hle145).trans hle186).trans hle227))⟩
end Go.Proofs.Ytlfihfmmhhcigaa
