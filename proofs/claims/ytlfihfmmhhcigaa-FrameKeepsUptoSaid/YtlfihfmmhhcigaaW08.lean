/- Steps of the proofs over the functions of this seat, printed by a program (gen.py) and checked by Lean. -/
import Derived.Test.YtlfihfmmhhcigaaW02
import Derived.Test.YtlfihfmmhhcigaaW00
import Derived.Test.YtlfihfmmhhcigaaW01
import Derived.Test.YtlfihfmmhhcigaaW07
set_option linter.unusedVariables false
set_option linter.unusedSimpArgs false
namespace Go.Proofs.Ytlfihfmmhhcigaa
open Go Go.FM Go.Proofs
attribute [local irreducible] wpList wpQuiet wpS Code.wp Calls
set_option maxHeartbeats 8000000 in
theorem rencode_spec {H:Hp} {w:World} {L:List Res} (hs:St H w (L)) (f:GFrame) {k_f:List Value} (h_f:kFrame.rep H f k_f) (hroom:bigF f ≤ 1000000000) (hk1:1 ≤ f.Kind) (hk7:f.Kind ≤ 7):Calls Try.prog 16 #[.agg k_f.toArray] w (fun e w' => ∃ (H':Hp) (v0:Value),H.le H'∧e = .returned (v0)∧Small (seal_ (bodyE f))∧RowOk 1 v0 (seal_ (bodyE f)).length ((seal_ (bodyE f)).map encB)∧St H' w' (row 5 1 v0 (seal_ (bodyE f)).length ((seal_ (bodyE f)).map encB)::L)):=by
 obtain ⟨A14,n15,c16,A19,n20,c21,A23,n24,c25,rfl,b1,⟨b2,b3⟩,b4,⟨b5,b6⟩,b7,b8,⟨b9,b10⟩,b11,⟨b12,b13⟩,hl17,b18,hl22,hl26,b27,b28⟩:=h_f
 have:=hl17.len; have:n15 * 48 ≤ 140737488351232:=hl17.bnd; have:=hl17.le
 have:=hl22.len; have:n20 * 24 ≤ 140737488351232:=hl22.bnd; have:=hl22.le
 have:=hl26.len; have:n24 * 32 ≤ 140737488351232:=hl26.bnd; have:=hl26.le
 refine enter (args:=[.agg #[.int .u8 ((f.Kind:Nat):Int),.int .i64 f.From,.int .u64 ((f.ID.N:Nat):Int),.int .i64 f.ID.P,.int .u16 ((f.Set:Nat):Int),.int .u64 ((f.Cur.N:Nat):Int),.int .i64 f.Cur.P,.int .u64 ((f.Prom.N:Nat):Int),.int .i64 f.Prom.P,.slice A14 n15 c16,.int .u64 ((f.Base:Nat):Int),.slice A19 n20 c21,.slice A23 n24 c25,.int .u64 ((f.Ack:Nat):Int),.int .u64 ((f.Safe:Nat):Int)]]) (N:=108) Try.func16 rfl rfl rfl ?_
 have hbig:=hroom
 unfold bigF at hbig
 have huSet:=uenc_len10 (show f.Set < 18446744073709551616 by omega)
 have huBase:=uenc_len10 (show f.Base < 18446744073709551616 by omega)
 have huAck:=uenc_len10 (show f.Ack < 18446744073709551616 by omega)
 have huSafe:=uenc_len10 (show f.Safe < 18446744073709551616 by omega)
 refine c_seq (c_region (st_m (m_box (cs:=[.int .u8 ((f.Kind:Nat):Int),.int .i64 f.From,.int .u64 ((f.ID.N:Nat):Int),.int .i64 f.ID.P,.int .u16 ((f.Set:Nat):Int),.int .u64 ((f.Cur.N:Nat):Int),.int .i64 f.Cur.P,.int .u64 ((f.Prom.N:Nat):Int),.int .i64 f.Prom.P,.slice A14 n15 c16,.int .u64 ((f.Base:Nat):Int),.slice A19 n20 c21,.slice A23 n24 c25,.int .u64 ((f.Ack:Nat):Int),.int .u64 ((f.Safe:Nat):Int)]) hs (v:=.agg #[.int .u8 ((f.Kind:Nat):Int),.int .i64 f.From,.int .u64 ((f.ID.N:Nat):Int),.int .i64 f.ID.P,.int .u16 ((f.Set:Nat):Int),.int .u64 ((f.Cur.N:Nat):Int),.int .i64 f.Cur.P,.int .u64 ((f.Prom.N:Nat):Int),.int .i64 f.Prom.P,.slice A14 n15 c16,.int .u64 ((f.Base:Nat):Int),.slice A19 n20 c21,.slice A23 n24 c25,.int .u64 ((f.Ack:Nat):Int),.int .u64 ((f.Safe:Nat):Int)]) (.tmp rfl rfl) rfl) ?_))
 rintro _ w30 ⟨g29,rfl,hs32⟩
 refine st (v:=.slice none 0 0) (x_assign .const) ?_
 refine c_nil (n_then (c_seq (c_region (st (v:=.pointer (some ⟨g29,0 + 0,none⟩)) (fa30_0 (.tmp rfl rfl)) ?_))))
 refine st (v:=.int .u8 ((f.Kind:Nat):Int)) (ld5 (.tmp rfl rfl) (hs32.cell 0 rfl (0 + 0) rfl)) ?_
 refine st (v:=.pointer (some ⟨g29,0 + 1,none⟩)) (fa30_1 (.tmp rfl rfl)) ?_
 refine st (v:=.int .i64 f.From) (ld3 (.tmp rfl rfl) (hs32.cell 0 rfl (0 + 1) rfl)) ?_
 refine st (v:=.int .u8 (((f.From % 256).toNat:Nat):Int)) (x_conv (k:=.i64) (a:=f.From) Try.underlying3 Try.underlying5 (.tmp rfl rfl) (wrapU _ rfl _)) ?_
 refine st_m (m_lit (n:=2) (ps:=[(0,.int .u8 ((f.Kind:Nat):Int)),(1,.int .u8 (((f.From % 256).toNat:Nat):Int))]) (cs:=[.int .u8 ((f.Kind:Nat):Int),.int .u8 (((f.From % 256).toNat:Nat):Int)]) Try.underlying33 inf5 (.cons (.tmp rfl rfl) (.cons (.tmp rfl rfl) Evp.nil)) (by decide) (by decide) rfl rfl hs32) ?_
 rintro _ w34 ⟨g33,rfl,hs36⟩
 refine st (v:=.slice (some ⟨g33,0,none⟩) 2 2) (x_assign (.tmp rfl rfl)) ?_
 refine c_nil (n_then (c_seq (c_seq (c_region (st (v:=.pointer (some ⟨g29,0 + 0,none⟩)) (fa30_0 (.tmp rfl rfl)) ?_)))))
 refine st (v:=.int .u8 ((f.Kind:Nat):Int)) (ld5 (.tmp rfl rfl) (hs36.cell 1 rfl (0 + 0) rfl)) ?_
 refine st (v:=.bool (decide ((((f.Kind:Nat):Int):Int) ≠ 1))) (x_neq (k:=.u8) (a:=((f.Kind:Nat):Int)) (b:=1) (.tmp rfl rfl) .const) ?_
 refine c_nil (n_then ?_)
 rcases Bool.eq_false_or_eq_true (decide ((((f.Kind:Nat):Int):Int) ≠ 1)) with hc37 | hc37
 have hp37:(((f.Kind:Nat):Int):Int) ≠ 1:=of_decide_eq_true hc37
 refine c_cond_t (t:=true) (.tmp rfl (cVb hc37)) rfl ?_
 refine c_region (st (v:=.slice (some ⟨g33,0,none⟩) 2 2) (x_move (.tmp rfl rfl)) ?_)
 refine st (v:=.pointer (some ⟨g29,0 + 2,none⟩)) (fa30_2 (.tmp rfl rfl)) ?_
 refine st (v:=.agg #[.int .u64 ((f.ID.N:Nat):Int),.int .i64 f.ID.P]) (ld24 (cs:=[.int .u64 ((f.ID.N:Nat):Int),.int .i64 f.ID.P]) (.tmp rfl rfl) (hs36.at_ 1 rfl (0 + 2) rfl) rfl) ?_
 have hr38:kViewID.rep H f.ID [.int .u64 ((f.ID.N:Nat):Int),.int .i64 f.ID.P]:=⟨rfl,b4,⟨b5,b6⟩⟩
 refine st_c cb41 .func (evs1 (.tmp rfl rfl)) (rvid_enc hs36 f.ID hr38 ) ?_
 rintro e w39 ⟨v41,rfl,sm44,ok42,hs40⟩
 refine ⟨_,rfl,?_⟩
 have hs45:=hs40.p1
 obtain ⟨hs47,ok48⟩:=hs45.rowOfObj (n:=2) (size:=1) rfl (by decide)
 have hs49:St H _ (row 5 1 (.slice (some ⟨g33,0,none⟩) 2 2) 2 ([f.Kind,((f.From % 256).toNat)].map encB)::row 5 1 v41 ((vidE f.ID).length) ((vidE f.ID).map encB)::obj g29 30 [.int .u8 ((f.Kind:Nat):Int),.int .i64 f.From,.int .u64 ((f.ID.N:Nat):Int),.int .i64 f.ID.P,.int .u16 ((f.Set:Nat):Int),.int .u64 ((f.Cur.N:Nat):Int),.int .i64 f.Cur.P,.int .u64 ((f.Prom.N:Nat):Int),.int .i64 f.Prom.P,.slice A14 n15 c16,.int .u64 ((f.Base:Nat):Int),.slice A19 n20 c21,.slice A23 n24 c25,.int .u64 ((f.Ack:Nat):Int),.int .u64 ((f.Safe:Nat):Int)]::L):=hs47
 have hl50:[f.Kind,((f.From % 256).toNat)] = [f.Kind,((f.From % 256).toNat)]:=rfl
 obtain ⟨hs51,ok52⟩:=St.relist hs49 ok48 hl50
 have sm53:Small [f.Kind,((f.From % 256).toNat)]:=by rw [← hl50]; exact (Small.cons b1 (Small.cons (by omega) Small.nil))
 refine st_m (m_appRowB (l:=[f.Kind,((f.From % 256).toNat)]) Try.underlying33 inf5 hs51 ok52 (.tmp rfl rfl) 1 rfl ok42 (.tmp rfl rfl) (by first | omega | (simp only [List.length_append,List.length_singleton,List.length_cons,List.length_nil]; omega))) ?_
 rintro v54 w55 ⟨ok56,hs57⟩
 refine st (v:=v54) (x_assign (.tmp rfl rfl)) ?_
 refine c_nil (n_then (c_seq (c_seq (c_region (st (v:=.pointer (some ⟨g29,0 + 0,none⟩)) (fa30_0 (.tmp rfl rfl)) ?_)))))
 refine st (v:=.int .u8 ((f.Kind:Nat):Int)) (ld5 (.tmp rfl rfl) (hs57.cell 2 rfl (0 + 0) rfl)) ?_
 refine c_nil (n_then (c_block (c_seq (c_region (st (v:=.bool (decide ((((f.Kind:Nat):Int):Int) = 1))) (x_eql (k:=.u8) (a:=((f.Kind:Nat):Int)) (b:=1) (.tmp rfl rfl) .const) ?_)))))
 refine st (v:=.bool (decide ((((f.Kind:Nat):Int):Int) = 1))) (x_assign (.tmp rfl rfl)) ?_
 refine c_nil (n_then ?_)
 have hc58:(decide ((((f.Kind:Nat):Int):Int) = 1)) = false:=(decide_eq_false (by omega))
 refine c_cond_f (t:=false) (.tmp rfl (cVb hc58)) rfl ?_
 refine c_seq (c_region (st (v:=.bool (decide ((((f.Kind:Nat):Int):Int) = 2))) (x_eql (k:=.u8) (a:=((f.Kind:Nat):Int)) (b:=2) (.tmp rfl rfl) .const) ?_))
 refine st (v:=.bool (decide ((((f.Kind:Nat):Int):Int) = 2))) (x_assign (.tmp rfl rfl)) ?_
 refine c_nil (n_then ?_)
 rcases Bool.eq_false_or_eq_true (decide ((((f.Kind:Nat):Int):Int) = 2)) with hc59 | hc59
 have hp59:(((f.Kind:Nat):Int):Int) = 2:=of_decide_eq_true hc59
 refine c_cond_t (t:=true) (.tmp rfl (cVb hc59)) rfl ?_
 refine c_region (st (v:=v54) (x_move (.tmp rfl rfl)) ?_)
 refine st (v:=.pointer (some ⟨g29,0 + 4,none⟩)) (fa30_3 (.tmp rfl rfl)) ?_
 refine st (v:=.int .u16 ((f.Set:Nat):Int)) (ld25 (.tmp rfl rfl) (hs57.cell 2 rfl (0 + 4) rfl)) ?_
 have hb60:f.Set < 18446744073709551616:=Nat.lt_of_lt_of_le b7 (by decide)
 refine st (v:=.int .u64 ((f.Set:Nat):Int)) (x_conv (k:=.u16) (a:=((f.Set:Nat):Int)) Try.underlying25 Try.underlying22 (.tmp rfl rfl) (wU rfl rfl hb60)) ?_
 refine st_c cb42 .func (evs1 (.tmp rfl rfl)) (ruintf_spec hs57 f.Set hb60) ?_
 rintro e w62 ⟨v61,rfl,ok63,hs64⟩
 refine ⟨_,rfl,?_⟩
 have hs66:=hs64.p1
 have hl67:([f.Kind,((f.From % 256).toNat)] ++ vidE f.ID) = ([f.Kind,((f.From % 256).toNat)] ++ vidE f.ID):=rfl
 obtain ⟨hs68,ok69⟩:=St.relist hs66 ok56 hl67
 have sm70:Small ([f.Kind,((f.From % 256).toNat)] ++ vidE f.ID):=by rw [← hl67]; exact (sm53.append sm44)
 refine st_m (m_appRowB (l:=([f.Kind,((f.From % 256).toNat)] ++ vidE f.ID)) Try.underlying33 inf5 hs68 ok69 (.tmp rfl rfl) 1 rfl ok63 (.tmp rfl rfl) (by first | omega | (simp only [List.length_append,List.length_singleton,List.length_cons,List.length_nil]; omega))) ?_
 rintro v71 w72 ⟨ok73,hs74⟩
 refine st (v:=v71) (x_assign (.tmp rfl rfl)) ?_
 refine c_nil (n_block (n_then (c_seq (c_region (st (v:=v71) (x_move (.tmp rfl rfl)) ?_)))))
 have hK:f.Kind = 2:=by omega
 have hbl:=bodyE_len f huSet huBase huAck huSafe
 have hl75:(([f.Kind,((f.From % 256).toNat)] ++ vidE f.ID) ++ (uenc f.Set)) = bodyE f:=(by unfold bodyE idE kindE msgsE; simp [hK,List.append_assoc])
 obtain ⟨hs76,ok77⟩:=St.relist hs74 ok73 hl75
 have sm78:Small (bodyE f):=by rw [← hl75]; exact (sm70.append (uenc_small _))
 obtain ⟨H79,A80,c81,hle82,hs83,rfl,hp84⟩:=hs76.freezeBs ok77 sm78 (by omega)
 have hy85:By H79 A80 ((bodyE f).length) c81 (bodyE f):=⟨hp84,by omega⟩
 skip
 refine st_c cb17 .func (evs1 (.tmp rfl rfl)) (rseal_spec hs83 hy85.toBs (by omega)) ?_
 rintro e w87 ⟨v86,rfl,ok88,hs89⟩
 refine ⟨_,rfl,?_⟩
 refine st (v:=v86) (x_assign (.tmp rfl rfl)) ?_
 refine c_nil (n_then (c_ret (leave_ret (res_one (v:=v86) rfl (.mk rfl rfl)) ?_)))
 have hl91:(seal_ (bodyE f)) = seal_ (bodyE f):=rfl
 obtain ⟨hs92,ok93⟩:=St.relist hs89 ok88 hl91
 have sm94:Small (seal_ (bodyE f)):=by rw [← hl91]; exact (seal_small hy85.toBs.lt)
 exact ⟨H79,v86,hle82,rfl,sm94,(by simpa using ok93),(((hs92.p1).drop.p1).drop.p1).drop⟩
 have hp59:¬ ((((f.Kind:Nat):Int):Int) = 2):=of_decide_eq_false hc59
 refine c_cond_f (t:=false) (.tmp rfl (cVb hc59)) rfl ?_
 refine c_seq (c_region (st (v:=.bool (decide ((((f.Kind:Nat):Int):Int) = 3))) (x_eql (k:=.u8) (a:=((f.Kind:Nat):Int)) (b:=3) (.tmp rfl rfl) .const) ?_))
 refine st (v:=.bool (decide ((((f.Kind:Nat):Int):Int) = 3))) (x_assign (.tmp rfl rfl)) ?_
 refine c_nil (n_then ?_)
 rcases Bool.eq_false_or_eq_true (decide ((((f.Kind:Nat):Int):Int) = 3)) with hc95 | hc95
 have hp95:(((f.Kind:Nat):Int):Int) = 3:=of_decide_eq_true hc95
 refine c_cond_t (t:=true) (.tmp rfl (cVb hc95)) rfl ?_
 refine c_region (st (v:=v54) (x_move (.tmp rfl rfl)) ?_)
 refine st (v:=.pointer (some ⟨g29,0 + 9,none⟩)) (fa30_6 (.tmp rfl rfl)) ?_
 refine st (v:=.slice A14 n15 c16) (ld26 (.tmp rfl rfl) (hs57.cell 2 rfl (0 + 9) rfl)) ?_
 refine st_c cb43 .func (evs1 (.tmp rfl rfl)) (rstates_enc hs57 f.States hl17 (by omega)) ?_
 rintro e w96 ⟨v98,rfl,sm101,ok99,hs97⟩
 have:=hl17.len
 refine ⟨_,rfl,?_⟩
 have hs102:=hs97.p1
 have hl103:([f.Kind,((f.From % 256).toNat)] ++ vidE f.ID) = ([f.Kind,((f.From % 256).toNat)] ++ vidE f.ID):=rfl
 obtain ⟨hs104,ok105⟩:=St.relist hs102 ok56 hl103
 have sm106:Small ([f.Kind,((f.From % 256).toNat)] ++ vidE f.ID):=by rw [← hl103]; exact (sm53.append sm44)
 refine st_m (m_appRowB (l:=([f.Kind,((f.From % 256).toNat)] ++ vidE f.ID)) Try.underlying33 inf5 hs104 ok105 (.tmp rfl rfl) 1 rfl ok99 (.tmp rfl rfl) (by first | omega | (simp only [List.length_append,List.length_singleton,List.length_cons,List.length_nil]; omega))) ?_
 rintro v107 w108 ⟨ok109,hs110⟩
 refine st (v:=v107) (x_assign (.tmp rfl rfl)) ?_
 refine c_nil (n_block (n_then (c_seq (c_region (st (v:=v107) (x_move (.tmp rfl rfl)) ?_)))))
 have hK:f.Kind = 3:=by omega
 have hbl:=bodyE_len f huSet huBase huAck huSafe
 have hl111:(([f.Kind,((f.From % 256).toNat)] ++ vidE f.ID) ++ statesE f.States) = bodyE f:=(by unfold bodyE idE kindE msgsE; simp [hK,List.append_assoc])
 obtain ⟨hs112,ok113⟩:=St.relist hs110 ok109 hl111
 have sm114:Small (bodyE f):=by rw [← hl111]; exact (sm106.append sm101)
 obtain ⟨H115,A116,c117,hle118,hs119,rfl,hp120⟩:=hs112.freezeBs ok113 sm114 (by omega)
 have hy121:By H115 A116 ((bodyE f).length) c117 (bodyE f):=⟨hp120,by omega⟩
 skip
 refine st_c cb17 .func (evs1 (.tmp rfl rfl)) (rseal_spec hs119 hy121.toBs (by omega)) ?_
 rintro e w123 ⟨v122,rfl,ok124,hs125⟩
 refine ⟨_,rfl,?_⟩
 refine st (v:=v122) (x_assign (.tmp rfl rfl)) ?_
 refine c_nil (n_then (c_ret (leave_ret (res_one (v:=v122) rfl (.mk rfl rfl)) ?_)))
 have hl127:(seal_ (bodyE f)) = seal_ (bodyE f):=rfl
 obtain ⟨hs128,ok129⟩:=St.relist hs125 ok124 hl127
 have sm130:Small (seal_ (bodyE f)):=by rw [← hl127]; exact (seal_small hy121.toBs.lt)
 exact ⟨H115,v122,hle118,rfl,sm130,(by simpa using ok129),(((hs128.p1).drop.p1).drop.p1).drop⟩
 have hp95:¬ ((((f.Kind:Nat):Int):Int) = 3):=of_decide_eq_false hc95
 refine c_cond_f (t:=false) (.tmp rfl (cVb hc95)) rfl ?_
 refine c_seq (c_region (st (v:=.bool (decide ((((f.Kind:Nat):Int):Int) = 4))) (x_eql (k:=.u8) (a:=((f.Kind:Nat):Int)) (b:=4) (.tmp rfl rfl) .const) ?_))
 refine st (v:=.bool (decide ((((f.Kind:Nat):Int):Int) = 4))) (x_assign (.tmp rfl rfl)) ?_
 refine c_nil (n_then ?_)
 rcases Bool.eq_false_or_eq_true (decide ((((f.Kind:Nat):Int):Int) = 4)) with hc131 | hc131
 have hp131:(((f.Kind:Nat):Int):Int) = 4:=of_decide_eq_true hc131
 refine c_cond_t (t:=true) (.tmp rfl (cVb hc131)) rfl ?_
 refine c_region (st (v:=v54) (x_move (.tmp rfl rfl)) ?_)
 refine st (v:=.pointer (some ⟨g29,0 + 7,none⟩)) (fa30_5 (.tmp rfl rfl)) ?_
 refine st (v:=.agg #[.int .u64 ((f.Prom.N:Nat):Int),.int .i64 f.Prom.P]) (ld24 (cs:=[.int .u64 ((f.Prom.N:Nat):Int),.int .i64 f.Prom.P]) (.tmp rfl rfl) (hs57.at_ 2 rfl (0 + 7) rfl) rfl) ?_
 have hr132:kViewID.rep H f.Prom [.int .u64 ((f.Prom.N:Nat):Int),.int .i64 f.Prom.P]:=⟨rfl,b11,⟨b12,b13⟩⟩
 refine st_c cb41 .func (evs1 (.tmp rfl rfl)) (rvid_enc hs57 f.Prom hr132 ) ?_
 rintro e w133 ⟨v135,rfl,sm138,ok136,hs134⟩
 refine ⟨_,rfl,?_⟩
 have hs139:=hs134.p1
 have hl140:([f.Kind,((f.From % 256).toNat)] ++ vidE f.ID) = ([f.Kind,((f.From % 256).toNat)] ++ vidE f.ID):=rfl
 obtain ⟨hs141,ok142⟩:=St.relist hs139 ok56 hl140
 have sm143:Small ([f.Kind,((f.From % 256).toNat)] ++ vidE f.ID):=by rw [← hl140]; exact (sm53.append sm44)
 refine st_m (m_appRowB (l:=([f.Kind,((f.From % 256).toNat)] ++ vidE f.ID)) Try.underlying33 inf5 hs141 ok142 (.tmp rfl rfl) 1 rfl ok136 (.tmp rfl rfl) (by first | omega | (simp only [List.length_append,List.length_singleton,List.length_cons,List.length_nil]; omega))) ?_
 rintro v144 w145 ⟨ok146,hs147⟩
 refine st (v:=v144) (x_assign (.tmp rfl rfl)) ?_
 refine c_nil (n_block (n_then (c_seq (c_region (st (v:=v144) (x_move (.tmp rfl rfl)) ?_)))))
 have hK:f.Kind = 4:=by omega
 have hbl:=bodyE_len f huSet huBase huAck huSafe
 have hl148:(([f.Kind,((f.From % 256).toNat)] ++ vidE f.ID) ++ vidE f.Prom) = bodyE f:=(by unfold bodyE idE kindE msgsE; simp [hK,List.append_assoc])
 obtain ⟨hs149,ok150⟩:=St.relist hs147 ok146 hl148
 have sm151:Small (bodyE f):=by rw [← hl148]; exact (sm143.append sm138)
 obtain ⟨H152,A153,c154,hle155,hs156,rfl,hp157⟩:=hs149.freezeBs ok150 sm151 (by omega)
 have hy158:By H152 A153 ((bodyE f).length) c154 (bodyE f):=⟨hp157,by omega⟩
 skip
 refine st_c cb17 .func (evs1 (.tmp rfl rfl)) (rseal_spec hs156 hy158.toBs (by omega)) ?_
 rintro e w160 ⟨v159,rfl,ok161,hs162⟩
 refine ⟨_,rfl,?_⟩
 refine st (v:=v159) (x_assign (.tmp rfl rfl)) ?_
 refine c_nil (n_then (c_ret (leave_ret (res_one (v:=v159) rfl (.mk rfl rfl)) ?_)))
 have hl164:(seal_ (bodyE f)) = seal_ (bodyE f):=rfl
 obtain ⟨hs165,ok166⟩:=St.relist hs162 ok161 hl164
 have sm167:Small (seal_ (bodyE f)):=by rw [← hl164]; exact (seal_small hy158.toBs.lt)
 exact ⟨H152,v159,hle155,rfl,sm167,(by simpa using ok166),(((hs165.p1).drop.p1).drop.p1).drop⟩
 have hp131:¬ ((((f.Kind:Nat):Int):Int) = 4):=of_decide_eq_false hc131
 refine c_cond_f (t:=false) (.tmp rfl (cVb hc131)) rfl ?_
 refine c_seq (c_region (st (v:=.bool (decide ((((f.Kind:Nat):Int):Int) = 5))) (x_eql (k:=.u8) (a:=((f.Kind:Nat):Int)) (b:=5) (.tmp rfl rfl) .const) ?_))
 refine st (v:=.bool (decide ((((f.Kind:Nat):Int):Int) = 5))) (x_assign (.tmp rfl rfl)) ?_
 refine c_nil (n_then ?_)
 rcases Bool.eq_false_or_eq_true (decide ((((f.Kind:Nat):Int):Int) = 5)) with hc168 | hc168
 have hp168:(((f.Kind:Nat):Int):Int) = 5:=of_decide_eq_true hc168
 refine c_cond_t (t:=true) (.tmp rfl (cVb hc168)) rfl ?_
 refine c_seq (c_region (st (v:=v54) (x_move (.tmp rfl rfl)) ?_))
 refine st (v:=.pointer (some ⟨g29,0 + 4,none⟩)) (fa30_3 (.tmp rfl rfl)) ?_
 refine st (v:=.int .u16 ((f.Set:Nat):Int)) (ld25 (.tmp rfl rfl) (hs57.cell 2 rfl (0 + 4) rfl)) ?_
 have hb169:f.Set < 18446744073709551616:=Nat.lt_of_lt_of_le b7 (by decide)
 refine st (v:=.int .u64 ((f.Set:Nat):Int)) (x_conv (k:=.u16) (a:=((f.Set:Nat):Int)) Try.underlying25 Try.underlying22 (.tmp rfl rfl) (wU rfl rfl hb169)) ?_
 refine st_c cb42 .func (evs1 (.tmp rfl rfl)) (ruintf_spec hs57 f.Set hb169) ?_
 rintro e w171 ⟨v170,rfl,ok172,hs173⟩
 refine ⟨_,rfl,?_⟩
 have hs175:=hs173.p1
 have hl176:([f.Kind,((f.From % 256).toNat)] ++ vidE f.ID) = ([f.Kind,((f.From % 256).toNat)] ++ vidE f.ID):=rfl
 obtain ⟨hs177,ok178⟩:=St.relist hs175 ok56 hl176
 have sm179:Small ([f.Kind,((f.From % 256).toNat)] ++ vidE f.ID):=by rw [← hl176]; exact (sm53.append sm44)
 refine st_m (m_appRowB (l:=([f.Kind,((f.From % 256).toNat)] ++ vidE f.ID)) Try.underlying33 inf5 hs177 ok178 (.tmp rfl rfl) 1 rfl ok172 (.tmp rfl rfl) (by first | omega | (simp only [List.length_append,List.length_singleton,List.length_cons,List.length_nil]; omega))) ?_
 rintro v180 w181 ⟨ok182,hs183⟩
 refine st (v:=v180) (x_assign (.tmp rfl rfl)) ?_
 refine c_nil (n_then (c_region (st (v:=v180) (x_move (.tmp rfl rfl)) ?_)))
 refine st (v:=.pointer (some ⟨g29,0 + 9,none⟩)) (fa30_6 (.tmp rfl rfl)) ?_
 refine st (v:=.slice A14 n15 c16) (ld26 (.tmp rfl rfl) (hs183.cell 3 rfl (0 + 9) rfl)) ?_
 refine st_c cb43 .func (evs1 (.tmp rfl rfl)) (rstates_enc hs183 f.States hl17 (by omega)) ?_
 rintro e w184 ⟨v186,rfl,sm189,ok187,hs185⟩
 have:=hl17.len
 refine ⟨_,rfl,?_⟩
 have hs190:=hs185.p1
 have hl191:(([f.Kind,((f.From % 256).toNat)] ++ vidE f.ID) ++ (uenc f.Set)) = (([f.Kind,((f.From % 256).toNat)] ++ vidE f.ID) ++ (uenc f.Set)):=rfl
 obtain ⟨hs192,ok193⟩:=St.relist hs190 ok182 hl191
 have sm194:Small (([f.Kind,((f.From % 256).toNat)] ++ vidE f.ID) ++ (uenc f.Set)):=by rw [← hl191]; exact (sm179.append (uenc_small _))
 refine st_m (m_appRowB (l:=(([f.Kind,((f.From % 256).toNat)] ++ vidE f.ID) ++ (uenc f.Set))) Try.underlying33 inf5 hs192 ok193 (.tmp rfl rfl) 1 rfl ok187 (.tmp rfl rfl) (by first | omega | (simp only [List.length_append,List.length_singleton,List.length_cons,List.length_nil]; omega))) ?_
 rintro v195 w196 ⟨ok197,hs198⟩
 refine st (v:=v195) (x_assign (.tmp rfl rfl)) ?_
 refine c_nil (n_block (n_then (c_seq (c_region (st (v:=v195) (x_move (.tmp rfl rfl)) ?_)))))
 have hK:f.Kind = 5:=by omega
 have hbl:=bodyE_len f huSet huBase huAck huSafe
 have hl199:((([f.Kind,((f.From % 256).toNat)] ++ vidE f.ID) ++ (uenc f.Set)) ++ statesE f.States) = bodyE f:=(by unfold bodyE idE kindE msgsE; simp [hK,List.append_assoc])
 obtain ⟨hs200,ok201⟩:=St.relist hs198 ok197 hl199
 have sm202:Small (bodyE f):=by rw [← hl199]; exact (sm194.append sm189)
 obtain ⟨H203,A204,c205,hle206,hs207,rfl,hp208⟩:=hs200.freezeBs ok201 sm202 (by omega)
 have hy209:By H203 A204 ((bodyE f).length) c205 (bodyE f):=⟨hp208,by omega⟩
 skip
 refine st_c cb17 .func (evs1 (.tmp rfl rfl)) (rseal_spec hs207 hy209.toBs (by omega)) ?_
 rintro e w211 ⟨v210,rfl,ok212,hs213⟩
 refine ⟨_,rfl,?_⟩
 refine st (v:=v210) (x_assign (.tmp rfl rfl)) ?_
 refine c_nil (n_then (c_ret (leave_ret (res_one (v:=v210) rfl (.mk rfl rfl)) ?_)))
 have hl215:(seal_ (bodyE f)) = seal_ (bodyE f):=rfl
 obtain ⟨hs216,ok217⟩:=St.relist hs213 ok212 hl215
 have sm218:Small (seal_ (bodyE f)):=by rw [← hl215]; exact (seal_small hy209.toBs.lt)
 exact ⟨H203,v210,hle206,rfl,sm218,(by simpa using ok217),((((hs216.p1).drop.p1).drop.p1).drop.p1).drop⟩
 have hp168:¬ ((((f.Kind:Nat):Int):Int) = 5):=of_decide_eq_false hc168
 refine c_cond_f (t:=false) (.tmp rfl (cVb hc168)) rfl ?_
 refine c_seq (c_region (st (v:=.bool (decide ((((f.Kind:Nat):Int):Int) = 6))) (x_eql (k:=.u8) (a:=((f.Kind:Nat):Int)) (b:=6) (.tmp rfl rfl) .const) ?_))
 refine st (v:=.bool (decide ((((f.Kind:Nat):Int):Int) = 6))) (x_assign (.tmp rfl rfl)) ?_
 refine c_nil (n_then ?_)
 rcases Bool.eq_false_or_eq_true (decide ((((f.Kind:Nat):Int):Int) = 6)) with hc219 | hc219
 have hp219:(((f.Kind:Nat):Int):Int) = 6:=of_decide_eq_true hc219
 refine c_cond_t (t:=true) (.tmp rfl (cVb hc219)) rfl ?_
 refine c_seq (c_region (st (v:=v54) (x_move (.tmp rfl rfl)) ?_))
 refine st (v:=.pointer (some ⟨g29,0 + 10,none⟩)) (fa30_7 (.tmp rfl rfl)) ?_
 refine st (v:=.int .u64 ((f.Base:Nat):Int)) (ld22 (.tmp rfl rfl) (hs57.cell 2 rfl (0 + 10) rfl)) ?_
 refine st_c cb42 .func (evs1 (.tmp rfl rfl)) (ruintf_spec hs57 f.Base b18) ?_
 rintro e w221 ⟨v220,rfl,ok222,hs223⟩
 refine ⟨_,rfl,?_⟩
 have hs225:=hs223.p1
 have hl226:([f.Kind,((f.From % 256).toNat)] ++ vidE f.ID) = ([f.Kind,((f.From % 256).toNat)] ++ vidE f.ID):=rfl
 obtain ⟨hs227,ok228⟩:=St.relist hs225 ok56 hl226
 have sm229:Small ([f.Kind,((f.From % 256).toNat)] ++ vidE f.ID):=by rw [← hl226]; exact (sm53.append sm44)
 refine st_m (m_appRowB (l:=([f.Kind,((f.From % 256).toNat)] ++ vidE f.ID)) Try.underlying33 inf5 hs227 ok228 (.tmp rfl rfl) 1 rfl ok222 (.tmp rfl rfl) (by first | omega | (simp only [List.length_append,List.length_singleton,List.length_cons,List.length_nil]; omega))) ?_
 rintro v230 w231 ⟨ok232,hs233⟩
 refine st (v:=v230) (x_assign (.tmp rfl rfl)) ?_
 refine c_nil (n_then (c_seq (c_region (st (v:=v230) (x_move (.tmp rfl rfl)) ?_))))
 refine st (v:=.pointer (some ⟨g29,0 + 13,none⟩)) (fa30_10 (.tmp rfl rfl)) ?_
 refine st (v:=.int .u64 ((f.Ack:Nat):Int)) (ld22 (.tmp rfl rfl) (hs233.cell 3 rfl (0 + 13) rfl)) ?_
 refine st_c cb42 .func (evs1 (.tmp rfl rfl)) (ruintf_spec hs233 f.Ack b27) ?_
 rintro e w235 ⟨v234,rfl,ok236,hs237⟩
 refine ⟨_,rfl,?_⟩
 have hs239:=hs237.p1
 have hl240:(([f.Kind,((f.From % 256).toNat)] ++ vidE f.ID) ++ (uenc f.Base)) = (([f.Kind,((f.From % 256).toNat)] ++ vidE f.ID) ++ (uenc f.Base)):=rfl
 obtain ⟨hs241,ok242⟩:=St.relist hs239 ok232 hl240
 have sm243:Small (([f.Kind,((f.From % 256).toNat)] ++ vidE f.ID) ++ (uenc f.Base)):=by rw [← hl240]; exact (sm229.append (uenc_small _))
 refine st_m (m_appRowB (l:=(([f.Kind,((f.From % 256).toNat)] ++ vidE f.ID) ++ (uenc f.Base))) Try.underlying33 inf5 hs241 ok242 (.tmp rfl rfl) 1 rfl ok236 (.tmp rfl rfl) (by first | omega | (simp only [List.length_append,List.length_singleton,List.length_cons,List.length_nil]; omega))) ?_
 rintro v244 w245 ⟨ok246,hs247⟩
 refine st (v:=v244) (x_assign (.tmp rfl rfl)) ?_
 refine c_nil (n_then (c_region (st (v:=v244) (x_move (.tmp rfl rfl)) ?_)))
 refine st (v:=.pointer (some ⟨g29,0 + 11,none⟩)) (fa30_8 (.tmp rfl rfl)) ?_
 refine st (v:=.slice A19 n20 c21) (ld27 (.tmp rfl rfl) (hs247.cell 4 rfl (0 + 11) rfl)) ?_
 refine st_c cb44 .func (evs1 (.tmp rfl rfl)) (rmsgs_enc hs247 f.Msgs hl22 (by omega)) ?_
 rintro e w248 ⟨v250,rfl,sm253,ok251,hs249⟩
 have:=hl22.len
 refine ⟨_,rfl,?_⟩
 have hs254:=hs249.p1
 have hl255:((([f.Kind,((f.From % 256).toNat)] ++ vidE f.ID) ++ (uenc f.Base)) ++ (uenc f.Ack)) = ((([f.Kind,((f.From % 256).toNat)] ++ vidE f.ID) ++ (uenc f.Base)) ++ (uenc f.Ack)):=rfl
 obtain ⟨hs256,ok257⟩:=St.relist hs254 ok246 hl255
 have sm258:Small ((([f.Kind,((f.From % 256).toNat)] ++ vidE f.ID) ++ (uenc f.Base)) ++ (uenc f.Ack)):=by rw [← hl255]; exact (sm243.append (uenc_small _))
 refine st_m (m_appRowB (l:=((([f.Kind,((f.From % 256).toNat)] ++ vidE f.ID) ++ (uenc f.Base)) ++ (uenc f.Ack))) Try.underlying33 inf5 hs256 ok257 (.tmp rfl rfl) 1 rfl ok251 (.tmp rfl rfl) (by first | omega | (simp only [List.length_append,List.length_singleton,List.length_cons,List.length_nil]; omega))) ?_
 rintro v259 w260 ⟨ok261,hs262⟩
 refine st (v:=v259) (x_assign (.tmp rfl rfl)) ?_
 refine c_nil (n_block (n_then (c_seq (c_region (st (v:=v259) (x_move (.tmp rfl rfl)) ?_)))))
 have hK:f.Kind = 6:=by omega
 have hbl:=bodyE_len f huSet huBase huAck huSafe
 have hl263:(((([f.Kind,((f.From % 256).toNat)] ++ vidE f.ID) ++ (uenc f.Base)) ++ (uenc f.Ack)) ++ msgsE f.Msgs) = bodyE f:=(by unfold bodyE idE kindE msgsE; simp [hK,List.append_assoc])
 obtain ⟨hs264,ok265⟩:=St.relist hs262 ok261 hl263
 have sm266:Small (bodyE f):=by rw [← hl263]; exact (sm258.append sm253)
 obtain ⟨H267,A268,c269,hle270,hs271,rfl,hp272⟩:=hs264.freezeBs ok265 sm266 (by omega)
 have hy273:By H267 A268 ((bodyE f).length) c269 (bodyE f):=⟨hp272,by omega⟩
 skip
 refine st_c cb17 .func (evs1 (.tmp rfl rfl)) (rseal_spec hs271 hy273.toBs (by omega)) ?_
 rintro e w275 ⟨v274,rfl,ok276,hs277⟩
 refine ⟨_,rfl,?_⟩
 refine st (v:=v274) (x_assign (.tmp rfl rfl)) ?_
 refine c_nil (n_then (c_ret (leave_ret (res_one (v:=v274) rfl (.mk rfl rfl)) ?_)))
 have hl279:(seal_ (bodyE f)) = seal_ (bodyE f):=rfl
 obtain ⟨hs280,ok281⟩:=St.relist hs277 ok276 hl279
 have sm282:Small (seal_ (bodyE f)):=by rw [← hl279]; exact (seal_small hy273.toBs.lt)
 exact ⟨H267,v274,hle270,rfl,sm282,(by simpa using ok281),(((((hs280.p1).drop.p1).drop.p1).drop.p1).drop.p1).drop⟩
 have hp219:¬ ((((f.Kind:Nat):Int):Int) = 6):=of_decide_eq_false hc219
 refine c_cond_f (t:=false) (.tmp rfl (cVb hc219)) rfl ?_
 refine c_seq (c_region (st (v:=.bool (decide ((((f.Kind:Nat):Int):Int) = 7))) (x_eql (k:=.u8) (a:=((f.Kind:Nat):Int)) (b:=7) (.tmp rfl rfl) .const) ?_))
 refine st (v:=.bool (decide ((((f.Kind:Nat):Int):Int) = 7))) (x_assign (.tmp rfl rfl)) ?_
 refine c_nil (n_then ?_)
 have hc283:(decide ((((f.Kind:Nat):Int):Int) = 7)) = true:=(decide_eq_true (by omega))
 refine c_cond_t (t:=true) (.tmp rfl (cVb hc283)) rfl ?_
 refine c_seq (c_region (st (v:=v54) (x_move (.tmp rfl rfl)) ?_))
 refine st (v:=.pointer (some ⟨g29,0 + 10,none⟩)) (fa30_7 (.tmp rfl rfl)) ?_
 refine st (v:=.int .u64 ((f.Base:Nat):Int)) (ld22 (.tmp rfl rfl) (hs57.cell 2 rfl (0 + 10) rfl)) ?_
 refine st_c cb42 .func (evs1 (.tmp rfl rfl)) (ruintf_spec hs57 f.Base b18) ?_
 rintro e w285 ⟨v284,rfl,ok286,hs287⟩
 refine ⟨_,rfl,?_⟩
 have hs289:=hs287.p1
 have hl290:([f.Kind,((f.From % 256).toNat)] ++ vidE f.ID) = ([f.Kind,((f.From % 256).toNat)] ++ vidE f.ID):=rfl
 obtain ⟨hs291,ok292⟩:=St.relist hs289 ok56 hl290
 have sm293:Small ([f.Kind,((f.From % 256).toNat)] ++ vidE f.ID):=by rw [← hl290]; exact (sm53.append sm44)
 refine st_m (m_appRowB (l:=([f.Kind,((f.From % 256).toNat)] ++ vidE f.ID)) Try.underlying33 inf5 hs291 ok292 (.tmp rfl rfl) 1 rfl ok286 (.tmp rfl rfl) (by first | omega | (simp only [List.length_append,List.length_singleton,List.length_cons,List.length_nil]; omega))) ?_
 rintro v294 w295 ⟨ok296,hs297⟩
 refine st (v:=v294) (x_assign (.tmp rfl rfl)) ?_
 refine c_nil (n_then (c_seq (c_region (st (v:=v294) (x_move (.tmp rfl rfl)) ?_))))
 refine st (v:=.pointer (some ⟨g29,0 + 13,none⟩)) (fa30_10 (.tmp rfl rfl)) ?_
 refine st (v:=.int .u64 ((f.Ack:Nat):Int)) (ld22 (.tmp rfl rfl) (hs297.cell 3 rfl (0 + 13) rfl)) ?_
 refine st_c cb42 .func (evs1 (.tmp rfl rfl)) (ruintf_spec hs297 f.Ack b27) ?_
 rintro e w299 ⟨v298,rfl,ok300,hs301⟩
 refine ⟨_,rfl,?_⟩
 have hs303:=hs301.p1
 have hl304:(([f.Kind,((f.From % 256).toNat)] ++ vidE f.ID) ++ (uenc f.Base)) = (([f.Kind,((f.From % 256).toNat)] ++ vidE f.ID) ++ (uenc f.Base)):=rfl
 obtain ⟨hs305,ok306⟩:=St.relist hs303 ok296 hl304
 have sm307:Small (([f.Kind,((f.From % 256).toNat)] ++ vidE f.ID) ++ (uenc f.Base)):=by rw [← hl304]; exact (sm293.append (uenc_small _))
 refine st_m (m_appRowB (l:=(([f.Kind,((f.From % 256).toNat)] ++ vidE f.ID) ++ (uenc f.Base))) Try.underlying33 inf5 hs305 ok306 (.tmp rfl rfl) 1 rfl ok300 (.tmp rfl rfl) (by first | omega | (simp only [List.length_append,List.length_singleton,List.length_cons,List.length_nil]; omega))) ?_
 rintro v308 w309 ⟨ok310,hs311⟩
 refine st (v:=v308) (x_assign (.tmp rfl rfl)) ?_
 refine c_nil (n_then (c_seq (c_region (st (v:=v308) (x_move (.tmp rfl rfl)) ?_))))
 refine st (v:=.pointer (some ⟨g29,0 + 14,none⟩)) (fa30_11 (.tmp rfl rfl)) ?_
 refine st (v:=.int .u64 ((f.Safe:Nat):Int)) (ld22 (.tmp rfl rfl) (hs311.cell 4 rfl (0 + 14) rfl)) ?_
 refine st_c cb42 .func (evs1 (.tmp rfl rfl)) (ruintf_spec hs311 f.Safe b28) ?_
 rintro e w313 ⟨v312,rfl,ok314,hs315⟩
 refine ⟨_,rfl,?_⟩
 have hs317:=hs315.p1
 have hl318:((([f.Kind,((f.From % 256).toNat)] ++ vidE f.ID) ++ (uenc f.Base)) ++ (uenc f.Ack)) = ((([f.Kind,((f.From % 256).toNat)] ++ vidE f.ID) ++ (uenc f.Base)) ++ (uenc f.Ack)):=rfl
 obtain ⟨hs319,ok320⟩:=St.relist hs317 ok310 hl318
 have sm321:Small ((([f.Kind,((f.From % 256).toNat)] ++ vidE f.ID) ++ (uenc f.Base)) ++ (uenc f.Ack)):=by rw [← hl318]; exact (sm307.append (uenc_small _))
 refine st_m (m_appRowB (l:=((([f.Kind,((f.From % 256).toNat)] ++ vidE f.ID) ++ (uenc f.Base)) ++ (uenc f.Ack))) Try.underlying33 inf5 hs319 ok320 (.tmp rfl rfl) 1 rfl ok314 (.tmp rfl rfl) (by first | omega | (simp only [List.length_append,List.length_singleton,List.length_cons,List.length_nil]; omega))) ?_
 rintro v322 w323 ⟨ok324,hs325⟩
 refine st (v:=v322) (x_assign (.tmp rfl rfl)) ?_
 refine c_nil (n_then (c_region (st (v:=v322) (x_move (.tmp rfl rfl)) ?_)))
 refine st (v:=.pointer (some ⟨g29,0 + 12,none⟩)) (fa30_9 (.tmp rfl rfl)) ?_
 refine st (v:=.slice A23 n24 c25) (ld28 (.tmp rfl rfl) (hs325.cell 5 rfl (0 + 12) rfl)) ?_
 refine st_c cb45 .func (evs1 (.tmp rfl rfl)) (ritems_enc hs325 f.Items hl26 (by omega)) ?_
 rintro e w326 ⟨v328,rfl,sm331,ok329,hs327⟩
 have:=hl26.len
 refine ⟨_,rfl,?_⟩
 have hs332:=hs327.p1
 have hl333:(((([f.Kind,((f.From % 256).toNat)] ++ vidE f.ID) ++ (uenc f.Base)) ++ (uenc f.Ack)) ++ (uenc f.Safe)) = (((([f.Kind,((f.From % 256).toNat)] ++ vidE f.ID) ++ (uenc f.Base)) ++ (uenc f.Ack)) ++ (uenc f.Safe)):=rfl
 obtain ⟨hs334,ok335⟩:=St.relist hs332 ok324 hl333
 have sm336:Small (((([f.Kind,((f.From % 256).toNat)] ++ vidE f.ID) ++ (uenc f.Base)) ++ (uenc f.Ack)) ++ (uenc f.Safe)):=by rw [← hl333]; exact (sm321.append (uenc_small _))
 refine st_m (m_appRowB (l:=(((([f.Kind,((f.From % 256).toNat)] ++ vidE f.ID) ++ (uenc f.Base)) ++ (uenc f.Ack)) ++ (uenc f.Safe))) Try.underlying33 inf5 hs334 ok335 (.tmp rfl rfl) 1 rfl ok329 (.tmp rfl rfl) (by first | omega | (simp only [List.length_append,List.length_singleton,List.length_cons,List.length_nil]; omega))) ?_
 rintro v337 w338 ⟨ok339,hs340⟩
 refine st (v:=v337) (x_assign (.tmp rfl rfl)) ?_
 refine c_nil (n_block (n_then (c_seq (c_region (st (v:=v337) (x_move (.tmp rfl rfl)) ?_)))))
 have hK:f.Kind = 7:=by omega
 have hbl:=bodyE_len f huSet huBase huAck huSafe
 have hl341:((((([f.Kind,((f.From % 256).toNat)] ++ vidE f.ID) ++ (uenc f.Base)) ++ (uenc f.Ack)) ++ (uenc f.Safe)) ++ itemsE f.Items) = bodyE f:=(by unfold bodyE idE kindE msgsE; simp [hK,List.append_assoc])
 obtain ⟨hs342,ok343⟩:=St.relist hs340 ok339 hl341
 have sm344:Small (bodyE f):=by rw [← hl341]; exact (sm336.append sm331)
 obtain ⟨H345,A346,c347,hle348,hs349,rfl,hp350⟩:=hs342.freezeBs ok343 sm344 (by omega)
 have hy351:By H345 A346 ((bodyE f).length) c347 (bodyE f):=⟨hp350,by omega⟩
 skip
 refine st_c cb17 .func (evs1 (.tmp rfl rfl)) (rseal_spec hs349 hy351.toBs (by omega)) ?_
 rintro e w353 ⟨v352,rfl,ok354,hs355⟩
 refine ⟨_,rfl,?_⟩
 refine st (v:=v352) (x_assign (.tmp rfl rfl)) ?_
 refine c_nil (n_then (c_ret (leave_ret (res_one (v:=v352) rfl (.mk rfl rfl)) ?_)))
 have hl357:(seal_ (bodyE f)) = seal_ (bodyE f):=rfl
 obtain ⟨hs358,ok359⟩:=St.relist hs355 ok354 hl357
 have sm360:Small (seal_ (bodyE f)):=by rw [← hl357]; exact (seal_small hy351.toBs.lt)
 exact ⟨H345,v352,hle348,rfl,sm360,(by simpa using ok359),((((((hs358.p1).drop.p1).drop.p1).drop.p1).drop.p1).drop.p1).drop⟩
 have hp37:¬ ((((f.Kind:Nat):Int):Int) ≠ 1):=of_decide_eq_false hc37
 refine c_cond_f (t:=false) (.tmp rfl (cVb hc37)) rfl ?_
 refine c_skip (n_then (c_seq (c_seq (c_region (st (v:=.pointer (some ⟨g29,0 + 0,none⟩)) (fa30_0 (.tmp rfl rfl)) ?_)))))
 refine st (v:=.int .u8 ((f.Kind:Nat):Int)) (ld5 (.tmp rfl rfl) (hs36.cell 1 rfl (0 + 0) rfl)) ?_
 refine c_nil (n_then (c_block (c_seq (c_region (st (v:=.bool (decide ((((f.Kind:Nat):Int):Int) = 1))) (x_eql (k:=.u8) (a:=((f.Kind:Nat):Int)) (b:=1) (.tmp rfl rfl) .const) ?_)))))
 refine st (v:=.bool (decide ((((f.Kind:Nat):Int):Int) = 1))) (x_assign (.tmp rfl rfl)) ?_
 refine c_nil (n_then ?_)
 have hc361:(decide ((((f.Kind:Nat):Int):Int) = 1)) = true:=(decide_eq_true (by omega))
 refine c_cond_t (t:=true) (.tmp rfl (cVb hc361)) rfl ?_
 refine c_seq (c_region (st (v:=.slice (some ⟨g33,0,none⟩) 2 2) (x_move (.tmp rfl rfl)) ?_))
 refine st (v:=.pointer (some ⟨g29,0 + 5,none⟩)) (fa30_4 (.tmp rfl rfl)) ?_
 refine st (v:=.agg #[.int .u64 ((f.Cur.N:Nat):Int),.int .i64 f.Cur.P]) (ld24 (cs:=[.int .u64 ((f.Cur.N:Nat):Int),.int .i64 f.Cur.P]) (.tmp rfl rfl) (hs36.at_ 1 rfl (0 + 5) rfl) rfl) ?_
 have hr362:kViewID.rep H f.Cur [.int .u64 ((f.Cur.N:Nat):Int),.int .i64 f.Cur.P]:=⟨rfl,b8,⟨b9,b10⟩⟩
 refine st_c cb41 .func (evs1 (.tmp rfl rfl)) (rvid_enc hs36 f.Cur hr362 ) ?_
 rintro e w363 ⟨v365,rfl,sm368,ok366,hs364⟩
 refine ⟨_,rfl,?_⟩
 have hs369:=hs364.p1
 obtain ⟨hs371,ok372⟩:=hs369.rowOfObj (n:=2) (size:=1) rfl (by decide)
 have hs373:St H _ (row 5 1 (.slice (some ⟨g33,0,none⟩) 2 2) 2 ([f.Kind,((f.From % 256).toNat)].map encB)::row 5 1 v365 ((vidE f.Cur).length) ((vidE f.Cur).map encB)::obj g29 30 [.int .u8 ((f.Kind:Nat):Int),.int .i64 f.From,.int .u64 ((f.ID.N:Nat):Int),.int .i64 f.ID.P,.int .u16 ((f.Set:Nat):Int),.int .u64 ((f.Cur.N:Nat):Int),.int .i64 f.Cur.P,.int .u64 ((f.Prom.N:Nat):Int),.int .i64 f.Prom.P,.slice A14 n15 c16,.int .u64 ((f.Base:Nat):Int),.slice A19 n20 c21,.slice A23 n24 c25,.int .u64 ((f.Ack:Nat):Int),.int .u64 ((f.Safe:Nat):Int)]::L):=hs371
 have hl374:[f.Kind,((f.From % 256).toNat)] = [f.Kind,((f.From % 256).toNat)]:=rfl
 obtain ⟨hs375,ok376⟩:=St.relist hs373 ok372 hl374
 have sm377:Small [f.Kind,((f.From % 256).toNat)]:=by rw [← hl374]; exact (Small.cons b1 (Small.cons (by omega) Small.nil))
 refine st_m (m_appRowB (l:=[f.Kind,((f.From % 256).toNat)]) Try.underlying33 inf5 hs375 ok376 (.tmp rfl rfl) 1 rfl ok366 (.tmp rfl rfl) (by first | omega | (simp only [List.length_append,List.length_singleton,List.length_cons,List.length_nil]; omega))) ?_
 rintro v378 w379 ⟨ok380,hs381⟩
 refine st (v:=v378) (x_assign (.tmp rfl rfl)) ?_
 refine c_nil (n_then (c_region (st (v:=v378) (x_move (.tmp rfl rfl)) ?_)))
 refine st (v:=.pointer (some ⟨g29,0 + 7,none⟩)) (fa30_5 (.tmp rfl rfl)) ?_
 refine st (v:=.agg #[.int .u64 ((f.Prom.N:Nat):Int),.int .i64 f.Prom.P]) (ld24 (cs:=[.int .u64 ((f.Prom.N:Nat):Int),.int .i64 f.Prom.P]) (.tmp rfl rfl) (hs381.at_ 2 rfl (0 + 7) rfl) rfl) ?_
 have hr382:kViewID.rep H f.Prom [.int .u64 ((f.Prom.N:Nat):Int),.int .i64 f.Prom.P]:=⟨rfl,b11,⟨b12,b13⟩⟩
 refine st_c cb41 .func (evs1 (.tmp rfl rfl)) (rvid_enc hs381 f.Prom hr382 ) ?_
 rintro e w383 ⟨v385,rfl,sm388,ok386,hs384⟩
 refine ⟨_,rfl,?_⟩
 have hs389:=hs384.p1
 have hl390:([f.Kind,((f.From % 256).toNat)] ++ vidE f.Cur) = ([f.Kind,((f.From % 256).toNat)] ++ vidE f.Cur):=rfl
 obtain ⟨hs391,ok392⟩:=St.relist hs389 ok380 hl390
 have sm393:Small ([f.Kind,((f.From % 256).toNat)] ++ vidE f.Cur):=by rw [← hl390]; exact (sm377.append sm368)
 refine st_m (m_appRowB (l:=([f.Kind,((f.From % 256).toNat)] ++ vidE f.Cur)) Try.underlying33 inf5 hs391 ok392 (.tmp rfl rfl) 1 rfl ok386 (.tmp rfl rfl) (by first | omega | (simp only [List.length_append,List.length_singleton,List.length_cons,List.length_nil]; omega))) ?_
 rintro v394 w395 ⟨ok396,hs397⟩
 refine st (v:=v394) (x_assign (.tmp rfl rfl)) ?_
 refine c_nil (n_block (n_then (c_seq (c_region (st (v:=v394) (x_move (.tmp rfl rfl)) ?_)))))
 have hK:f.Kind = 1:=by omega
 have hbl:=bodyE_len f huSet huBase huAck huSafe
 have hl398:(([f.Kind,((f.From % 256).toNat)] ++ vidE f.Cur) ++ vidE f.Prom) = bodyE f:=(by unfold bodyE idE kindE msgsE; simp [hK,List.append_assoc])
 obtain ⟨hs399,ok400⟩:=St.relist hs397 ok396 hl398
 have sm401:Small (bodyE f):=by rw [← hl398]; exact (sm393.append sm388)
 obtain ⟨H402,A403,c404,hle405,hs406,rfl,hp407⟩:=hs399.freezeBs ok400 sm401 (by omega)
 have hy408:By H402 A403 ((bodyE f).length) c404 (bodyE f):=⟨hp407,by omega⟩
 skip
 refine st_c cb17 .func (evs1 (.tmp rfl rfl)) (rseal_spec hs406 hy408.toBs (by omega)) ?_
 rintro e w410 ⟨v409,rfl,ok411,hs412⟩
 refine ⟨_,rfl,?_⟩
 refine st (v:=v409) (x_assign (.tmp rfl rfl)) ?_
 refine c_nil (n_then (c_ret (leave_ret (res_one (v:=v409) rfl (.mk rfl rfl)) ?_)))
 have hl414:(seal_ (bodyE f)) = seal_ (bodyE f):=rfl
 obtain ⟨hs415,ok416⟩:=St.relist hs412 ok411 hl414
 have sm417:Small (seal_ (bodyE f)):=by rw [← hl414]; exact (seal_small hy408.toBs.lt)
 exact ⟨H402,v409,hle405,rfl,sm417,(by simpa using ok416),(((hs415.p1).drop.p1).drop.p1).drop⟩
end Go.Proofs.Ytlfihfmmhhcigaa

set_option linter.unusedVariables false
set_option linter.unusedSimpArgs false
namespace Go.Proofs.Ytlfihfmmhhcigaa
open Go Go.FM Go.Proofs
attribute [local irreducible] wpList wpQuiet wpS Code.wp Calls
set_option maxHeartbeats 8000000 in
theorem rright_spec {H:Hp} {w:World} {L:List Res} (hs:St H w (L)) {A_l:Option Addr} {n_l c_l:Nat} (l:(List GItem)) (h_l:Sl kItem H A_l n_l c_l l):Calls Try.prog 21 #[.slice A_l n_l c_l] w (fun e w' => e = .returned (.bool (okItems l))∧St H w' (L)):=by
 have:=h_l.len; have:=h_l.le; have:n_l * 32 ≤ 140737488351232:=h_l.bnd
 refine enter (args:=[.slice A_l n_l c_l]) (N:=27) Try.func21 rfl rfl rfl ?_
 refine c_seq (c_region (st (v:=.bool false) (x_assign .const) ?_))
 refine c_nil (n_then (c_seq (c_seq (c_region (st (v:=.int .i64 0) (x_assign .const) ?_)))))
 refine c_nil (n_then (c_block (c_loop (fun ρ w mm => ∃ (i:Nat),ρ 0 = .slice A_l n_l c_l∧ρ 3 = .int .i64 ((i:Nat):Int)∧(i ≤ n_l)∧(∀ (j:Nat) (y:GItem),j < i → l[j]? = some y → okFrom y = true)∧St H w (L)∧mm = n_l - i) _ ⟨0,rfl,rfl,(by omega),(fun j y h => absurd h (Nat.not_lt_zero _)),hs,rfl⟩ ?_)))
 rintro ρ w mm ⟨i,hρ2,hρ3,hi,ha,hs4,rfl⟩
 refine c_seq (c_seq (c_region (st (v:=.int .i64 ((i:Nat):Int)) (x_move (.tmp rfl hρ3)) ?_)))
 refine st (v:=.slice A_l n_l c_l) (x_move (.tmp rfl hρ2)) ?_
 refine st (v:=.int .i64 ((n_l:Nat):Int)) (x_len (n:=n_l) Try.underlying28 (.tmp rfl rfl)) ?_
 refine st (v:=.bool (decide ((((i:Nat):Int):Int) < ((n_l:Nat):Int)))) (x_lss (k:=.i64) (a:=((i:Nat):Int)) (b:=((n_l:Nat):Int)) (.tmp rfl rfl) (.tmp rfl rfl)) ?_
 refine c_nil (n_then ?_)
 rcases Bool.eq_false_or_eq_true (decide ((((i:Nat):Int):Int) < ((n_l:Nat):Int))) with hc5 | hc5
 have hp5:(((i:Nat):Int):Int) < ((n_l:Nat):Int):=of_decide_eq_true hc5
 refine c_cond_t (t:=true) (.tmp rfl (cVb hc5)) rfl ?_
 refine c_skip (n_then (c_seq (c_block (c_seq (c_region (st (v:=.slice A_l n_l c_l) (x_move (.tmp rfl hρ2)) ?_))))))
 refine st (v:=.int .i64 ((i:Nat):Int)) (x_move (.tmp rfl hρ3)) ?_
 obtain ⟨e6,b7,o8,cs9,hx10,hA11,hr12,hat13⟩:=h_l.get (i:=i) (by omega)
 obtain ⟨A16,n17,c18,rfl,⟨b14,b15⟩,hy19⟩:=hr12
 have:=hy19.len; have:=hy19.bnd; have:=hy19.le
 have hat13x:∀ {w:World} {L:List Res},St H w L → At w ⟨b7,o8 + i * 2,none⟩ [.int .i64 e6.From,.slice A16 n17 c18]:=fun h => hat13 h
 refine st (v:=.pointer (some ⟨b7,(o8 + i * 2),none⟩)) (ixo28 (.tmp rfl rfl) hA11 (i:=((i:Nat):Int)) (.tmp rfl rfl) (by omega) (by omega) (by omega)) ?_
 refine st (v:=.pointer (some ⟨b7,(o8 + i * 2) + 0,none⟩)) (fa49_0 (.tmp rfl rfl)) ?_
 refine st (v:=.int .i64 e6.From) (ld3 (.tmp rfl rfl) ((hat13x hs4).cell 0 rfl)) ?_
 refine st (v:=.bool (decide ((e6.From:Int) < 0))) (x_lss (k:=.i64) (a:=e6.From) (b:=0) (.tmp rfl rfl) .const) ?_
 refine st (v:=.bool (decide ((e6.From:Int) < 0))) (x_move (.tmp rfl rfl)) ?_
 refine jw 7 (fun ρ w => ρ 23 = .bool ((decide ((e6.From:Int) < 0)) || (decide ((15:Int) < e6.From)))∧ρ 0 = .slice A_l n_l c_l∧ρ 3 = .int .i64 ((i:Nat):Int)∧St H w (L)) ?_ ?_
 rcases Bool.eq_false_or_eq_true (decide ((e6.From:Int) < 0)) with hc20 | hc20
 have hp20:(e6.From:Int) < 0:=of_decide_eq_true hc20
 refine g_no (yk 16 true rfl rfl hc20) rfl ?_
 refine g_no (yk 16 true rfl rfl hc20) rfl ?_
 refine g_no (yk 16 true rfl rfl hc20) rfl ?_
 refine g_no (yk 16 true rfl rfl hc20) rfl ?_
 refine g_no (yk 16 true rfl rfl hc20) rfl ?_
 refine g_no (yk 16 true rfl rfl hc20) rfl ?_
 refine st (v:=.bool true) (x_pick_t (.tmp rfl (cVb hc20)) .const) ?_
 exact jw_end ⟨(cVb (jor_t hc20)),hρ2,hρ3,hs4⟩
 have hp20:¬ ((e6.From:Int) < 0):=of_decide_eq_false hc20
 refine g_yes (yk 16 false rfl rfl hc20) ?_
 refine st (v:=.slice A_l n_l c_l) (x_move (.tmp rfl hρ2)) ?_
 refine g_yes (yk 16 false rfl rfl hc20) ?_
 refine st (v:=.int .i64 ((i:Nat):Int)) (x_move (.tmp rfl hρ3)) ?_
 refine g_yes (yk 16 false rfl rfl hc20) ?_
 refine st (v:=.pointer (some ⟨b7,(o8 + i * 2),none⟩)) (ixo28 (.tmp rfl rfl) hA11 (i:=((i:Nat):Int)) (.tmp rfl rfl) (by omega) (by omega) (by omega)) ?_
 refine g_yes (yk 16 false rfl rfl hc20) ?_
 refine st (v:=.pointer (some ⟨b7,(o8 + i * 2) + 0,none⟩)) (fa49_0 (.tmp rfl rfl)) ?_
 refine g_yes (yk 16 false rfl rfl hc20) ?_
 refine st (v:=.int .i64 e6.From) (ld3 (.tmp rfl rfl) ((hat13x hs4).cell 0 rfl)) ?_
 refine g_yes (yk 16 false rfl rfl hc20) ?_
 refine st (v:=.bool (decide ((15:Int) < e6.From))) (x_gtr (k:=.i64) (a:=e6.From) (b:=15) (.tmp rfl rfl) .const) ?_
 refine st (v:=.bool (decide ((15:Int) < e6.From))) (x_pick_f (.tmp rfl (cVb hc20)) (.tmp rfl rfl)) ?_
 exact jw_end ⟨(cVb (jor_f hc20)),hρ2,hρ3,hs4⟩
 rintro ρ w ⟨hρ21,hρ22,hρ23,hs24⟩
 refine c_nil (n_then ?_)
 rcases Bool.eq_false_or_eq_true ((decide ((e6.From:Int) < 0)) || (decide ((15:Int) < e6.From))) with hc25 | hc25
 have hp25:((e6.From:Int) < 0) ∨ ((15:Int) < e6.From):=((J_or decide_eq_true_iff decide_eq_true_iff)).1 hc25
 refine c_cond_t (t:=true) (.tmp rfl (hρ21.trans (cVb hc25))) rfl ?_
 refine c_seq (c_region (st (v:=.bool false) (x_assign .const) ?_))
 refine c_nil (n_then (c_ret (r_block (r_then (r_then (r_block (r_then (leave_ret (res_one (v:=.bool false) rfl (.mk rfl rfl)) ?_))))))))
 have hans26:(okItems l) = false:=okItems_no hx10 (decide_eq_false (by omega))
 rw [hans26]
 exact ⟨rfl,hs24⟩
 have hp25:¬ (((e6.From:Int) < 0) ∨ ((15:Int) < e6.From)):=J_no (J_or decide_eq_true_iff decide_eq_true_iff) hc25
 refine c_cond_f (t:=false) (.tmp rfl (hρ21.trans (cVb hc25))) rfl ?_
 refine c_skip (n_block (n_then (c_region (st (v:=.int .i64 ((i:Nat):Int)) (x_move (.tmp rfl hρ23)) ?_))))
 refine st (v:=.int .i64 (((i + 1):Nat):Int)) (x_add (k:=.i64) (a:=((i:Nat):Int)) (b:=1) (.tmp rfl rfl) .const ((w64 (by omega) (by omega)).trans (by omega))) ?_
 refine st (v:=.int .i64 (((i + 1):Nat):Int)) (x_assign (.tmp rfl rfl)) ?_
 refine c_nil ?_
 refine n_then ⟨_,_,rfl,?_,(i + 1),hρ22,rfl,(by omega),(next_all3 (p:=fun _ y => okFrom y = true) ha hx10 (decide_eq_true (by omega))),hs24,rfl⟩
 omega
 have hp5:¬ ((((i:Nat):Int):Int) < ((n_l:Nat):Int)):=of_decide_eq_false hc5
 refine c_cond_f (t:=false) (.tmp rfl (cVb hc5)) rfl ?_
 refine c_exit (x_then (x_then (x_here (n_then (c_seq (c_region (st (v:=.slice A_l n_l c_l) (x_move (.tmp rfl hρ2)) ?_)))))))
 refine st (v:=.int .i64 ((n_l:Nat):Int)) (x_len (n:=n_l) Try.underlying28 (.tmp rfl rfl)) ?_
 refine st (v:=.bool (decide ((((n_l:Nat):Int):Int) ≤ 4096))) (x_leq (k:=.i64) (a:=((n_l:Nat):Int)) (b:=4096) (.tmp rfl rfl) .const) ?_
 refine st (v:=.bool (decide ((((n_l:Nat):Int):Int) ≤ 4096))) (x_assign (.tmp rfl rfl)) ?_
 refine c_nil (n_then (c_ret (leave_ret (res_one (v:=.bool (decide ((((n_l:Nat):Int):Int) ≤ 4096))) rfl (.mk rfl rfl)) ?_)))
 have hans27:(okItems l) = (decide ((((n_l:Nat):Int):Int) ≤ 4096)):=(okItems_end ha (by omega)).trans (decide_eq_decide.2 (by omega))
 rw [hans27]
 exact ⟨rfl,hs4⟩
set_option maxHeartbeats 8000000 in
theorem rfine_spec {H:Hp} {w:World} {L:List Res} (hs:St H w (L)) {A_l:Option Addr} {n_l c_l:Nat} (l:(List GState)) (h_l:Sl kState H A_l n_l c_l l):Calls Try.prog 20 #[.slice A_l n_l c_l] w (fun e w' => e = .returned (.bool (okStates l))∧St H w' (L)):=by
 have:=h_l.len; have:=h_l.le; have:n_l * 48 ≤ 140737488351232:=h_l.bnd
 refine enter (args:=[.slice A_l n_l c_l]) (N:=28) Try.func20 rfl rfl rfl ?_
 refine c_seq (c_region (st (v:=.bool false) (x_assign .const) ?_))
 refine c_nil (n_then (c_seq (c_seq (c_region (st (v:=.int .i64 0) (x_assign .const) ?_)))))
 refine c_nil (n_then (c_block (c_loop (fun ρ w mm => ∃ (i:Nat),ρ 0 = .slice A_l n_l c_l∧ρ 3 = .int .i64 ((i:Nat):Int)∧(i ≤ n_l)∧(∀ (j:Nat) (y:GState),j < i → l[j]? = some y → okState y = true)∧St H w (L)∧mm = n_l - i) _ ⟨0,rfl,rfl,(by omega),(fun j y h => absurd h (Nat.not_lt_zero _)),hs,rfl⟩ ?_)))
 rintro ρ w mm ⟨i,hρ2,hρ3,hi,ha,hs4,rfl⟩
 refine c_seq (c_seq (c_region (st (v:=.int .i64 ((i:Nat):Int)) (x_move (.tmp rfl hρ3)) ?_)))
 refine st (v:=.slice A_l n_l c_l) (x_move (.tmp rfl hρ2)) ?_
 refine st (v:=.int .i64 ((n_l:Nat):Int)) (x_len (n:=n_l) Try.underlying26 (.tmp rfl rfl)) ?_
 refine st (v:=.bool (decide ((((i:Nat):Int):Int) < ((n_l:Nat):Int)))) (x_lss (k:=.i64) (a:=((i:Nat):Int)) (b:=((n_l:Nat):Int)) (.tmp rfl rfl) (.tmp rfl rfl)) ?_
 refine c_nil (n_then ?_)
 rcases Bool.eq_false_or_eq_true (decide ((((i:Nat):Int):Int) < ((n_l:Nat):Int))) with hc5 | hc5
 have hp5:(((i:Nat):Int):Int) < ((n_l:Nat):Int):=of_decide_eq_true hc5
 refine c_cond_t (t:=true) (.tmp rfl (cVb hc5)) rfl ?_
 refine c_skip (n_then (c_seq (c_block (c_seq (c_region (st (v:=.slice A_l n_l c_l) (x_move (.tmp rfl hρ2)) ?_))))))
 refine st (v:=.int .i64 ((i:Nat):Int)) (x_move (.tmp rfl hρ3)) ?_
 obtain ⟨e6,b7,o8,cs9,hx10,hA11,hr12,hat13⟩:=h_l.get (i:=i) (by omega)
 obtain ⟨A19,n20,c21,rfl,b14,⟨b15,b16⟩,⟨b17,b18⟩,hl22⟩:=hr12
 have:=hl22.len; have:n20 * 32 ≤ 140737488351232:=hl22.bnd; have:=hl22.le
 have hat13x:∀ {w:World} {L:List Res},St H w L → At w ⟨b7,o8 + i * 4,none⟩ [.int .u64 ((e6.V.N:Nat):Int),.int .i64 e6.V.P,.int .i64 e6.Floor,.slice A19 n20 c21]:=fun h => hat13 h
 refine st (v:=.pointer (some ⟨b7,(o8 + i * 4),none⟩)) (ixo26 (.tmp rfl rfl) hA11 (i:=((i:Nat):Int)) (.tmp rfl rfl) (by omega) (by omega) (by omega)) ?_
 refine st (v:=.agg #[.int .u64 ((e6.V.N:Nat):Int),.int .i64 e6.V.P,.int .i64 e6.Floor,.slice A19 n20 c21]) (ld52 (cs:=[.int .u64 ((e6.V.N:Nat):Int),.int .i64 e6.V.P,.int .i64 e6.Floor,.slice A19 n20 c21]) (.tmp rfl rfl) ((hat13x hs4).sub 0 rfl) rfl) ?_
 have hr23:kState.rep H e6 [.int .u64 ((e6.V.N:Nat):Int),.int .i64 e6.V.P,.int .i64 e6.Floor,.slice A19 n20 c21]:=⟨A19,n20,c21,rfl,b14,⟨b15,b16⟩,⟨b17,b18⟩,hl22⟩
 refine st_c cb54 .func (evs1 (.tmp rfl rfl)) (rcform_spec hs4 e6 hr23 ) ?_
 rintro e w24 ⟨rfl,hs25⟩
 refine ⟨_,rfl,?_⟩
 refine st (v:=.bool (!(sForm e6))) (x_not (.tmp rfl rfl)) ?_
 refine st (v:=.bool (!(sForm e6))) (x_move (.tmp rfl rfl)) ?_
 refine jw 8 (fun ρ w => ρ 24 = .bool ((!(sForm e6)) || (decide ((4096:Int) < ((n20:Nat):Int))))∧ρ 0 = .slice A_l n_l c_l∧ρ 3 = .int .i64 ((i:Nat):Int)∧St H w (L)) ?_ ?_
 rcases Bool.eq_false_or_eq_true (sForm e6) with hc26 | hc26
 refine g_yes (yl (dj:=16) (b:=false) rfl rfl (cVb (by rw [hc26]; rfl))) ?_
 refine st (v:=.slice A_l n_l c_l) (x_move (.tmp rfl hρ2)) ?_
 refine g_yes (yl (dj:=16) (b:=false) rfl rfl (cVb (by rw [hc26]; rfl))) ?_
 refine st (v:=.int .i64 ((i:Nat):Int)) (x_move (.tmp rfl hρ3)) ?_
 refine g_yes (yl (dj:=16) (b:=false) rfl rfl (cVb (by rw [hc26]; rfl))) ?_
 refine st (v:=.pointer (some ⟨b7,(o8 + i * 4),none⟩)) (ixo26 (.tmp rfl rfl) hA11 (i:=((i:Nat):Int)) (.tmp rfl rfl) (by omega) (by omega) (by omega)) ?_
 refine g_yes (yl (dj:=16) (b:=false) rfl rfl (cVb (by rw [hc26]; rfl))) ?_
 refine st (v:=.pointer (some ⟨b7,(o8 + i * 4) + 3,none⟩)) (fa52_2 (.tmp rfl rfl)) ?_
 refine g_yes (yl (dj:=16) (b:=false) rfl rfl (cVb (by rw [hc26]; rfl))) ?_
 refine st (v:=.slice A19 n20 c21) (ld28 (.tmp rfl rfl) ((hat13x hs25).cell 3 rfl)) ?_
 refine g_yes (yl (dj:=16) (b:=false) rfl rfl (cVb (by rw [hc26]; rfl))) ?_
 refine st (v:=.int .i64 ((n20:Nat):Int)) (x_len (n:=n20) Try.underlying28 (.tmp rfl rfl)) ?_
 refine g_yes (yl (dj:=16) (b:=false) rfl rfl (cVb (by rw [hc26]; rfl))) ?_
 refine st (v:=.bool (decide ((4096:Int) < ((n20:Nat):Int)))) (x_gtr (k:=.i64) (a:=((n20:Nat):Int)) (b:=4096) (.tmp rfl rfl) .const) ?_
 refine st (v:=.bool (decide ((4096:Int) < ((n20:Nat):Int)))) (x_pick_f (.tmp rfl (cVb (by rw [hc26]; rfl))) (.tmp rfl rfl)) ?_
 exact jw_end ⟨(cVb (jor_f (by rw [hc26]; rfl))),hρ2,hρ3,hs25⟩
 refine g_no (yl (dj:=16) (b:=true) rfl rfl (cVb (by rw [hc26]; rfl))) rfl ?_
 refine g_no (yl (dj:=16) (b:=true) rfl rfl (cVb (by rw [hc26]; rfl))) rfl ?_
 refine g_no (yl (dj:=16) (b:=true) rfl rfl (cVb (by rw [hc26]; rfl))) rfl ?_
 refine g_no (yl (dj:=16) (b:=true) rfl rfl (cVb (by rw [hc26]; rfl))) rfl ?_
 refine g_no (yl (dj:=16) (b:=true) rfl rfl (cVb (by rw [hc26]; rfl))) rfl ?_
 refine g_no (yl (dj:=16) (b:=true) rfl rfl (cVb (by rw [hc26]; rfl))) rfl ?_
 refine g_no (yl (dj:=16) (b:=true) rfl rfl (cVb (by rw [hc26]; rfl))) rfl ?_
 refine st (v:=.bool true) (x_pick_t (.tmp rfl (cVb (by rw [hc26]; rfl))) .const) ?_
 exact jw_end ⟨(cVb (jor_t (by rw [hc26]; rfl))),hρ2,hρ3,hs25⟩
 rintro ρ w ⟨hρ27,hρ28,hρ29,hs30⟩
 refine c_nil (n_then ?_)
 rcases Bool.eq_false_or_eq_true ((!(sForm e6)) || (decide ((4096:Int) < ((n20:Nat):Int)))) with hc31 | hc31
 have hp31:(¬ ((sForm e6) = true)) ∨ ((4096:Int) < ((n20:Nat):Int)):=((J_or (J_not Iff.rfl) decide_eq_true_iff)).1 hc31
 refine c_cond_t (t:=true) (.tmp rfl (hρ27.trans (cVb hc31))) rfl ?_
 refine c_seq (c_region (st (v:=.bool false) (x_assign .const) ?_))
 refine c_nil (n_then (c_ret (r_block (r_then (r_then (r_block (r_then (leave_ret (res_one (v:=.bool false) rfl (.mk rfl rfl)) ?_))))))))
 have hans32:(okStates l) = false:=okStates_no hx10 (by rw [okState_eq]; rcases hp31 with h9 | h9; rw [show sForm e6 = false from by simpa using h9]; rfl; rw [decide_eq_false (show ¬ e6.Items.length ≤ 4096 by omega)]; simp)
 rw [hans32]
 exact ⟨rfl,hs30⟩
 have hp31:¬ ((¬ ((sForm e6) = true)) ∨ ((4096:Int) < ((n20:Nat):Int))):=J_no (J_or (J_not Iff.rfl) decide_eq_true_iff) hc31
 refine c_cond_f (t:=false) (.tmp rfl (hρ27.trans (cVb hc31))) rfl ?_
 refine c_skip (n_block (n_then (c_region (st (v:=.int .i64 ((i:Nat):Int)) (x_move (.tmp rfl hρ29)) ?_))))
 refine st (v:=.int .i64 (((i + 1):Nat):Int)) (x_add (k:=.i64) (a:=((i:Nat):Int)) (b:=1) (.tmp rfl rfl) .const ((w64 (by omega) (by omega)).trans (by omega))) ?_
 refine st (v:=.int .i64 (((i + 1):Nat):Int)) (x_assign (.tmp rfl rfl)) ?_
 refine c_nil ?_
 refine n_then ⟨_,_,rfl,?_,(i + 1),hρ28,rfl,(by omega),(next_all3 (p:=fun _ y => okState y = true) ha hx10 (by rw [okState_eq]; have h9:=not_or.1 hp31; rw [show sForm e6 = true from Classical.not_not.1 h9.1,decide_eq_true (show e6.Items.length ≤ 4096 by omega)]; rfl)),hs30,rfl⟩
 omega
 have hp5:¬ ((((i:Nat):Int):Int) < ((n_l:Nat):Int)):=of_decide_eq_false hc5
 refine c_cond_f (t:=false) (.tmp rfl (cVb hc5)) rfl ?_
 refine c_exit (x_then (x_then (x_here (n_then (c_seq (c_region (st (v:=.slice A_l n_l c_l) (x_move (.tmp rfl hρ2)) ?_)))))))
 refine st (v:=.int .i64 ((n_l:Nat):Int)) (x_len (n:=n_l) Try.underlying26 (.tmp rfl rfl)) ?_
 refine st (v:=.bool (decide ((((n_l:Nat):Int):Int) ≤ 4096))) (x_leq (k:=.i64) (a:=((n_l:Nat):Int)) (b:=4096) (.tmp rfl rfl) .const) ?_
 refine st (v:=.bool (decide ((((n_l:Nat):Int):Int) ≤ 4096))) (x_assign (.tmp rfl rfl)) ?_
 refine c_nil (n_then (c_ret (leave_ret (res_one (v:=.bool (decide ((((n_l:Nat):Int):Int) ≤ 4096))) rfl (.mk rfl rfl)) ?_)))
 have hans33:(okStates l) = (decide ((((n_l:Nat):Int):Int) ≤ 4096)):=(okStates_end ha (by omega)).trans (decide_eq_decide.2 (by omega))
 rw [hans33]
 exact ⟨rfl,hs4⟩
end Go.Proofs.Ytlfihfmmhhcigaa
