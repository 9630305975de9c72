/- Steps of the proofs over the functions of this seat, printed by a program (gen.py) and checked by Lean. -/
import Derived.Test.YtlfihfmmhhcigaaW01
import Derived.Test.YtlfihfmmhhcigaaW00
import Derived.Test.YtlfihfmmhhcigaaW13
set_option linter.unusedVariables false
set_option linter.unusedSimpArgs false
namespace Go.Proofs.Ytlfihfmmhhcigaa
open Go Go.FM Go.Proofs
attribute [local irreducible] wpList wpQuiet wpS Code.wp Calls
set_option maxHeartbeats 8000000 in
theorem frameDecodes_spec {H:Hp} {w:World} {L:List Res} (hs:St H w (L)) {A_p:Option Addr} {n_p c_p:Nat} (p:List Nat) (h_p:By H A_p n_p c_p p) (sealed:Bool):Calls Try.prog 5 #[.slice A_p n_p c_p,.bool sealed] w (fun e w' => e = .returned (.bool true)∧St H w' (L)):=by
 have:=h_p.len; have:=h_p.le; have:=h_p.bnd
 refine enter (args:=[.slice A_p n_p c_p,.bool sealed]) (N:=42) Try.func5 rfl rfl rfl ?_
 refine c_seq (c_region (st (v:=.bool false) (x_assign .const) ?_))
 refine c_nil (n_then (c_seq (c_seq (c_region (st_c cb11 .func (evs0 ) (awake_spec hs  ) ?_)))))
 rintro e w1 ⟨rfl,hs2⟩
 refine ⟨_,rfl,?_⟩
 refine st (v:=.bool false) (x_not (b:=true) (.tmp rfl rfl)) ?_
 refine st (v:=.bool false) (x_move (.tmp rfl rfl)) ?_
 refine g_yes (yl (dj:=12) (b:=false) rfl rfl rfl) ?_
 refine st (v:=.slice A_p n_p c_p) (x_move (.tmp rfl rfl)) ?_
 refine g_yes (yl (dj:=12) (b:=false) rfl rfl rfl) ?_
 refine st (v:=.int .i64 ((n_p:Nat):Int)) (x_len (n:=n_p) Try.underlying33 (.tmp rfl rfl)) ?_
 refine g_yes (yl (dj:=12) (b:=false) rfl rfl rfl) ?_
 refine st (v:=.bool (decide ((30000:Int) < ((n_p:Nat):Int)))) (x_gtr (k:=.i64) (a:=((n_p:Nat):Int)) (b:=30000) (.tmp rfl rfl) .const) ?_
 refine st (v:=.bool (decide ((30000:Int) < ((n_p:Nat):Int)))) (x_pick_f (.tmp rfl rfl) (.tmp rfl rfl)) ?_
 refine c_nil (n_then ?_)
 rcases Bool.eq_false_or_eq_true (decide ((30000:Int) < ((n_p:Nat):Int))) with hc3 | hc3
 have hp3:(30000:Int) < ((n_p:Nat):Int):=of_decide_eq_true hc3
 refine c_cond_t (t:=true) (.tmp rfl (congrArg Value.bool hc3)) rfl ?_
 refine c_seq (c_region (st_c cb11 .func (evs0 ) (awake_spec hs2  ) ?_))
 rintro e w4 ⟨rfl,hs5⟩
 refine ⟨_,rfl,?_⟩
 refine st (v:=.bool true) (x_assign (.tmp rfl rfl)) ?_
 refine c_nil (n_then (c_ret (r_then (leave_ret (res_one (v:=.bool true) rfl (.mk rfl rfl)) ?_))))
 exact ⟨rfl,hs5⟩
 have hp3:¬ ((30000:Int) < ((n_p:Nat):Int)):=of_decide_eq_false hc3
 refine c_cond_f (t:=false) (.tmp rfl (congrArg Value.bool hc3)) rfl ?_
 refine c_skip (n_then (c_seq (c_region (st (v:=.slice none 0 0) (x_assign .const) ?_))))
 refine c_nil (n_then (c_seq (c_region (st (v:=.slice none 0 0) (x_move (.tmp rfl rfl)) ?_))))
 refine st (v:=.slice A_p n_p c_p) (x_move (.tmp rfl rfl)) ?_
 refine st_m (m_appNil Try.underlying33 inf5 hs2 (.tmp rfl rfl) (.tmp rfl rfl) h_p.toBs (by omega)) ?_
 rintro v6 w7 ⟨ok8,hs9⟩
 refine st (v:=v6) (x_assign (.tmp rfl rfl)) ?_
 refine c_nil (n_then (c_seq (c_seq (c_region (st (v:=.bool sealed) (x_move (.tmp rfl rfl)) ?_)))))
 refine c_nil (n_then ?_)
 rcases Bool.eq_false_or_eq_true sealed with hc11 | hc11
 refine c_cond_t (t:=true) (.tmp rfl (congrArg Value.bool hc11)) rfl ?_
 refine c_region (st (v:=.slice A_p n_p c_p) (x_move (.tmp rfl rfl)) ?_)
 refine st_c cb17 .func (evs1 (.tmp rfl rfl)) (rseal_spec hs9 h_p.toBs (by omega)) ?_
 rintro e w13 ⟨v12,rfl,ok14,hs15⟩
 refine ⟨_,rfl,?_⟩
 refine st (v:=v12) (x_assign (.tmp rfl rfl)) ?_
 refine c_nil (n_then (c_seq (c_region ?_)))
 have hl17:(seal_ p) = (seal_ p):=rfl
 obtain ⟨hs18,ok19⟩:=St.relist hs15 ok14 hl17
 have sm20:Small (seal_ p):=by rw [← hl17]; exact (seal_small h_p.toBs.lt)
 have hsl:=seal_length p; have hpl:p.length = n_p:=h_p.len
 obtain ⟨H21,A22,c23,hle24,hs25,rfl,hp26⟩:=hs18.freezeBs ok19 sm20 (by omega)
 have hy27:By H21 A22 ((seal_ p).length) c23 (seal_ p):=⟨hp26,by omega⟩
 skip
 refine st (v:=.slice A22 ((seal_ p).length) c23) (x_move (.tmp rfl rfl)) ?_
 refine st_c cb15 .func (evs1 (.tmp rfl rfl)) (decode_spec hs25 (seal_ p) hy27 ) ?_
 rintro e w28 ⟨H30,cs32,hle31,rfl,hr33,hs29⟩
 obtain ⟨A47,n48,c49,A52,n53,c54,A56,n57,c58,rfl,b34,⟨b35,b36⟩,b37,⟨b38,b39⟩,b40,b41,⟨b42,b43⟩,b44,⟨b45,b46⟩,hl50,b51,hl55,hl59,b60,b61⟩:=hr33
 have:=hl50.len; have:n48 * 48 ≤ 140737488351232:=hl50.bnd; have:=hl50.le
 have:=hl55.len; have:n53 * 24 ≤ 140737488351232:=hl55.bnd; have:=hl55.le
 have:=hl59.len; have:n57 * 32 ≤ 140737488351232:=hl59.bnd; have:=hl59.le
 refine ⟨_,rfl,?_⟩
 refine st (v:=.tuple #[.agg #[.int .u8 (((((decA (seal_ p)).1).Kind):Nat):Int),.int .i64 (((decA (seal_ p)).1).From),.int .u64 ((((((decA (seal_ p)).1).ID).N):Nat):Int),.int .i64 ((((decA (seal_ p)).1).ID).P),.int .u16 (((((decA (seal_ p)).1).Set):Nat):Int),.int .u64 ((((((decA (seal_ p)).1).Cur).N):Nat):Int),.int .i64 ((((decA (seal_ p)).1).Cur).P),.int .u64 ((((((decA (seal_ p)).1).Prom).N):Nat):Int),.int .i64 ((((decA (seal_ p)).1).Prom).P),.slice A47 n48 c49,.int .u64 (((((decA (seal_ p)).1).Base):Nat):Int),.slice A52 n53 c54,.slice A56 n57 c58,.int .u64 (((((decA (seal_ p)).1).Ack):Nat):Int),.int .u64 (((((decA (seal_ p)).1).Safe):Nat):Int)],.int .i64 ((decA (seal_ p)).2)]) (x_move (.tmp rfl rfl)) ?_
 refine st (v:=.agg #[.int .u8 (((((decA (seal_ p)).1).Kind):Nat):Int),.int .i64 (((decA (seal_ p)).1).From),.int .u64 ((((((decA (seal_ p)).1).ID).N):Nat):Int),.int .i64 ((((decA (seal_ p)).1).ID).P),.int .u16 (((((decA (seal_ p)).1).Set):Nat):Int),.int .u64 ((((((decA (seal_ p)).1).Cur).N):Nat):Int),.int .i64 ((((decA (seal_ p)).1).Cur).P),.int .u64 ((((((decA (seal_ p)).1).Prom).N):Nat):Int),.int .i64 ((((decA (seal_ p)).1).Prom).P),.slice A47 n48 c49,.int .u64 (((((decA (seal_ p)).1).Base):Nat):Int),.slice A52 n53 c54,.slice A56 n57 c58,.int .u64 (((((decA (seal_ p)).1).Ack):Nat):Int),.int .u64 (((((decA (seal_ p)).1).Safe):Nat):Int)]) (x_extract (.tmp rfl rfl) (i:=0) rfl) ?_
 refine st (v:=.int .i64 ((decA (seal_ p)).2)) (x_extract (.tmp rfl rfl) (i:=1) rfl) ?_
 refine st_m (al30 (cs:=[.int .u8 0,.int .i64 0,.int .u64 0,.int .i64 0,.int .u16 0,.int .u64 0,.int .i64 0,.int .u64 0,.int .i64 0,.slice none 0 0,.int .u64 0,.slice none 0 0,.slice none 0 0,.int .u64 0,.int .u64 0]) hs29 rfl) ?_
 rintro _ w63 ⟨g62,rfl,hs65⟩
 refine st_m0 (sto30 (cs':=[.int .u8 (((((decA (seal_ p)).1).Kind):Nat):Int),.int .i64 (((decA (seal_ p)).1).From),.int .u64 ((((((decA (seal_ p)).1).ID).N):Nat):Int),.int .i64 ((((decA (seal_ p)).1).ID).P),.int .u16 (((((decA (seal_ p)).1).Set):Nat):Int),.int .u64 ((((((decA (seal_ p)).1).Cur).N):Nat):Int),.int .i64 ((((decA (seal_ p)).1).Cur).P),.int .u64 ((((((decA (seal_ p)).1).Prom).N):Nat):Int),.int .i64 ((((decA (seal_ p)).1).Prom).P),.slice A47 n48 c49,.int .u64 (((((decA (seal_ p)).1).Base):Nat):Int),.slice A52 n53 c54,.slice A56 n57 c58,.int .u64 (((((decA (seal_ p)).1).Ack):Nat):Int),.int .u64 (((((decA (seal_ p)).1).Safe):Nat):Int)]) (i:=0) hs65 (v:=.agg #[.int .u8 (((((decA (seal_ p)).1).Kind):Nat):Int),.int .i64 (((decA (seal_ p)).1).From),.int .u64 ((((((decA (seal_ p)).1).ID).N):Nat):Int),.int .i64 ((((decA (seal_ p)).1).ID).P),.int .u16 (((((decA (seal_ p)).1).Set):Nat):Int),.int .u64 ((((((decA (seal_ p)).1).Cur).N):Nat):Int),.int .i64 ((((decA (seal_ p)).1).Cur).P),.int .u64 ((((((decA (seal_ p)).1).Prom).N):Nat):Int),.int .i64 ((((decA (seal_ p)).1).Prom).P),.slice A47 n48 c49,.int .u64 (((((decA (seal_ p)).1).Base):Nat):Int),.slice A52 n53 c54,.slice A56 n57 c58,.int .u64 (((((decA (seal_ p)).1).Ack):Nat):Int),.int .u64 (((((decA (seal_ p)).1).Safe):Nat):Int)]) (.tmp rfl rfl) (.tmp rfl rfl) rfl (Nat.le_of_ble_eq_true rfl) (oneA rfl) rfl) ?_
 rintro w66 hs68
 refine st (v:=.int .i64 ((decA (seal_ p)).2)) (x_assign (.tmp rfl rfl)) ?_
 refine c_nil (n_then (c_seq (c_region (st (v:=.slice A22 ((seal_ p).length) c23) (x_move (.tmp rfl rfl)) ?_))))
 refine st_c cb18 .func (evs1 (.tmp rfl rfl)) (rdecode_spec hs68 (seal_ p) (hy27.mono hle31) ) ?_
 rintro e w69 ⟨H71,cs73,hle72,rfl,hr74,hs70⟩
 obtain ⟨A88,n89,c90,A93,n94,c95,A97,n98,c99,rfl,b75,⟨b76,b77⟩,b78,⟨b79,b80⟩,b81,b82,⟨b83,b84⟩,b85,⟨b86,b87⟩,hl91,b92,hl96,hl100,b101,b102⟩:=hr74
 have:=hl91.len; have:n89 * 48 ≤ 140737488351232:=hl91.bnd; have:=hl91.le
 have:=hl96.len; have:n94 * 24 ≤ 140737488351232:=hl96.bnd; have:=hl96.le
 have:=hl100.len; have:n98 * 32 ≤ 140737488351232:=hl100.bnd; have:=hl100.le
 refine ⟨_,rfl,?_⟩
 refine st (v:=.tuple #[.agg #[.int .u8 (((((refA (seal_ p)).1).Kind):Nat):Int),.int .i64 (((refA (seal_ p)).1).From),.int .u64 ((((((refA (seal_ p)).1).ID).N):Nat):Int),.int .i64 ((((refA (seal_ p)).1).ID).P),.int .u16 (((((refA (seal_ p)).1).Set):Nat):Int),.int .u64 ((((((refA (seal_ p)).1).Cur).N):Nat):Int),.int .i64 ((((refA (seal_ p)).1).Cur).P),.int .u64 ((((((refA (seal_ p)).1).Prom).N):Nat):Int),.int .i64 ((((refA (seal_ p)).1).Prom).P),.slice A88 n89 c90,.int .u64 (((((refA (seal_ p)).1).Base):Nat):Int),.slice A93 n94 c95,.slice A97 n98 c99,.int .u64 (((((refA (seal_ p)).1).Ack):Nat):Int),.int .u64 (((((refA (seal_ p)).1).Safe):Nat):Int)],.int .i64 ((refA (seal_ p)).2)]) (x_move (.tmp rfl rfl)) ?_
 refine st (v:=.agg #[.int .u8 (((((refA (seal_ p)).1).Kind):Nat):Int),.int .i64 (((refA (seal_ p)).1).From),.int .u64 ((((((refA (seal_ p)).1).ID).N):Nat):Int),.int .i64 ((((refA (seal_ p)).1).ID).P),.int .u16 (((((refA (seal_ p)).1).Set):Nat):Int),.int .u64 ((((((refA (seal_ p)).1).Cur).N):Nat):Int),.int .i64 ((((refA (seal_ p)).1).Cur).P),.int .u64 ((((((refA (seal_ p)).1).Prom).N):Nat):Int),.int .i64 ((((refA (seal_ p)).1).Prom).P),.slice A88 n89 c90,.int .u64 (((((refA (seal_ p)).1).Base):Nat):Int),.slice A93 n94 c95,.slice A97 n98 c99,.int .u64 (((((refA (seal_ p)).1).Ack):Nat):Int),.int .u64 (((((refA (seal_ p)).1).Safe):Nat):Int)]) (x_extract (.tmp rfl rfl) (i:=0) rfl) ?_
 refine st (v:=.int .i64 ((refA (seal_ p)).2)) (x_extract (.tmp rfl rfl) (i:=1) rfl) ?_
 refine st_m (al30 (cs:=[.int .u8 0,.int .i64 0,.int .u64 0,.int .i64 0,.int .u16 0,.int .u64 0,.int .i64 0,.int .u64 0,.int .i64 0,.slice none 0 0,.int .u64 0,.slice none 0 0,.slice none 0 0,.int .u64 0,.int .u64 0]) hs70 rfl) ?_
 rintro _ w104 ⟨g103,rfl,hs106⟩
 refine st_m0 (sto30 (cs':=[.int .u8 (((((refA (seal_ p)).1).Kind):Nat):Int),.int .i64 (((refA (seal_ p)).1).From),.int .u64 ((((((refA (seal_ p)).1).ID).N):Nat):Int),.int .i64 ((((refA (seal_ p)).1).ID).P),.int .u16 (((((refA (seal_ p)).1).Set):Nat):Int),.int .u64 ((((((refA (seal_ p)).1).Cur).N):Nat):Int),.int .i64 ((((refA (seal_ p)).1).Cur).P),.int .u64 ((((((refA (seal_ p)).1).Prom).N):Nat):Int),.int .i64 ((((refA (seal_ p)).1).Prom).P),.slice A88 n89 c90,.int .u64 (((((refA (seal_ p)).1).Base):Nat):Int),.slice A93 n94 c95,.slice A97 n98 c99,.int .u64 (((((refA (seal_ p)).1).Ack):Nat):Int),.int .u64 (((((refA (seal_ p)).1).Safe):Nat):Int)]) (i:=0) hs106 (v:=.agg #[.int .u8 (((((refA (seal_ p)).1).Kind):Nat):Int),.int .i64 (((refA (seal_ p)).1).From),.int .u64 ((((((refA (seal_ p)).1).ID).N):Nat):Int),.int .i64 ((((refA (seal_ p)).1).ID).P),.int .u16 (((((refA (seal_ p)).1).Set):Nat):Int),.int .u64 ((((((refA (seal_ p)).1).Cur).N):Nat):Int),.int .i64 ((((refA (seal_ p)).1).Cur).P),.int .u64 ((((((refA (seal_ p)).1).Prom).N):Nat):Int),.int .i64 ((((refA (seal_ p)).1).Prom).P),.slice A88 n89 c90,.int .u64 (((((refA (seal_ p)).1).Base):Nat):Int),.slice A93 n94 c95,.slice A97 n98 c99,.int .u64 (((((refA (seal_ p)).1).Ack):Nat):Int),.int .u64 (((((refA (seal_ p)).1).Safe):Nat):Int)]) (.tmp rfl rfl) (.tmp rfl rfl) rfl (Nat.le_of_ble_eq_true rfl) (oneA rfl) rfl) ?_
 rintro w107 hs109
 refine st (v:=.int .i64 ((refA (seal_ p)).2)) (x_assign (.tmp rfl rfl)) ?_
 refine c_nil (n_then (c_seq (c_region (st (v:=.int .i64 ((decA (seal_ p)).2)) (x_move (.tmp rfl rfl)) ?_))))
 refine st (v:=.int .i64 ((refA (seal_ p)).2)) (x_move (.tmp rfl rfl)) ?_
 refine st (v:=.bool (decide ((((decA (seal_ p)).2):Int) = ((refA (seal_ p)).2)))) (x_eql (k:=.i64) (a:=((decA (seal_ p)).2)) (b:=((refA (seal_ p)).2)) (.tmp rfl rfl) (.tmp rfl rfl)) ?_
 refine st (v:=.bool (decide ((((decA (seal_ p)).2):Int) = ((refA (seal_ p)).2)))) (x_move (.tmp rfl rfl)) ?_
 have hc110:(decide ((((decA (seal_ p)).2):Int) = ((refA (seal_ p)).2))) = true:=(decide_eq_true (by rw [ways2 (((hy27.mono hle31).mono hle72)).lt]))
 refine g_yes (yk 37 true rfl rfl hc110) ?_
 refine st (v:=.agg #[.int .u8 (((((decA (seal_ p)).1).Kind):Nat):Int),.int .i64 (((decA (seal_ p)).1).From),.int .u64 ((((((decA (seal_ p)).1).ID).N):Nat):Int),.int .i64 ((((decA (seal_ p)).1).ID).P),.int .u16 (((((decA (seal_ p)).1).Set):Nat):Int),.int .u64 ((((((decA (seal_ p)).1).Cur).N):Nat):Int),.int .i64 ((((decA (seal_ p)).1).Cur).P),.int .u64 ((((((decA (seal_ p)).1).Prom).N):Nat):Int),.int .i64 ((((decA (seal_ p)).1).Prom).P),.slice A47 n48 c49,.int .u64 (((((decA (seal_ p)).1).Base):Nat):Int),.slice A52 n53 c54,.slice A56 n57 c58,.int .u64 (((((decA (seal_ p)).1).Ack):Nat):Int),.int .u64 (((((decA (seal_ p)).1).Safe):Nat):Int)]) (ld30 (cs:=[.int .u8 (((((decA (seal_ p)).1).Kind):Nat):Int),.int .i64 (((decA (seal_ p)).1).From),.int .u64 ((((((decA (seal_ p)).1).ID).N):Nat):Int),.int .i64 ((((decA (seal_ p)).1).ID).P),.int .u16 (((((decA (seal_ p)).1).Set):Nat):Int),.int .u64 ((((((decA (seal_ p)).1).Cur).N):Nat):Int),.int .i64 ((((decA (seal_ p)).1).Cur).P),.int .u64 ((((((decA (seal_ p)).1).Prom).N):Nat):Int),.int .i64 ((((decA (seal_ p)).1).Prom).P),.slice A47 n48 c49,.int .u64 (((((decA (seal_ p)).1).Base):Nat):Int),.slice A52 n53 c54,.slice A56 n57 c58,.int .u64 (((((decA (seal_ p)).1).Ack):Nat):Int),.int .u64 (((((decA (seal_ p)).1).Safe):Nat):Int)]) (.tmp rfl rfl) (hs109.at_ 1 rfl (0) rfl) rfl) ?_
 refine g_yes (yk 37 true rfl rfl hc110) ?_
 refine st (v:=.agg #[.int .u8 (((((refA (seal_ p)).1).Kind):Nat):Int),.int .i64 (((refA (seal_ p)).1).From),.int .u64 ((((((refA (seal_ p)).1).ID).N):Nat):Int),.int .i64 ((((refA (seal_ p)).1).ID).P),.int .u16 (((((refA (seal_ p)).1).Set):Nat):Int),.int .u64 ((((((refA (seal_ p)).1).Cur).N):Nat):Int),.int .i64 ((((refA (seal_ p)).1).Cur).P),.int .u64 ((((((refA (seal_ p)).1).Prom).N):Nat):Int),.int .i64 ((((refA (seal_ p)).1).Prom).P),.slice A88 n89 c90,.int .u64 (((((refA (seal_ p)).1).Base):Nat):Int),.slice A93 n94 c95,.slice A97 n98 c99,.int .u64 (((((refA (seal_ p)).1).Ack):Nat):Int),.int .u64 (((((refA (seal_ p)).1).Safe):Nat):Int)]) (ld30 (cs:=[.int .u8 (((((refA (seal_ p)).1).Kind):Nat):Int),.int .i64 (((refA (seal_ p)).1).From),.int .u64 ((((((refA (seal_ p)).1).ID).N):Nat):Int),.int .i64 ((((refA (seal_ p)).1).ID).P),.int .u16 (((((refA (seal_ p)).1).Set):Nat):Int),.int .u64 ((((((refA (seal_ p)).1).Cur).N):Nat):Int),.int .i64 ((((refA (seal_ p)).1).Cur).P),.int .u64 ((((((refA (seal_ p)).1).Prom).N):Nat):Int),.int .i64 ((((refA (seal_ p)).1).Prom).P),.slice A88 n89 c90,.int .u64 (((((refA (seal_ p)).1).Base):Nat):Int),.slice A93 n94 c95,.slice A97 n98 c99,.int .u64 (((((refA (seal_ p)).1).Ack):Nat):Int),.int .u64 (((((refA (seal_ p)).1).Safe):Nat):Int)]) (.tmp rfl rfl) (hs109.at_ 0 rfl (0) rfl) rfl) ?_
 refine g_yes (yk 37 true rfl rfl hc110) ?_
 have hr111:kFrame.rep H71 ((decA (seal_ p)).1) [.int .u8 (((((decA (seal_ p)).1).Kind):Nat):Int),.int .i64 (((decA (seal_ p)).1).From),.int .u64 ((((((decA (seal_ p)).1).ID).N):Nat):Int),.int .i64 ((((decA (seal_ p)).1).ID).P),.int .u16 (((((decA (seal_ p)).1).Set):Nat):Int),.int .u64 ((((((decA (seal_ p)).1).Cur).N):Nat):Int),.int .i64 ((((decA (seal_ p)).1).Cur).P),.int .u64 ((((((decA (seal_ p)).1).Prom).N):Nat):Int),.int .i64 ((((decA (seal_ p)).1).Prom).P),.slice A47 n48 c49,.int .u64 (((((decA (seal_ p)).1).Base):Nat):Int),.slice A52 n53 c54,.slice A56 n57 c58,.int .u64 (((((decA (seal_ p)).1).Ack):Nat):Int),.int .u64 (((((decA (seal_ p)).1).Safe):Nat):Int)]:=⟨A47,n48,c49,A52,n53,c54,A56,n57,c58,rfl,b34,⟨b35,b36⟩,b37,⟨b38,b39⟩,b40,b41,⟨b42,b43⟩,b44,⟨b45,b46⟩,(hl50.mono hle72),b51,(hl55.mono hle72),(hl59.mono hle72),b60,b61⟩
 have hr112:kFrame.rep H71 ((refA (seal_ p)).1) [.int .u8 (((((refA (seal_ p)).1).Kind):Nat):Int),.int .i64 (((refA (seal_ p)).1).From),.int .u64 ((((((refA (seal_ p)).1).ID).N):Nat):Int),.int .i64 ((((refA (seal_ p)).1).ID).P),.int .u16 (((((refA (seal_ p)).1).Set):Nat):Int),.int .u64 ((((((refA (seal_ p)).1).Cur).N):Nat):Int),.int .i64 ((((refA (seal_ p)).1).Cur).P),.int .u64 ((((((refA (seal_ p)).1).Prom).N):Nat):Int),.int .i64 ((((refA (seal_ p)).1).Prom).P),.slice A88 n89 c90,.int .u64 (((((refA (seal_ p)).1).Base):Nat):Int),.slice A93 n94 c95,.slice A97 n98 c99,.int .u64 (((((refA (seal_ p)).1).Ack):Nat):Int),.int .u64 (((((refA (seal_ p)).1).Safe):Nat):Int)]:=⟨A88,n89,c90,A93,n94,c95,A97,n98,c99,rfl,b75,⟨b76,b77⟩,b78,⟨b79,b80⟩,b81,b82,⟨b83,b84⟩,b85,⟨b86,b87⟩,hl91,b92,hl96,hl100,b101,b102⟩
 refine st_c cb14 .func (evs2 (.tmp rfl rfl) (.tmp rfl rfl)) (same_frame hs109 ((decA (seal_ p)).1) hr111 ((refA (seal_ p)).1) hr112 ) ?_
 rintro e w113 ⟨rfl,hs114⟩
 refine ⟨_,rfl,?_⟩
 refine st (v:=.bool (decide (((decA (seal_ p)).1) = ((refA (seal_ p)).1)))) (x_pick_t (.tmp rfl (congrArg Value.bool hc110)) (.tmp rfl rfl)) ?_
 refine st (v:=.bool (decide (((decA (seal_ p)).1) = ((refA (seal_ p)).1)))) (x_assign (.tmp rfl rfl)) ?_
 refine c_nil (n_then (c_ret (leave_ret (res_one (v:=.bool (decide (((decA (seal_ p)).1) = ((refA (seal_ p)).1)))) rfl (.mk rfl rfl)) ?_)))
 have hyes:(decide (((decA (seal_ p)).1) = ((refA (seal_ p)).1))) = true:=(decide_eq_true (by rw [ways2 (((hy27.mono hle31).mono hle72)).lt]))
 rw [hyes]
 exact ⟨rfl,(hs114.drop.drop.drop.weaken ((hle24.trans hle31).trans hle72))⟩
 refine c_cond_f (t:=false) (.tmp rfl (congrArg Value.bool hc11)) rfl ?_
 refine c_skip (n_then (c_seq (c_region ?_)))
 have hl115:p = p:=rfl
 obtain ⟨hs116,ok117⟩:=St.relist hs9 ok8 hl115
 have sm118:Small p:=by rw [← hl115]; exact h_p.toBs.lt
 have hsl:=seal_length p; have hpl:p.length = n_p:=h_p.len
 obtain ⟨H119,A120,c121,hle122,hs123,rfl,hp124⟩:=hs116.freezeBs ok117 sm118 (by omega)
 have hy125:By H119 A120 p.length c121 p:=⟨hp124,by omega⟩
 skip
 refine st (v:=.slice A120 p.length c121) (x_move (.tmp rfl rfl)) ?_
 refine st_c cb15 .func (evs1 (.tmp rfl rfl)) (decode_spec hs123 p hy125 ) ?_
 rintro e w126 ⟨H128,cs130,hle129,rfl,hr131,hs127⟩
 obtain ⟨A145,n146,c147,A150,n151,c152,A154,n155,c156,rfl,b132,⟨b133,b134⟩,b135,⟨b136,b137⟩,b138,b139,⟨b140,b141⟩,b142,⟨b143,b144⟩,hl148,b149,hl153,hl157,b158,b159⟩:=hr131
 have:=hl148.len; have:n146 * 48 ≤ 140737488351232:=hl148.bnd; have:=hl148.le
 have:=hl153.len; have:n151 * 24 ≤ 140737488351232:=hl153.bnd; have:=hl153.le
 have:=hl157.len; have:n155 * 32 ≤ 140737488351232:=hl157.bnd; have:=hl157.le
 refine ⟨_,rfl,?_⟩
 refine st (v:=.tuple #[.agg #[.int .u8 (((((decA p).1).Kind):Nat):Int),.int .i64 (((decA p).1).From),.int .u64 ((((((decA p).1).ID).N):Nat):Int),.int .i64 ((((decA p).1).ID).P),.int .u16 (((((decA p).1).Set):Nat):Int),.int .u64 ((((((decA p).1).Cur).N):Nat):Int),.int .i64 ((((decA p).1).Cur).P),.int .u64 ((((((decA p).1).Prom).N):Nat):Int),.int .i64 ((((decA p).1).Prom).P),.slice A145 n146 c147,.int .u64 (((((decA p).1).Base):Nat):Int),.slice A150 n151 c152,.slice A154 n155 c156,.int .u64 (((((decA p).1).Ack):Nat):Int),.int .u64 (((((decA p).1).Safe):Nat):Int)],.int .i64 ((decA p).2)]) (x_move (.tmp rfl rfl)) ?_
 refine st (v:=.agg #[.int .u8 (((((decA p).1).Kind):Nat):Int),.int .i64 (((decA p).1).From),.int .u64 ((((((decA p).1).ID).N):Nat):Int),.int .i64 ((((decA p).1).ID).P),.int .u16 (((((decA p).1).Set):Nat):Int),.int .u64 ((((((decA p).1).Cur).N):Nat):Int),.int .i64 ((((decA p).1).Cur).P),.int .u64 ((((((decA p).1).Prom).N):Nat):Int),.int .i64 ((((decA p).1).Prom).P),.slice A145 n146 c147,.int .u64 (((((decA p).1).Base):Nat):Int),.slice A150 n151 c152,.slice A154 n155 c156,.int .u64 (((((decA p).1).Ack):Nat):Int),.int .u64 (((((decA p).1).Safe):Nat):Int)]) (x_extract (.tmp rfl rfl) (i:=0) rfl) ?_
 refine st (v:=.int .i64 ((decA p).2)) (x_extract (.tmp rfl rfl) (i:=1) rfl) ?_
 refine st_m (al30 (cs:=[.int .u8 0,.int .i64 0,.int .u64 0,.int .i64 0,.int .u16 0,.int .u64 0,.int .i64 0,.int .u64 0,.int .i64 0,.slice none 0 0,.int .u64 0,.slice none 0 0,.slice none 0 0,.int .u64 0,.int .u64 0]) hs127 rfl) ?_
 rintro _ w161 ⟨g160,rfl,hs163⟩
 refine st_m0 (sto30 (cs':=[.int .u8 (((((decA p).1).Kind):Nat):Int),.int .i64 (((decA p).1).From),.int .u64 ((((((decA p).1).ID).N):Nat):Int),.int .i64 ((((decA p).1).ID).P),.int .u16 (((((decA p).1).Set):Nat):Int),.int .u64 ((((((decA p).1).Cur).N):Nat):Int),.int .i64 ((((decA p).1).Cur).P),.int .u64 ((((((decA p).1).Prom).N):Nat):Int),.int .i64 ((((decA p).1).Prom).P),.slice A145 n146 c147,.int .u64 (((((decA p).1).Base):Nat):Int),.slice A150 n151 c152,.slice A154 n155 c156,.int .u64 (((((decA p).1).Ack):Nat):Int),.int .u64 (((((decA p).1).Safe):Nat):Int)]) (i:=0) hs163 (v:=.agg #[.int .u8 (((((decA p).1).Kind):Nat):Int),.int .i64 (((decA p).1).From),.int .u64 ((((((decA p).1).ID).N):Nat):Int),.int .i64 ((((decA p).1).ID).P),.int .u16 (((((decA p).1).Set):Nat):Int),.int .u64 ((((((decA p).1).Cur).N):Nat):Int),.int .i64 ((((decA p).1).Cur).P),.int .u64 ((((((decA p).1).Prom).N):Nat):Int),.int .i64 ((((decA p).1).Prom).P),.slice A145 n146 c147,.int .u64 (((((decA p).1).Base):Nat):Int),.slice A150 n151 c152,.slice A154 n155 c156,.int .u64 (((((decA p).1).Ack):Nat):Int),.int .u64 (((((decA p).1).Safe):Nat):Int)]) (.tmp rfl rfl) (.tmp rfl rfl) rfl (Nat.le_of_ble_eq_true rfl) (oneA rfl) rfl) ?_
 rintro w164 hs166
 refine st (v:=.int .i64 ((decA p).2)) (x_assign (.tmp rfl rfl)) ?_
 refine c_nil (n_then (c_seq (c_region (st (v:=.slice A120 p.length c121) (x_move (.tmp rfl rfl)) ?_))))
 refine st_c cb18 .func (evs1 (.tmp rfl rfl)) (rdecode_spec hs166 p (hy125.mono hle129) ) ?_
 rintro e w167 ⟨H169,cs171,hle170,rfl,hr172,hs168⟩
 obtain ⟨A186,n187,c188,A191,n192,c193,A195,n196,c197,rfl,b173,⟨b174,b175⟩,b176,⟨b177,b178⟩,b179,b180,⟨b181,b182⟩,b183,⟨b184,b185⟩,hl189,b190,hl194,hl198,b199,b200⟩:=hr172
 have:=hl189.len; have:n187 * 48 ≤ 140737488351232:=hl189.bnd; have:=hl189.le
 have:=hl194.len; have:n192 * 24 ≤ 140737488351232:=hl194.bnd; have:=hl194.le
 have:=hl198.len; have:n196 * 32 ≤ 140737488351232:=hl198.bnd; have:=hl198.le
 refine ⟨_,rfl,?_⟩
 refine st (v:=.tuple #[.agg #[.int .u8 (((((refA p).1).Kind):Nat):Int),.int .i64 (((refA p).1).From),.int .u64 ((((((refA p).1).ID).N):Nat):Int),.int .i64 ((((refA p).1).ID).P),.int .u16 (((((refA p).1).Set):Nat):Int),.int .u64 ((((((refA p).1).Cur).N):Nat):Int),.int .i64 ((((refA p).1).Cur).P),.int .u64 ((((((refA p).1).Prom).N):Nat):Int),.int .i64 ((((refA p).1).Prom).P),.slice A186 n187 c188,.int .u64 (((((refA p).1).Base):Nat):Int),.slice A191 n192 c193,.slice A195 n196 c197,.int .u64 (((((refA p).1).Ack):Nat):Int),.int .u64 (((((refA p).1).Safe):Nat):Int)],.int .i64 ((refA p).2)]) (x_move (.tmp rfl rfl)) ?_
 refine st (v:=.agg #[.int .u8 (((((refA p).1).Kind):Nat):Int),.int .i64 (((refA p).1).From),.int .u64 ((((((refA p).1).ID).N):Nat):Int),.int .i64 ((((refA p).1).ID).P),.int .u16 (((((refA p).1).Set):Nat):Int),.int .u64 ((((((refA p).1).Cur).N):Nat):Int),.int .i64 ((((refA p).1).Cur).P),.int .u64 ((((((refA p).1).Prom).N):Nat):Int),.int .i64 ((((refA p).1).Prom).P),.slice A186 n187 c188,.int .u64 (((((refA p).1).Base):Nat):Int),.slice A191 n192 c193,.slice A195 n196 c197,.int .u64 (((((refA p).1).Ack):Nat):Int),.int .u64 (((((refA p).1).Safe):Nat):Int)]) (x_extract (.tmp rfl rfl) (i:=0) rfl) ?_
 refine st (v:=.int .i64 ((refA p).2)) (x_extract (.tmp rfl rfl) (i:=1) rfl) ?_
 refine st_m (al30 (cs:=[.int .u8 0,.int .i64 0,.int .u64 0,.int .i64 0,.int .u16 0,.int .u64 0,.int .i64 0,.int .u64 0,.int .i64 0,.slice none 0 0,.int .u64 0,.slice none 0 0,.slice none 0 0,.int .u64 0,.int .u64 0]) hs168 rfl) ?_
 rintro _ w202 ⟨g201,rfl,hs204⟩
 refine st_m0 (sto30 (cs':=[.int .u8 (((((refA p).1).Kind):Nat):Int),.int .i64 (((refA p).1).From),.int .u64 ((((((refA p).1).ID).N):Nat):Int),.int .i64 ((((refA p).1).ID).P),.int .u16 (((((refA p).1).Set):Nat):Int),.int .u64 ((((((refA p).1).Cur).N):Nat):Int),.int .i64 ((((refA p).1).Cur).P),.int .u64 ((((((refA p).1).Prom).N):Nat):Int),.int .i64 ((((refA p).1).Prom).P),.slice A186 n187 c188,.int .u64 (((((refA p).1).Base):Nat):Int),.slice A191 n192 c193,.slice A195 n196 c197,.int .u64 (((((refA p).1).Ack):Nat):Int),.int .u64 (((((refA p).1).Safe):Nat):Int)]) (i:=0) hs204 (v:=.agg #[.int .u8 (((((refA p).1).Kind):Nat):Int),.int .i64 (((refA p).1).From),.int .u64 ((((((refA p).1).ID).N):Nat):Int),.int .i64 ((((refA p).1).ID).P),.int .u16 (((((refA p).1).Set):Nat):Int),.int .u64 ((((((refA p).1).Cur).N):Nat):Int),.int .i64 ((((refA p).1).Cur).P),.int .u64 ((((((refA p).1).Prom).N):Nat):Int),.int .i64 ((((refA p).1).Prom).P),.slice A186 n187 c188,.int .u64 (((((refA p).1).Base):Nat):Int),.slice A191 n192 c193,.slice A195 n196 c197,.int .u64 (((((refA p).1).Ack):Nat):Int),.int .u64 (((((refA p).1).Safe):Nat):Int)]) (.tmp rfl rfl) (.tmp rfl rfl) rfl (Nat.le_of_ble_eq_true rfl) (oneA rfl) rfl) ?_
 rintro w205 hs207
 refine st (v:=.int .i64 ((refA p).2)) (x_assign (.tmp rfl rfl)) ?_
 refine c_nil (n_then (c_seq (c_region (st (v:=.int .i64 ((decA p).2)) (x_move (.tmp rfl rfl)) ?_))))
 refine st (v:=.int .i64 ((refA p).2)) (x_move (.tmp rfl rfl)) ?_
 refine st (v:=.bool (decide ((((decA p).2):Int) = ((refA p).2)))) (x_eql (k:=.i64) (a:=((decA p).2)) (b:=((refA p).2)) (.tmp rfl rfl) (.tmp rfl rfl)) ?_
 refine st (v:=.bool (decide ((((decA p).2):Int) = ((refA p).2)))) (x_move (.tmp rfl rfl)) ?_
 have hc208:(decide ((((decA p).2):Int) = ((refA p).2))) = true:=(decide_eq_true (by rw [ways2 (((hy125.mono hle129).mono hle170)).lt]))
 refine g_yes (yk 37 true rfl rfl hc208) ?_
 refine st (v:=.agg #[.int .u8 (((((decA p).1).Kind):Nat):Int),.int .i64 (((decA p).1).From),.int .u64 ((((((decA p).1).ID).N):Nat):Int),.int .i64 ((((decA p).1).ID).P),.int .u16 (((((decA p).1).Set):Nat):Int),.int .u64 ((((((decA p).1).Cur).N):Nat):Int),.int .i64 ((((decA p).1).Cur).P),.int .u64 ((((((decA p).1).Prom).N):Nat):Int),.int .i64 ((((decA p).1).Prom).P),.slice A145 n146 c147,.int .u64 (((((decA p).1).Base):Nat):Int),.slice A150 n151 c152,.slice A154 n155 c156,.int .u64 (((((decA p).1).Ack):Nat):Int),.int .u64 (((((decA p).1).Safe):Nat):Int)]) (ld30 (cs:=[.int .u8 (((((decA p).1).Kind):Nat):Int),.int .i64 (((decA p).1).From),.int .u64 ((((((decA p).1).ID).N):Nat):Int),.int .i64 ((((decA p).1).ID).P),.int .u16 (((((decA p).1).Set):Nat):Int),.int .u64 ((((((decA p).1).Cur).N):Nat):Int),.int .i64 ((((decA p).1).Cur).P),.int .u64 ((((((decA p).1).Prom).N):Nat):Int),.int .i64 ((((decA p).1).Prom).P),.slice A145 n146 c147,.int .u64 (((((decA p).1).Base):Nat):Int),.slice A150 n151 c152,.slice A154 n155 c156,.int .u64 (((((decA p).1).Ack):Nat):Int),.int .u64 (((((decA p).1).Safe):Nat):Int)]) (.tmp rfl rfl) (hs207.at_ 1 rfl (0) rfl) rfl) ?_
 refine g_yes (yk 37 true rfl rfl hc208) ?_
 refine st (v:=.agg #[.int .u8 (((((refA p).1).Kind):Nat):Int),.int .i64 (((refA p).1).From),.int .u64 ((((((refA p).1).ID).N):Nat):Int),.int .i64 ((((refA p).1).ID).P),.int .u16 (((((refA p).1).Set):Nat):Int),.int .u64 ((((((refA p).1).Cur).N):Nat):Int),.int .i64 ((((refA p).1).Cur).P),.int .u64 ((((((refA p).1).Prom).N):Nat):Int),.int .i64 ((((refA p).1).Prom).P),.slice A186 n187 c188,.int .u64 (((((refA p).1).Base):Nat):Int),.slice A191 n192 c193,.slice A195 n196 c197,.int .u64 (((((refA p).1).Ack):Nat):Int),.int .u64 (((((refA p).1).Safe):Nat):Int)]) (ld30 (cs:=[.int .u8 (((((refA p).1).Kind):Nat):Int),.int .i64 (((refA p).1).From),.int .u64 ((((((refA p).1).ID).N):Nat):Int),.int .i64 ((((refA p).1).ID).P),.int .u16 (((((refA p).1).Set):Nat):Int),.int .u64 ((((((refA p).1).Cur).N):Nat):Int),.int .i64 ((((refA p).1).Cur).P),.int .u64 ((((((refA p).1).Prom).N):Nat):Int),.int .i64 ((((refA p).1).Prom).P),.slice A186 n187 c188,.int .u64 (((((refA p).1).Base):Nat):Int),.slice A191 n192 c193,.slice A195 n196 c197,.int .u64 (((((refA p).1).Ack):Nat):Int),.int .u64 (((((refA p).1).Safe):Nat):Int)]) (.tmp rfl rfl) (hs207.at_ 0 rfl (0) rfl) rfl) ?_
 refine g_yes (yk 37 true rfl rfl hc208) ?_
 have hr209:kFrame.rep H169 ((decA p).1) [.int .u8 (((((decA p).1).Kind):Nat):Int),.int .i64 (((decA p).1).From),.int .u64 ((((((decA p).1).ID).N):Nat):Int),.int .i64 ((((decA p).1).ID).P),.int .u16 (((((decA p).1).Set):Nat):Int),.int .u64 ((((((decA p).1).Cur).N):Nat):Int),.int .i64 ((((decA p).1).Cur).P),.int .u64 ((((((decA p).1).Prom).N):Nat):Int),.int .i64 ((((decA p).1).Prom).P),.slice A145 n146 c147,.int .u64 (((((decA p).1).Base):Nat):Int),.slice A150 n151 c152,.slice A154 n155 c156,.int .u64 (((((decA p).1).Ack):Nat):Int),.int .u64 (((((decA p).1).Safe):Nat):Int)]:=⟨A145,n146,c147,A150,n151,c152,A154,n155,c156,rfl,b132,⟨b133,b134⟩,b135,⟨b136,b137⟩,b138,b139,⟨b140,b141⟩,b142,⟨b143,b144⟩,(hl148.mono hle170),b149,(hl153.mono hle170),(hl157.mono hle170),b158,b159⟩
 have hr210:kFrame.rep H169 ((refA p).1) [.int .u8 (((((refA p).1).Kind):Nat):Int),.int .i64 (((refA p).1).From),.int .u64 ((((((refA p).1).ID).N):Nat):Int),.int .i64 ((((refA p).1).ID).P),.int .u16 (((((refA p).1).Set):Nat):Int),.int .u64 ((((((refA p).1).Cur).N):Nat):Int),.int .i64 ((((refA p).1).Cur).P),.int .u64 ((((((refA p).1).Prom).N):Nat):Int),.int .i64 ((((refA p).1).Prom).P),.slice A186 n187 c188,.int .u64 (((((refA p).1).Base):Nat):Int),.slice A191 n192 c193,.slice A195 n196 c197,.int .u64 (((((refA p).1).Ack):Nat):Int),.int .u64 (((((refA p).1).Safe):Nat):Int)]:=⟨A186,n187,c188,A191,n192,c193,A195,n196,c197,rfl,b173,⟨b174,b175⟩,b176,⟨b177,b178⟩,b179,b180,⟨b181,b182⟩,b183,⟨b184,b185⟩,hl189,b190,hl194,hl198,b199,b200⟩
 refine st_c cb14 .func (evs2 (.tmp rfl rfl) (.tmp rfl rfl)) (same_frame hs207 ((decA p).1) hr209 ((refA p).1) hr210 ) ?_
 rintro e w211 ⟨rfl,hs212⟩
 refine ⟨_,rfl,?_⟩
 refine st (v:=.bool (decide (((decA p).1) = ((refA p).1)))) (x_pick_t (.tmp rfl (congrArg Value.bool hc208)) (.tmp rfl rfl)) ?_
 refine st (v:=.bool (decide (((decA p).1) = ((refA p).1)))) (x_assign (.tmp rfl rfl)) ?_
 refine c_nil (n_then (c_ret (leave_ret (res_one (v:=.bool (decide (((decA p).1) = ((refA p).1)))) rfl (.mk rfl rfl)) ?_)))
 have hyes:(decide (((decA p).1) = ((refA p).1))) = true:=(decide_eq_true (by rw [ways2 (((hy125.mono hle129).mono hle170)).lt]))
 rw [hyes]
 exact ⟨rfl,(hs212.drop.drop.weaken ((hle122.trans hle129).trans hle170))⟩
end Go.Proofs.Ytlfihfmmhhcigaa
