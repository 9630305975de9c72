/- Steps of the proofs over the functions of this seat, printed by a program (gen.py) and checked by Lean. -/
import Derived.Test.YtlfihfmmhhcigaaW02
import Derived.Test.YtlfihfmmhhcigaaW00
import Derived.Test.YtlfihfmmhhcigaaW01
set_option linter.unusedVariables false
set_option linter.unusedSimpArgs false
namespace Go.Proofs.Ytlfihfmmhhcigaa
open Go Go.FM Go.Proofs
attribute [local irreducible] wpList wpQuiet wpS Code.wp Calls
set_option maxHeartbeats 8000000 in
theorem four_spec {H:Hp} {w:World} {L:List Res} (hs:St H w L) (s:Nat) (b_s:s < 4294967296):Calls Try.prog 58 #[.int .u32 ((s:Nat):Int)] w (fun e w' => e = .returned (.agg #[.int .u8 ((s % 256:Nat):Int),.int .u8 ((s / 2 ^ 8 % 256:Nat):Int),.int .u8 ((s / 2 ^ 16 % 256:Nat):Int),.int .u8 ((s / 2 ^ 24 % 256:Nat):Int)])∧St H w' L):=by
 refine enter (args:=[.int .u32 ((s:Nat):Int)]) (N:=15) Try.func58 rfl rfl rfl ?_
 refine c_seq (c_region (st_m (al95 (cs:=[.int .u8 0,.int .u8 0,.int .u8 0,.int .u8 0]) hs rfl) ?_))
 rintro _ w2 ⟨g1,rfl,hs4⟩
 refine c_nil (n_then (c_seq (c_region (st (v:=.int .u32 ((s:Nat):Int)) (x_move (.tmp rfl rfl)) ?_))))
 refine st (v:=.int .u8 (((s % 256):Nat):Int)) (x_conv (k:=.u32) (a:=((s:Nat):Int)) Try.underlying45 Try.underlying5 (.tmp rfl rfl) (wrapN _ rfl _)) ?_
 refine st (v:=.int .u32 ((s:Nat):Int)) (x_move (.tmp rfl rfl)) ?_
 have hb5:(s / 2 ^ 8) < 4294967296:=Nat.lt_of_le_of_lt (Nat.div_le_self _ _) b_s
 refine st (v:=.int .u32 (((s / 2 ^ 8):Nat):Int)) (x_shr (k:=.u32) (m:=s) (b:=8) rfl (.tmp rfl rfl) .const (by omega) (show _ < 2 ^ 32 from b_s)) ?_
 refine st (v:=.int .u8 ((((s / 2 ^ 8) % 256):Nat):Int)) (x_conv (k:=.u32) (a:=(((s / 2 ^ 8):Nat):Int)) Try.underlying45 Try.underlying5 (.tmp rfl rfl) (wrapN _ rfl _)) ?_
 refine st (v:=.int .u32 ((s:Nat):Int)) (x_move (.tmp rfl rfl)) ?_
 have hb6:(s / 2 ^ 16) < 4294967296:=Nat.lt_of_le_of_lt (Nat.div_le_self _ _) b_s
 refine st (v:=.int .u32 (((s / 2 ^ 16):Nat):Int)) (x_shr (k:=.u32) (m:=s) (b:=16) rfl (.tmp rfl rfl) .const (by omega) (show _ < 2 ^ 32 from b_s)) ?_
 refine st (v:=.int .u8 ((((s / 2 ^ 16) % 256):Nat):Int)) (x_conv (k:=.u32) (a:=(((s / 2 ^ 16):Nat):Int)) Try.underlying45 Try.underlying5 (.tmp rfl rfl) (wrapN _ rfl _)) ?_
 refine st (v:=.int .u32 ((s:Nat):Int)) (x_move (.tmp rfl rfl)) ?_
 have hb7:(s / 2 ^ 24) < 4294967296:=Nat.lt_of_le_of_lt (Nat.div_le_self _ _) b_s
 refine st (v:=.int .u32 (((s / 2 ^ 24):Nat):Int)) (x_shr (k:=.u32) (m:=s) (b:=24) rfl (.tmp rfl rfl) .const (by omega) (show _ < 2 ^ 32 from b_s)) ?_
 refine st (v:=.int .u8 ((((s / 2 ^ 24) % 256):Nat):Int)) (x_conv (k:=.u32) (a:=(((s / 2 ^ 24):Nat):Int)) Try.underlying45 Try.underlying5 (.tmp rfl rfl) (wrapN _ rfl _)) ?_
 refine st (v:=.agg #[.int .u8 (((s % 256):Nat):Int),.int .u8 ((((s / 2 ^ 8) % 256):Nat):Int),.int .u8 ((((s / 2 ^ 16) % 256):Nat):Int),.int .u8 ((((s / 2 ^ 24) % 256):Nat):Int)]) (x_bldArr (ps:=[(0,.int .u8 (((s % 256):Nat):Int)),(1,.int .u8 ((((s / 2 ^ 8) % 256):Nat):Int)),(2,.int .u8 ((((s / 2 ^ 16) % 256):Nat):Int)),(3,.int .u8 ((((s / 2 ^ 24) % 256):Nat):Int))]) Try.underlying95 inf95 inf5 (.cons (.tmp rfl rfl) (.cons (.tmp rfl rfl) (.cons (.tmp rfl rfl) (.cons (.tmp rfl rfl) Evp.nil)))) rfl) ?_
 refine st_m0 (sto95 (cs':=[.int .u8 (((s % 256):Nat):Int),.int .u8 ((((s / 2 ^ 8) % 256):Nat):Int),.int .u8 ((((s / 2 ^ 16) % 256):Nat):Int),.int .u8 ((((s / 2 ^ 24) % 256):Nat):Int)]) (i:=0) hs4 (v:=.agg #[.int .u8 (((s % 256):Nat):Int),.int .u8 ((((s / 2 ^ 8) % 256):Nat):Int),.int .u8 ((((s / 2 ^ 16) % 256):Nat):Int),.int .u8 ((((s / 2 ^ 24) % 256):Nat):Int)]) (.tmp rfl rfl) (.tmp rfl rfl) rfl (Nat.le_of_ble_eq_true rfl) (oneA rfl) rfl) ?_
 rintro w8 hs10
 refine c_nil (n_then (c_ret (leave_ret (res_one (v:=.agg #[.int .u8 (((s % 256):Nat):Int),.int .u8 ((((s / 2 ^ 8) % 256):Nat):Int),.int .u8 ((((s / 2 ^ 16) % 256):Nat):Int),.int .u8 ((((s / 2 ^ 24) % 256):Nat):Int)]) rfl (.mkCell rfl rfl (lv95 (cs:=[.int .u8 (((s % 256):Nat):Int),.int .u8 ((((s / 2 ^ 8) % 256):Nat):Int),.int .u8 ((((s / 2 ^ 16) % 256):Nat):Int),.int .u8 ((((s / 2 ^ 24) % 256):Nat):Int)]) (hs10.at_ 0 rfl 0 rfl) rfl))) ?_)))
 exact ⟨rfl,hs10.drop⟩
set_option maxHeartbeats 8000000 in
theorem seal_spec {H:Hp} {w:World} {L:List Res} (hs:St H w L) {A:Option Addr} {n c:Nat} {bs:List Nat} (hp:Bs H A n c bs) (hn:n ≤ 140737488355320):Calls Try.prog 28 #[.slice A n c] w (fun e w' => ∃ v,e = .returned v∧RowOk 1 v (n + 4) ((seal_ bs).map encB)∧St H w' (row 5 1 v (n + 4) ((seal_ bs).map encB)::L)):=by
 refine enter (args:=[.slice A n c]) (N:=11) Try.func28 rfl rfl rfl ?_
 have hle:=hp.le
 have hlen:=hp.len
 refine c_seq (c_region (st (v:=.slice none 0 0) (x_assign .const) ?_))
 refine c_nil (n_then (c_seq (c_region (st (v:=.slice A n c) (x_move (.tmp rfl rfl)) ?_))))
 refine st_c cb59 .func (evs1 (.tmp rfl rfl)) (sum_spec hs hp (by omega)) ?_
 rintro e w1 ⟨rfl,hs2⟩
 refine ⟨_,rfl,?_⟩
 refine st_c cb58 .func (evs1 (.tmp rfl rfl)) (four_spec hs2 (crc bs) (crc_lt _)) ?_
 rintro e w3 ⟨rfl,hs4⟩
 refine ⟨_,rfl,?_⟩
 refine st_m (al95 (cs:=[.int .u8 0,.int .u8 0,.int .u8 0,.int .u8 0]) hs4 rfl) ?_
 rintro _ w6 ⟨g5,rfl,hs8⟩
 refine st_m0 (sto95 (cs':=[.int .u8 (((crc bs) % 256:Nat):Int),.int .u8 (((crc bs) / 2 ^ 8 % 256:Nat):Int),.int .u8 (((crc bs) / 2 ^ 16 % 256:Nat):Int),.int .u8 (((crc bs) / 2 ^ 24 % 256:Nat):Int)]) (i:=0) hs8 (v:=.agg #[.int .u8 (((crc bs) % 256:Nat):Int),.int .u8 (((crc bs) / 2 ^ 8 % 256:Nat):Int),.int .u8 (((crc bs) / 2 ^ 16 % 256:Nat):Int),.int .u8 (((crc bs) / 2 ^ 24 % 256:Nat):Int)]) (.tmp rfl rfl) (.tmp rfl rfl) rfl (Nat.le_of_ble_eq_true rfl) (oneA rfl) rfl) ?_
 rintro w9 hs11
 refine c_nil (n_then (c_seq (s_region (L:=obj g5 95 [.int .u8 (((crc bs) % 256:Nat):Int),.int .u8 (((crc bs) / 2 ^ 8 % 256:Nat):Int),.int .u8 (((crc bs) / 2 ^ 16 % 256:Nat):Int),.int .u8 (((crc bs) / 2 ^ 24 % 256:Nat):Int)]::L) (L':=obj g5 95 [.int .u8 (((crc bs) % 256:Nat):Int),.int .u8 (((crc bs) / 2 ^ 8 % 256:Nat):Int),.int .u8 (((crc bs) / 2 ^ 16 % 256:Nat):Int),.int .u8 (((crc bs) / 2 ^ 24 % 256:Nat):Int)]::L) none [(0,true),(2,true),(1,false),(3,false),(4,true)] mixed hs11 (fun u hu => hu) (by kernel_rfl) ?_)))
 intro w12 hs13
 refine s_st (k:=0) (v:=.slice A n c) rfl (fun w hs => (x_move (.tmp rfl rfl))) ?_
 refine s_st (k:=2) (v:=.slice (some ⟨g5,0,none⟩) 4 4) rfl (fun w hs => (x_sliceArr Try.underlying95 inf5 (.tmp rfl rfl))) ?_
 refine s_eff (k:=1) rfl ?_
 refine st_m (m_appNil Try.underlying33 inf5 hs13 .const (.tmp rfl rfl) hp (by omega)) ?_
 rintro v14 w15 ⟨ok16,hs17⟩
 refine s_on (S':=fun u => St H u (obj g5 95 [.int .u8 (((crc bs) % 256:Nat):Int),.int .u8 (((crc bs) / 2 ^ 8 % 256:Nat):Int),.int .u8 (((crc bs) / 2 ^ 16 % 256:Nat):Int),.int .u8 (((crc bs) / 2 ^ 24 % 256:Nat):Int)]::L)) (fun u hu => hu) hs17.drop ?_
 refine s_eff (k:=3) rfl ?_
 refine st_m (m_appAt (bs:=[((crc bs) % 256),((crc bs) / 2 ^ 8 % 256),((crc bs) / 2 ^ 16 % 256),((crc bs) / 2 ^ 24 % 256)]) Try.underlying33 inf5 hs17 ok16 (.tmp rfl rfl) (.tmp rfl rfl) rfl (hs17.at_ 1 rfl 0 rfl) (by omega)) ?_
 rintro v19 w20 ⟨ok21,hs22⟩
 refine s_on (S':=fun u => St H u (obj g5 95 [.int .u8 (((crc bs) % 256:Nat):Int),.int .u8 (((crc bs) / 2 ^ 8 % 256:Nat):Int),.int .u8 (((crc bs) / 2 ^ 16 % 256:Nat):Int),.int .u8 (((crc bs) / 2 ^ 24 % 256:Nat):Int)]::L)) (fun u hu => hu) hs22.drop ?_
 refine s_st (k:=4) (v:=v19) rfl (fun w hs => (x_assign (.tmp rfl rfl))) ?_
 refine s_nil ?_
 refine n_then (c_ret (leave_ret (res_one (v:=v19) rfl (.mk rfl rfl)) ?_))
 exact ⟨_,rfl,ok21,(hs22.p1).drop⟩
set_option maxHeartbeats 8000000 in
theorem rseal_spec {H:Hp} {w:World} {L:List Res} (hs:St H w L) {A:Option Addr} {n c:Nat} {bs:List Nat} (hp:Bs H A n c bs) (hn:n ≤ 140737488355320):Calls Try.prog 17 #[.slice A n c] w (fun e w' => ∃ v,e = .returned v∧RowOk 1 v (n + 4) ((seal_ bs).map encB)∧St H w' (row 5 1 v (n + 4) ((seal_ bs).map encB)::L)):=by
 refine enter (args:=[.slice A n c]) (N:=24) Try.func17 rfl rfl rfl ?_
 have hle:=hp.le
 have hlen:=hp.len
 refine c_seq (c_region (st (v:=.slice none 0 0) (x_assign .const) ?_))
 refine c_nil (n_then (c_seq (c_region (st (v:=.slice none 0 0) (x_assign .const) ?_))))
 refine c_nil (n_then (c_seq (c_region (st (v:=.slice none 0 0) (x_move (.tmp rfl rfl)) ?_))))
 refine st (v:=.slice A n c) (x_move (.tmp rfl rfl)) ?_
 refine st_m (m_appNil Try.underlying33 inf5 hs (.tmp rfl rfl) (.tmp rfl rfl) hp (by omega)) ?_
 rintro v1 w2 ⟨ok3,hs4⟩
 refine st (v:=v1) (x_assign (.tmp rfl rfl)) ?_
 refine c_nil (n_then (c_seq (c_region (st (v:=.slice A n c) (x_move (.tmp rfl rfl)) ?_))))
 refine st_c cb46 .func (evs1 (.tmp rfl rfl)) (rsum_spec hs4 hp (by omega)) ?_
 rintro e w6 ⟨rfl,hs7⟩
 refine ⟨_,rfl,?_⟩
 refine st (v:=.int .u32 ((crc bs:Nat):Int)) (x_assign (.tmp rfl rfl)) ?_
 refine c_nil (n_then (c_seq (c_seq (c_region (st (v:=.int .i64 0) (x_assign .const) ?_)))))
 refine c_nil (n_then (c_block (c_loop (fun ρ w mm => ∃ (j:Nat) (v:Value),ρ 3 = v∧ρ 4 = .int .u32 ((crc bs:Nat):Int)∧ρ 5 = .int .i64 ((j:Nat):Int)∧(j ≤ 4)∧(RowOk 1 v (n + j) ((bs ++ (four (crc bs)).take j).map encB))∧St H w (row 5 1 v (n + j) ((bs ++ (four (crc bs)).take j).map encB)::L)∧mm = 4 - j) _ ⟨0,v1,rfl,rfl,rfl,(by omega),(by simpa using ok3),(by simpa using hs7),rfl⟩ ?_)))
 rintro ρ w mm ⟨j,v,hρ9,hρ10,hρ11,hj,ok,hs12,rfl⟩
 refine c_seq (c_seq (c_region (st (v:=.int .i64 ((j:Nat):Int)) (x_move (.tmp rfl hρ11)) ?_)))
 refine st (v:=.bool (decide ((((j:Nat):Int):Int) < 4))) (x_lss (k:=.i64) (a:=((j:Nat):Int)) (b:=4) (.tmp rfl rfl) .const) ?_
 refine c_nil (n_then ?_)
 rcases Bool.eq_false_or_eq_true (decide ((((j:Nat):Int):Int) < 4)) with hc13 | hc13
 have hp13:(((j:Nat):Int):Int) < 4:=of_decide_eq_true hc13
 refine c_cond_t (t:=true) (.tmp rfl (congrArg Value.bool hc13)) rfl ?_
 refine c_skip (n_then (c_seq (c_block (c_region ?_))))
 have hj4:j < 4:=by omega
 refine st (v:=v) (x_move (.tmp rfl hρ9)) ?_
 refine st (v:=.int .u32 ((crc bs:Nat):Int)) (x_move (.tmp rfl hρ10)) ?_
 refine st (v:=.int .i64 ((j:Nat):Int)) (x_move (.tmp rfl hρ11)) ?_
 refine st (v:=.int .i64 (8 * ((j:Nat):Int))) (x_mul (k:=.i64) (a:=8) (b:=((j:Nat):Int)) .const (.tmp rfl rfl) (w64 (by omega) (by omega))) ?_
 have hb14:((crc bs) / 2 ^ (8 * ((j:Nat):Int)).toNat) < 4294967296:=Nat.lt_of_le_of_lt (Nat.div_le_self _ _) (crc_lt _)
 refine st (v:=.int .u32 ((((crc bs) / 2 ^ (8 * ((j:Nat):Int)).toNat):Nat):Int)) (x_shr (k:=.u32) (m:=(crc bs)) (b:=(8 * ((j:Nat):Int))) rfl (.tmp rfl rfl) (.tmp rfl rfl) (by omega) (show _ < 2 ^ 32 from (crc_lt _))) ?_
 refine st (v:=.int .u8 (((((crc bs) / 2 ^ (8 * ((j:Nat):Int)).toNat) % 256):Nat):Int)) (x_conv (k:=.u32) (a:=((((crc bs) / 2 ^ (8 * ((j:Nat):Int)).toNat):Nat):Int)) Try.underlying45 Try.underlying5 (.tmp rfl rfl) (wrapN _ rfl _)) ?_
 refine st_m (m_lit (n:=1) (ps:=[(0,.int .u8 (((((crc bs) / 2 ^ (8 * ((j:Nat):Int)).toNat) % 256):Nat):Int))]) (cs:=[.int .u8 (((((crc bs) / 2 ^ (8 * ((j:Nat):Int)).toNat) % 256):Nat):Int)]) Try.underlying33 inf5 (.cons (.tmp rfl rfl) Evp.nil) (by decide) (by decide) rfl rfl hs12) ?_
 rintro _ w16 ⟨g15,rfl,hs18⟩
 have hs19:=hs18.p1
 refine st_m (m_appAt (bs:=[(((crc bs) / 2 ^ (8 * ((j:Nat):Int)).toNat) % 256)]) Try.underlying33 inf5 hs19 ok (.tmp rfl rfl) (.tmp rfl rfl) rfl (hs19.at_ 1 rfl 0 rfl) (by omega)) ?_
 rintro v20 w21 ⟨ok22,hs23⟩
 refine st (v:=v20) (x_assign (.tmp rfl rfl)) ?_
 refine c_nil (n_block (n_then (c_region (st (v:=.int .i64 ((j:Nat):Int)) (x_move (.tmp rfl hρ11)) ?_))))
 refine st (v:=.int .i64 (((j:Nat):Int) + 1)) (x_add (k:=.i64) (a:=((j:Nat):Int)) (b:=1) (.tmp rfl rfl) .const (w64 (by omega) (by omega))) ?_
 refine st (v:=.int .i64 (((j:Nat):Int) + 1)) (x_assign (.tmp rfl rfl)) ?_
 refine c_nil ?_
 refine n_then ⟨_,_,rfl,?_,(j + 1),v20,rfl,hρ10,rfl,(by omega),(four_next bs hj4 ok22),(four_nextS bs hj4 (hs23.p1).drop),rfl⟩
 omega
 have hp13:¬ ((((j:Nat):Int):Int) < 4):=of_decide_eq_false hc13
 refine c_cond_f (t:=false) (.tmp rfl (congrArg Value.bool hc13)) rfl ?_
 refine c_exit (x_then (x_then (x_here (n_then (c_seq (c_region (st (v:=v) (x_move (.tmp rfl hρ9)) ?_)))))))
 refine st (v:=v) (x_assign (.tmp rfl rfl)) ?_
 refine c_nil (n_then (c_ret (leave_ret (res_one (v:=v) rfl (.mk rfl rfl)) ?_)))
 obtain rfl:j = 4:=by omega
 exact ⟨_,rfl,ok,hs12⟩
set_option maxHeartbeats 8000000 in
theorem open_spec {H:Hp} {w:World} {L:List Res} (hs:St H w L) {A:Option Addr} {n c:Nat} {bs:List Nat} (hp:Bs H A n c bs) (hn:n ≤ 140737488355320):Calls Try.prog 31 #[.slice A n c] w (fun e w' => ∃ v,e = .returned (.tuple #[v,.int .i64 (openL bs).2])∧RowOk 1 v (openL bs).1.length ((openL bs).1.map encB)∧St H w' (row 5 1 v (openL bs).1.length ((openL bs).1.map encB)::L)):=by
 obtain rfl:=hp.len
 refine enter (args:=[.slice A bs.length c]) (N:=25) Try.func31 rfl rfl rfl ?_
 have hle:=hp.le
 refine c_seq (c_region (st (v:=.slice none 0 0) (x_assign .const) ?_))
 refine st (v:=.int .i64 0) (x_assign .const) ?_
 refine c_nil (n_then (c_seq (c_region (st (v:=.slice A bs.length c) (x_move (.tmp rfl rfl)) ?_))))
 refine st (v:=.int .i64 ((bs.length:Nat):Int)) (x_len (n:=bs.length) Try.underlying33 (.tmp rfl rfl)) ?_
 refine st (v:=.int .i64 (((bs.length:Nat):Int) - 4)) (x_sub (k:=.i64) (a:=((bs.length:Nat):Int)) (b:=4) (.tmp rfl rfl) .const (w64 (by omega) (by omega))) ?_
 refine st (v:=.int .i64 (((bs.length:Nat):Int) - 4)) (x_assign (.tmp rfl rfl)) ?_
 refine c_nil (n_then (c_seq (c_seq (c_region (st (v:=.int .i64 (((bs.length:Nat):Int) - 4)) (x_move (.tmp rfl rfl)) ?_)))))
 refine st (v:=.bool (decide (((((bs.length:Nat):Int) - 4):Int) < 0))) (x_lss (k:=.i64) (a:=(((bs.length:Nat):Int) - 4)) (b:=0) (.tmp rfl rfl) .const) ?_
 refine c_nil (n_then ?_)
 rcases Bool.eq_false_or_eq_true (decide (((((bs.length:Nat):Int) - 4):Int) < 0)) with hc1 | hc1
 have hp1:((((bs.length:Nat):Int) - 4):Int) < 0:=of_decide_eq_true hc1
 refine c_cond_t (t:=true) (.tmp rfl (congrArg Value.bool hc1)) rfl ?_
 refine c_seq (c_region (st (v:=.slice none 0 0) (x_assign .const) ?_))
 refine st (v:=.int .i64 3) (x_assign .const) ?_
 refine c_nil (n_then (c_ret (r_then (leave_ret (res_two (v:=.slice none 0 0) (u:=.int .i64 3) rfl (.mk rfl rfl) (.mk rfl rfl)) ?_))))
 rw [openL_short (by omega)]
 exact ⟨_,rfl,RowOk.nil 1,(hs).rowNil 5 1⟩
 have hp1:¬ (((((bs.length:Nat):Int) - 4):Int) < 0):=of_decide_eq_false hc1
 refine c_cond_f (t:=false) (.tmp rfl (congrArg Value.bool hc1)) rfl ?_
 refine c_skip (n_then (c_seq (c_seq (s_region (L:=L) (L':=L) none [(0,true),(1,true),(2,true),(3,true),(4,true),(5,true),(6,true),(7,true),(8,false),(9,false),(10,true)] mixed hs (fun u hu => hu) (by kernel_rfl) ?_))))
 intro w2 hs3
 refine s_st (k:=0) (v:=.slice A bs.length c) rfl (fun w hs => (x_move (.tmp rfl rfl))) ?_
 refine s_st (k:=1) (v:=.int .i64 (((bs.length:Nat):Int) - 4)) rfl (fun w hs => (x_move (.tmp rfl rfl))) ?_
 have:=hp.le
 refine s_st (k:=2) (v:=.slice (cutA A c ((((bs.length:Nat):Int) - 4).toNat) 1) (bs.length - (((bs.length:Nat):Int) - 4).toNat) (c - (((bs.length:Nat):Int) - 4).toNat)) rfl (fun w hs => (bs_l Try.underlying33 inf5 (a:=(((bs.length:Nat):Int) - 4)) (.tmp rfl rfl) (.tmp rfl rfl) (by omega) (by omega) (by omega))) ?_
 obtain ⟨b4,o5,hA6,hat7⟩:=(hp.drop (k:=(((bs.length:Nat):Int) - 4).toNat) (by omega)).first (by omega)
 refine s_st (k:=3) (v:=.pointer (cutA A c ((((bs.length:Nat):Int) - 4).toNat) 1)) rfl (fun w hs => (x_toArray Try.underlying95 (.tmp rfl rfl) (by omega))) ?_
 refine s_st (k:=4) (v:=.agg #[.int .u8 (((bs.drop ((((bs.length:Nat):Int) - 4).toNat)).getD 0 0:Nat):Int),.int .u8 (((bs.drop ((((bs.length:Nat):Int) - 4).toNat)).getD 1 0:Nat):Int),.int .u8 (((bs.drop ((((bs.length:Nat):Int) - 4).toNat)).getD 2 0:Nat):Int),.int .u8 (((bs.drop ((((bs.length:Nat):Int) - 4).toNat)).getD 3 0:Nat):Int)]) rfl (fun w hs => (ld95 (cs:=[.int .u8 (((bs.drop ((((bs.length:Nat):Int) - 4).toNat)).getD 0 0:Nat):Int),.int .u8 (((bs.drop ((((bs.length:Nat):Int) - 4).toNat)).getD 1 0:Nat):Int),.int .u8 (((bs.drop ((((bs.length:Nat):Int) - 4).toNat)).getD 2 0:Nat):Int),.int .u8 (((bs.drop ((((bs.length:Nat):Int) - 4).toNat)).getD 3 0:Nat):Int)]) (.tmp rfl (congrArg Value.pointer hA6)) ((hat7 hs).sub 0 rfl) rfl)) ?_
 refine s_st (k:=5) (v:=.slice A bs.length c) rfl (fun w hs => (x_move (.tmp rfl rfl))) ?_
 refine s_st (k:=6) (v:=.int .i64 (((bs.length:Nat):Int) - 4)) rfl (fun w hs => (x_move (.tmp rfl rfl))) ?_
 have:=hp.le
 refine s_st (k:=7) (v:=.slice A ((((bs.length:Nat):Int) - 4).toNat) c) rfl (fun w hs => (bs_h Try.underlying33 inf5 (a:=(((bs.length:Nat):Int) - 4)) (.tmp rfl rfl) (.tmp rfl rfl) (by omega) (by omega))) ?_
 refine s_eff (k:=8) rfl ?_
 refine st_c cb59 .func (evs1 (.tmp rfl rfl)) (sum_spec hs3 (hp.take (k:=(((bs.length:Nat):Int) - 4).toNat) (by omega)) (by omega)) ?_
 rintro e w8 ⟨rfl,hs9⟩
 refine ⟨_,rfl,?_⟩
 refine s_on (S':=fun u => St H u (L)) (fun u hu => hu) hs9 ?_
 refine s_eff (k:=9) rfl ?_
 refine st_c cb58 .func (evs1 (.tmp rfl rfl)) (four_spec hs9 (crc (bs.take ((((bs.length:Nat):Int) - 4).toNat))) (crc_lt _)) ?_
 rintro e w10 ⟨rfl,hs11⟩
 refine ⟨_,rfl,?_⟩
 refine s_on (S':=fun u => St H u (L)) (fun u hu => hu) hs11 ?_
 refine s_st (k:=10) (v:=.bool (!((((bs.drop ((((bs.length:Nat):Int) - 4).toNat)).getD 0 0:Nat):Int) == (((crc (bs.take ((((bs.length:Nat):Int) - 4).toNat))) % 256:Nat):Int) && ((((bs.drop ((((bs.length:Nat):Int) - 4).toNat)).getD 1 0:Nat):Int) == (((crc (bs.take ((((bs.length:Nat):Int) - 4).toNat))) / 2 ^ 8 % 256:Nat):Int) && ((((bs.drop ((((bs.length:Nat):Int) - 4).toNat)).getD 2 0:Nat):Int) == (((crc (bs.take ((((bs.length:Nat):Int) - 4).toNat))) / 2 ^ 16 % 256:Nat):Int) && (((bs.drop ((((bs.length:Nat):Int) - 4).toNat)).getD 3 0:Nat):Int) == (((crc (bs.take ((((bs.length:Nat):Int) - 4).toNat))) / 2 ^ 24 % 256:Nat):Int)))))) rfl (fun w hs => (x_neqA eqg95 (.tmp rfl rfl) (.tmp rfl rfl) (fun d => run_eqArr4 (d + 98) Try.underlying95 Try.underlying5 sc5 inf5 _ _ _ _ _ _ _ _))) ?_
 refine s_nil ?_
 refine n_then ?_
 rcases Bool.eq_false_or_eq_true ((((bs.drop ((((bs.length:Nat):Int) - 4).toNat)).getD 0 0:Nat):Int) == (((crc (bs.take ((((bs.length:Nat):Int) - 4).toNat))) % 256:Nat):Int) && ((((bs.drop ((((bs.length:Nat):Int) - 4).toNat)).getD 1 0:Nat):Int) == (((crc (bs.take ((((bs.length:Nat):Int) - 4).toNat))) / 2 ^ 8 % 256:Nat):Int) && ((((bs.drop ((((bs.length:Nat):Int) - 4).toNat)).getD 2 0:Nat):Int) == (((crc (bs.take ((((bs.length:Nat):Int) - 4).toNat))) / 2 ^ 16 % 256:Nat):Int) && (((bs.drop ((((bs.length:Nat):Int) - 4).toNat)).getD 3 0:Nat):Int) == (((crc (bs.take ((((bs.length:Nat):Int) - 4).toNat))) / 2 ^ 24 % 256:Nat):Int)))) with hc12 | hc12
 refine c_cond_f (t:=false) (.tmp rfl (congrArg Value.bool (by rw [hc12]; rfl))) rfl ?_
 refine c_skip (n_then (c_seq (c_region (st (v:=.slice A bs.length c) (x_move (.tmp rfl rfl)) ?_))))
 refine st (v:=.int .i64 (((bs.length:Nat):Int) - 4)) (x_move (.tmp rfl rfl)) ?_
 have:=hp.le
 refine st (v:=.slice A ((((bs.length:Nat):Int) - 4).toNat) c) (bs_h Try.underlying33 inf5 (a:=(((bs.length:Nat):Int) - 4)) (.tmp rfl rfl) (.tmp rfl rfl) (by omega) (by omega)) ?_
 refine st_m (m_appNil Try.underlying33 inf5 hs11 .const (.tmp rfl rfl) (hp.take (k:=(((bs.length:Nat):Int) - 4).toNat) (by omega)) (by omega)) ?_
 rintro v13 w14 ⟨ok15,hs16⟩
 refine st (v:=v13) (x_assign (.tmp rfl rfl)) ?_
 refine st (v:=.int .i64 0) (x_assign .const) ?_
 refine c_nil (n_then (c_ret (leave_ret (res_two (v:=v13) (u:=.int .i64 0) rfl (.mk rfl rfl) (.mk rfl rfl)) ?_)))
 have e4:((bs.length:Int) - 4).toNat = bs.length - 4:=by omega
 rw [e4,four_eq (by omega)] at hc12
 rw [openL_good (by omega) (of_decide_eq_true hc12)]
 have hk:(bs.take (bs.length - 4)).length = bs.length - 4:=by simp
 rw [hk,← e4]
 exact ⟨_,rfl,ok15,hs16⟩
 refine c_cond_t (t:=true) (.tmp rfl (congrArg Value.bool (by rw [hc12]; rfl))) rfl ?_
 refine c_seq (c_region (st (v:=.slice none 0 0) (x_assign .const) ?_))
 refine st (v:=.int .i64 5) (x_assign .const) ?_
 refine c_nil (n_then (c_ret (r_then (leave_ret (res_two (v:=.slice none 0 0) (u:=.int .i64 5) rfl (.mk rfl rfl) (.mk rfl rfl)) ?_))))
 have e4:((bs.length:Int) - 4).toNat = bs.length - 4:=by omega
 rw [e4,four_eq (by omega)] at hc12
 rw [openL_bad (by omega) (of_decide_eq_false hc12)]
 exact ⟨_,rfl,RowOk.nil 1,(hs11).rowNil 5 1⟩
end Go.Proofs.Ytlfihfmmhhcigaa

set_option linter.unusedVariables false
set_option linter.unusedSimpArgs false
namespace Go.Proofs.Ytlfihfmmhhcigaa
open Go Go.FM Go.Proofs
attribute [local irreducible] wpList wpQuiet wpS Code.wp Calls
set_option maxHeartbeats 8000000 in
theorem uint_spec {H:Hp} {w:World} {L:List Res} {v:Value} {n:Nat} {l:List Nat} (hs:St H w (row 5 1 v n (l.map encB)::L)) (ok:RowOk 1 v n (l.map encB)) (hsm:Small l) (m:Nat) (hn:n ≤ 140737488355310) (b_m:m < 18446744073709551616):Calls Try.prog 56 #[v,.int .u64 ((m:Nat):Int)] w (fun e w' => ∃ v',e = .returned v'∧RowOk 1 v' (n + (uenc m).length) ((l ++ uenc m).map encB)∧St H w' (row 5 1 v' (n + (uenc m).length) ((l ++ uenc m).map encB)::L)):=by
 refine enter (args:=[v,.int .u64 ((m:Nat):Int)]) (N:=20) Try.func56 rfl rfl rfl ?_
 have h10:=uenc_len10 b_m
 refine c_seq (c_region (st (v:=.slice none 0 0) (x_assign .const) ?_))
 refine c_nil (n_then (c_seq (c_block (c_loop (fun ρ w mm => ∃ (r:Nat) (u:Value) (k:Nat) (q:List Nat),ρ 0 = u∧ρ 1 = .int .u64 ((r:Nat):Int)∧(r < 18446744073709551616)∧(l ++ uenc m = q ++ uenc r)∧(k + (uenc r).length = n + (uenc m).length)∧(Small q)∧(RowOk 1 u k (q.map encB))∧St H w (row 5 1 u k (q.map encB)::L)∧mm = r + 1) _ ⟨m,v,n,l,rfl,rfl,b_m,rfl,rfl,hsm,ok,hs,rfl⟩ ?_))))
 rintro ρ w mm ⟨r,u,k,q,hρ2,hρ3,hr,hm,hk,hq,ok2,hs4,rfl⟩
 refine c_seq (c_seq (c_region (st (v:=.int .u64 ((r:Nat):Int)) (x_move (.tmp rfl hρ3)) ?_)))
 refine st (v:=.bool (decide ((128:Int) ≤ ((r:Nat):Int)))) (x_geq (k:=.u64) (a:=((r:Nat):Int)) (b:=128) (.tmp rfl rfl) .const) ?_
 refine c_nil (n_then ?_)
 rcases Bool.eq_false_or_eq_true (decide ((128:Int) ≤ ((r:Nat):Int))) with hc5 | hc5
 have hp5:(128:Int) ≤ ((r:Nat):Int):=of_decide_eq_true hc5
 refine c_cond_t (t:=true) (.tmp rfl (congrArg Value.bool hc5)) rfl ?_
 refine c_skip (n_then (c_block (c_seq (c_region ?_))))
 have hb1:¬ r < 128:=by omega
 have hk1:(uenc r).length = (uenc (r / 2 ^ 7)).length + 1:=by rw [uenc_big hb1]; rfl
 have hb2:r / 2 ^ 7 < r:=by omega
 refine st (v:=u) (x_move (.tmp rfl hρ2)) ?_
 refine st (v:=.int .u64 ((r:Nat):Int)) (x_move (.tmp rfl hρ3)) ?_
 refine st (v:=.int .u8 (((r % 256):Nat):Int)) (x_conv (k:=.u64) (a:=((r:Nat):Int)) Try.underlying22 Try.underlying5 (.tmp rfl rfl) (wrapN _ rfl _)) ?_
 have hb6:((r % 256) ||| 128) < 256:=Nat.or_lt_two_pow (n:=8) (Nat.mod_lt _ (by decide)) (by decide)
 refine st (v:=.int .u8 ((((r % 256) ||| 128):Nat):Int)) (x_or (k:=.u8) (m:=(r % 256)) (n:=128) rfl (.tmp rfl rfl) .const (show _ < 2 ^ 8 from (Nat.mod_lt _ (by decide))) (show _ < 2 ^ 8 from (by decide))) ?_
 refine st_m (m_lit (n:=1) (ps:=[(0,.int .u8 ((((r % 256) ||| 128):Nat):Int))]) (cs:=[.int .u8 ((((r % 256) ||| 128):Nat):Int)]) Try.underlying33 inf5 (.cons (.tmp rfl rfl) Evp.nil) (by decide) (by decide) rfl rfl hs4) ?_
 rintro _ w8 ⟨g7,rfl,hs10⟩
 have hs11:=hs10.p1
 refine st_m (m_appAt (bs:=[((r % 256) ||| 128)]) Try.underlying33 inf5 hs11 ok2 (.tmp rfl rfl) (.tmp rfl rfl) rfl (hs11.at_ 1 rfl 0 rfl) (by omega)) ?_
 rintro v12 w13 ⟨ok14,hs15⟩
 refine st (v:=v12) (x_assign (.tmp rfl rfl)) ?_
 refine c_nil (n_then (c_region (st (v:=.int .u64 ((r:Nat):Int)) (x_move (.tmp rfl hρ3)) ?_)))
 have hb16:(r / 2 ^ 7) < 18446744073709551616:=Nat.lt_of_le_of_lt (Nat.div_le_self _ _) hr
 refine st (v:=.int .u64 (((r / 2 ^ 7):Nat):Int)) (x_shr (k:=.u64) (m:=r) (b:=7) rfl (.tmp rfl rfl) .const (by omega) (show _ < 2 ^ 64 from hr)) ?_
 refine st (v:=.int .u64 (((r / 2 ^ 7):Nat):Int)) (x_assign (.tmp rfl rfl)) ?_
 refine c_nil (n_block ?_)
 refine n_then ⟨_,_,rfl,?_,(r / 2 ^ 7),v12,(k + 1),(q ++ [((r % 256) ||| 128)]),rfl,rfl,hb16,(by rw [uenc_big hb1] at hm; rw [hm,or128]; simp),(by have:=hk1; omega),(hq.append (Small.cons hb6 Small.nil)),ok14,(hs15.p1).drop,rfl⟩
 exact Nat.succ_lt_succ hb2
 have hp5:¬ ((128:Int) ≤ ((r:Nat):Int)):=of_decide_eq_false hc5
 refine c_cond_f (t:=false) (.tmp rfl (congrArg Value.bool hc5)) rfl ?_
 refine c_exit (x_then (x_then (x_here (n_then (c_seq (c_region ?_))))))
 have hb1:r < 128:=by omega
 have hk1:(uenc r).length = 1:=by rw [uenc_one hb1]; rfl
 refine st (v:=u) (x_move (.tmp rfl hρ2)) ?_
 refine st (v:=.int .u64 ((r:Nat):Int)) (x_move (.tmp rfl hρ3)) ?_
 refine st (v:=.int .u8 (((r % 256):Nat):Int)) (x_conv (k:=.u64) (a:=((r:Nat):Int)) Try.underlying22 Try.underlying5 (.tmp rfl rfl) (wrapN _ rfl _)) ?_
 refine st_m (m_lit (n:=1) (ps:=[(0,.int .u8 (((r % 256):Nat):Int))]) (cs:=[.int .u8 (((r % 256):Nat):Int)]) Try.underlying33 inf5 (.cons (.tmp rfl rfl) Evp.nil) (by decide) (by decide) rfl rfl hs4) ?_
 rintro _ w18 ⟨g17,rfl,hs20⟩
 have hs21:=hs20.p1
 refine st_m (m_appAt (bs:=[(r % 256)]) Try.underlying33 inf5 hs21 ok2 (.tmp rfl rfl) (.tmp rfl rfl) rfl (hs21.at_ 1 rfl 0 rfl) (by omega)) ?_
 rintro v22 w23 ⟨ok24,hs25⟩
 refine st (v:=v22) (x_assign (.tmp rfl rfl)) ?_
 refine c_nil (n_then (c_ret (leave_ret (res_one (v:=v22) rfl (.mk rfl rfl)) ?_)))
 have hmod:r % 256 = r:=by omega
 have e1:l ++ uenc m = q ++ [r % 256]:=by rw [hm,uenc_one hb1,hmod]
 have e2:n + (uenc m).length = k + 1:=by omega
 rw [e1,e2]
 exact ⟨_,rfl,ok24,(hs25.p1).drop⟩
end Go.Proofs.Ytlfihfmmhhcigaa

set_option linter.unusedVariables false
set_option linter.unusedSimpArgs false
namespace Go.Proofs.Ytlfihfmmhhcigaa
open Go Go.FM Go.Proofs
attribute [local irreducible] wpList wpQuiet wpS Code.wp Calls
set_option maxHeartbeats 8000000 in
theorem newReader_spec {H:Hp} {w:World} {L:List Res} (hs:St H w L) {A:Option Addr} {n c:Nat}:Calls Try.prog 32 #[.slice A n c] w (fun e w' => ∃ g,e = .returned (.pointer (some ⟨g,0,none⟩))∧St H w' (obj g 98 [.slice A n c,.bool false]::L)):=by
 refine enter (args:=[.slice A n c]) (N:=6) Try.func32 rfl rfl rfl ?_
 refine c_seq (c_region (st (v:=.pointer none) (x_assign .const) ?_))
 refine c_nil (n_then (c_seq (c_region (st (v:=.slice A n c) (x_move (.tmp rfl rfl)) ?_))))
 refine st (v:=.agg #[.slice A n c,.bool false]) (bl98 (ps:=[(0,.slice A n c)]) (.cons (.tmp rfl rfl) Evp.nil) rfl) ?_
 refine st_m (m_box (cs:=[.slice A n c,.bool false]) hs (v:=.agg #[.slice A n c,.bool false]) (.tmp rfl rfl) rfl) ?_
 rintro _ w2 ⟨g1,rfl,hs4⟩
 refine st (v:=.pointer (some ⟨g1,0,none⟩)) (x_assign (.tmp rfl rfl)) ?_
 refine c_nil (n_then (c_ret (leave_ret (res_one (v:=.pointer (some ⟨g1,0,none⟩)) rfl (.mk rfl rfl)) ?_)))
 exact ⟨_,rfl,hs4⟩
set_option maxHeartbeats 8000000 in
theorem bad_own {H:Hp} {w:World} {L:List Res} {g:Nat} {A:Option Addr} {n c:Nat} {b:Bool} (hs:St H w (obj g 98 [.slice A n c,.bool b]::L)):Calls Try.prog 37 #[.pointer (some ⟨g,0,none⟩)] w (fun e w' => e = .returned (.bool b)∧St H w' (obj g 98 [.slice A n c,.bool b]::L)):=by
 refine enter (args:=[.pointer (some ⟨g,0,none⟩)]) (N:=11) Try.func37 rfl rfl rfl ?_
 refine c_seq (c_region (st (v:=.bool false) (x_assign .const) ?_))
 refine c_nil (n_then (c_seq (c_region (st (v:=.pointer (some ⟨g,0,none⟩)) (x_move (.tmp rfl rfl)) ?_))))
 refine st (v:=.bool false) (x_eqlP Try.underlying67 (.tmp rfl rfl) .const rfl) ?_
 refine st (v:=.bool false) (x_move (.tmp rfl rfl)) ?_
 refine g_yes (yl (dj:=5) (b:=false) rfl rfl rfl) ?_
 refine st (v:=.pointer (some ⟨g,0,none⟩)) (x_move (.tmp rfl rfl)) ?_
 refine g_yes (yl (dj:=5) (b:=false) rfl rfl rfl) ?_
 refine st (v:=.pointer (some ⟨g,0,none⟩)) (x_nilCheck (.tmp rfl rfl)) ?_
 refine g_yes (yl (dj:=5) (b:=false) rfl rfl rfl) ?_
 refine st (v:=.pointer (some ⟨g,0 + 1,none⟩)) (fa98_1 (.tmp rfl rfl)) ?_
 refine g_yes (yl (dj:=5) (b:=false) rfl rfl rfl) ?_
 refine st (v:=.bool b) (ld4 (.tmp rfl rfl) (hs.cell 0 rfl (0 + 1) rfl)) ?_
 refine st (v:=.bool b) (x_pick_f (.tmp rfl rfl) (.tmp rfl rfl)) ?_
 refine st (v:=.bool b) (x_assign (.tmp rfl rfl)) ?_
 refine c_nil (n_then (c_ret (leave_ret (res_one (v:=.bool b) rfl (.mk rfl rfl)) ?_)))
 exact ⟨rfl,hs⟩
set_option maxHeartbeats 8000000 in
theorem left_own {H:Hp} {w:World} {L:List Res} {g:Nat} {A:Option Addr} {n c:Nat} {b:Bool} (hs:St H w (obj g 98 [.slice A n c,.bool b]::L)):Calls Try.prog 40 #[.pointer (some ⟨g,0,none⟩)] w (fun e w' => e = .returned (.int .i64 (if b = true then 0 else ((n:Nat):Int)))∧St H w' (obj g 98 [.slice A n c,.bool b]::L)):=by
 refine enter (args:=[.pointer (some ⟨g,0,none⟩)]) (N:=16) Try.func40 rfl rfl rfl ?_
 refine c_seq (c_region (st (v:=.int .i64 0) (x_assign .const) ?_))
 refine c_nil (n_then (c_seq (c_seq (c_region (st (v:=.pointer (some ⟨g,0,none⟩)) (x_move (.tmp rfl rfl)) ?_)))))
 refine st (v:=.bool false) (x_eqlP Try.underlying67 (.tmp rfl rfl) .const rfl) ?_
 refine st (v:=.bool false) (x_move (.tmp rfl rfl)) ?_
 refine g_yes (yl (dj:=5) (b:=false) rfl rfl rfl) ?_
 refine st (v:=.pointer (some ⟨g,0,none⟩)) (x_move (.tmp rfl rfl)) ?_
 refine g_yes (yl (dj:=5) (b:=false) rfl rfl rfl) ?_
 refine st (v:=.pointer (some ⟨g,0,none⟩)) (x_nilCheck (.tmp rfl rfl)) ?_
 refine g_yes (yl (dj:=5) (b:=false) rfl rfl rfl) ?_
 refine st (v:=.pointer (some ⟨g,0 + 1,none⟩)) (fa98_1 (.tmp rfl rfl)) ?_
 refine g_yes (yl (dj:=5) (b:=false) rfl rfl rfl) ?_
 refine st (v:=.bool b) (ld4 (.tmp rfl rfl) (hs.cell 0 rfl (0 + 1) rfl)) ?_
 refine st (v:=.bool b) (x_pick_f (.tmp rfl rfl) (.tmp rfl rfl)) ?_
 refine c_nil (n_then ?_)
 rcases Bool.eq_false_or_eq_true b with hc1 | hc1
 refine c_cond_t (t:=true) (.tmp rfl (congrArg Value.bool hc1)) rfl ?_
 refine c_seq (c_region (st (v:=.int .i64 0) (x_assign .const) ?_))
 refine c_nil (n_then (c_ret (r_then (leave_ret (res_one (v:=.int .i64 0) rfl (.mk rfl rfl)) ?_))))
 exact ⟨by rw [hc1]; rfl,hs⟩
 refine c_cond_f (t:=false) (.tmp rfl (congrArg Value.bool hc1)) rfl ?_
 refine c_skip (n_then (c_seq (c_region (st (v:=.pointer (some ⟨g,0,none⟩)) (x_move (.tmp rfl rfl)) ?_))))
 refine st (v:=.pointer (some ⟨g,0,none⟩)) (x_nilCheck (.tmp rfl rfl)) ?_
 refine st (v:=.pointer (some ⟨g,0 + 0,none⟩)) (fa98_0 (.tmp rfl rfl)) ?_
 refine st (v:=.slice A n c) (ld33 (.tmp rfl rfl) (hs.cell 0 rfl (0 + 0) rfl)) ?_
 refine st (v:=.int .i64 ((n:Nat):Int)) (x_len (n:=n) Try.underlying33 (.tmp rfl rfl)) ?_
 refine st (v:=.int .i64 ((n:Nat):Int)) (x_assign (.tmp rfl rfl)) ?_
 refine c_nil (n_then (c_ret (leave_ret (res_one (v:=.int .i64 ((n:Nat):Int)) rfl (.mk rfl rfl)) ?_)))
 exact ⟨by rw [hc1]; rfl,hs⟩
set_option maxHeartbeats 8000000 in
theorem uint_true {H:Hp} {w:World} {L:List Res} {g:Nat} {A:Option Addr} {n c:Nat} {bs:List Nat} (hp:Bs H A n c bs) (hs:St H w (obj g 98 [.slice A n c,.bool true]::L)):Calls Try.prog 36 #[.pointer (some ⟨g,0,none⟩)] w (fun e w' => ∃ A' n' c',e = .returned (.int .u64 (((rdU bs true).1:Nat):Int))∧Bs H A' n' c' (rdU bs true).2.1∧St H w' (obj g 98 [.slice A' n' c',.bool (rdU bs true).2.2]::L)):=by
 refine enter (args:=[.pointer (some ⟨g,0,none⟩)]) (N:=68) Try.func36 rfl rfl rfl ?_
 refine c_seq (c_region (st (v:=.int .u64 0) (x_assign .const) ?_))
 refine c_nil (n_then (c_seq (c_seq (c_region (st (v:=.pointer (some ⟨g,0,none⟩)) (x_move (.tmp rfl rfl)) ?_)))))
 refine st (v:=.bool false) (x_eqlP Try.underlying67 (.tmp rfl rfl) .const rfl) ?_
 refine st (v:=.bool false) (x_move (.tmp rfl rfl)) ?_
 refine g_yes (yl (dj:=8) (b:=false) rfl rfl rfl) ?_
 refine st (v:=.pointer (some ⟨g,0,none⟩)) (x_move (.tmp rfl rfl)) ?_
 refine g_yes (yl (dj:=8) (b:=false) rfl rfl rfl) ?_
 refine st (v:=.pointer (some ⟨g,0,none⟩)) (x_nilCheck (.tmp rfl rfl)) ?_
 refine g_yes (yl (dj:=8) (b:=false) rfl rfl rfl) ?_
 refine st (v:=.pointer (some ⟨g,0 + 1,none⟩)) (fa98_1 (.tmp rfl rfl)) ?_
 refine g_yes (yl (dj:=8) (b:=false) rfl rfl rfl) ?_
 refine st (v:=.bool true) (ld4 (.tmp rfl rfl) (hs.cell 0 rfl (0 + 1) rfl)) ?_
 refine st (v:=.bool true) (x_pick_f (.tmp rfl rfl) (.tmp rfl rfl)) ?_
 refine c_nil (n_then (c_cond_t (t:=true) (.tmp rfl rfl) rfl ?_))
 refine c_seq (c_region (st (v:=.int .u64 0) (x_assign .const) ?_))
 refine c_nil (n_then (c_ret (r_then (leave_ret (res_one (v:=.int .u64 0) rfl (.mk rfl rfl)) ?_))))
 exact ⟨_,_,_,rfl,hp,hs⟩
set_option maxHeartbeats 8000000 in
theorem uint_false {H:Hp} {w:World} {L:List Res} {g:Nat} {A:Option Addr} {n c:Nat} {bs:List Nat} (hp:Bs H A n c bs) (hs:St H w (obj g 98 [.slice A n c,.bool false]::L)):Calls Try.prog 36 #[.pointer (some ⟨g,0,none⟩)] w (fun e w' => ∃ A' n' c',e = .returned (.int .u64 (((rdU bs false).1:Nat):Int))∧Bs H A' n' c' (rdU bs false).2.1∧St H w' (obj g 98 [.slice A' n' c',.bool (rdU bs false).2.2]::L)):=by
 refine enter (args:=[.pointer (some ⟨g,0,none⟩)]) (N:=68) Try.func36 rfl rfl rfl ?_
 have hle:=hp.le
 have hlen:=hp.len
 have hmx:c ≤ 9223372036854775807:=hp.max
 refine c_seq (c_region (st (v:=.int .u64 0) (x_assign .const) ?_))
 refine c_nil (n_then (c_seq (c_seq (c_region (st (v:=.pointer (some ⟨g,0,none⟩)) (x_move (.tmp rfl rfl)) ?_)))))
 refine st (v:=.bool false) (x_eqlP Try.underlying67 (.tmp rfl rfl) .const rfl) ?_
 refine st (v:=.bool false) (x_move (.tmp rfl rfl)) ?_
 refine g_yes (yl (dj:=8) (b:=false) rfl rfl rfl) ?_
 refine st (v:=.pointer (some ⟨g,0,none⟩)) (x_move (.tmp rfl rfl)) ?_
 refine g_yes (yl (dj:=8) (b:=false) rfl rfl rfl) ?_
 refine st (v:=.pointer (some ⟨g,0,none⟩)) (x_nilCheck (.tmp rfl rfl)) ?_
 refine g_yes (yl (dj:=8) (b:=false) rfl rfl rfl) ?_
 refine st (v:=.pointer (some ⟨g,0 + 1,none⟩)) (fa98_1 (.tmp rfl rfl)) ?_
 refine g_yes (yl (dj:=8) (b:=false) rfl rfl rfl) ?_
 refine st (v:=.bool false) (ld4 (.tmp rfl rfl) (hs.cell 0 rfl (0 + 1) rfl)) ?_
 refine st (v:=.bool false) (x_pick_f (.tmp rfl rfl) (.tmp rfl rfl)) ?_
 refine c_nil (n_then (c_cond_f (t:=false) (.tmp rfl rfl) rfl ?_))
 refine c_skip (n_then (c_seq (c_region (st (v:=.int .u64 0) (x_assign .const) ?_))))
 refine c_nil (n_then (c_seq (c_seq (c_region (st (v:=.pointer (some ⟨g,0,none⟩)) (x_move (.tmp rfl rfl)) ?_)))))
 refine st (v:=.pointer (some ⟨g,0,none⟩)) (x_nilCheck (.tmp rfl rfl)) ?_
 refine st (v:=.pointer (some ⟨g,0 + 0,none⟩)) (fa98_0 (.tmp rfl rfl)) ?_
 refine st (v:=.slice A n c) (ld33 (.tmp rfl rfl) (hs.cell 0 rfl (0 + 0) rfl)) ?_
 refine st (v:=.int .i64 ((n:Nat):Int)) (x_len (n:=n) Try.underlying33 (.tmp rfl rfl)) ?_
 refine st (v:=.int .i64 0) (x_move .const) ?_
 refine c_nil (n_then (c_block (c_loop (fun ρ w mm => ∃ (i:Nat) (a:Nat),ρ 0 = .pointer (some ⟨g,0,none⟩)∧ρ 3 = .int .u64 ((a:Nat):Int)∧ρ 18 = .int .i64 ((n:Nat):Int)∧ρ 19 = .int .i64 ((i:Nat):Int)∧(i ≤ n)∧(i ≤ 9)∧(a < 18446744073709551616)∧(uscan 0 0 bs = uscan i a (bs.drop i))∧St H w (obj g 98 [.slice A n c,.bool false]::L)∧mm = n - i) _ ⟨0,0,rfl,rfl,rfl,rfl,(by omega),(by omega),(by decide),rfl,hs,rfl⟩ ?_)))
 rintro ρ w mm ⟨i,a,hρ2,hρ3,hρ4,hρ5,hi,h9,ha,hu,hs6,rfl⟩
 refine c_seq (c_region (st (v:=.bool (decide ((((i:Nat):Int):Int) < ((n:Nat):Int)))) (x_lss (k:=.i64) (a:=((i:Nat):Int)) (b:=((n:Nat):Int)) (.tmp rfl hρ5) (.tmp rfl hρ4)) ?_))
 refine c_nil (n_then (c_seq ?_))
 rcases Bool.eq_false_or_eq_true (decide ((((i:Nat):Int):Int) < ((n:Nat):Int))) with hc7 | hc7
 have hp7:(((i:Nat):Int):Int) < ((n:Nat):Int):=of_decide_eq_true hc7
 refine c_cond_t (t:=true) (.tmp rfl (congrArg Value.bool hc7)) rfl ?_
 refine c_skip (n_then (c_seq (c_block (c_seq (c_region (st (v:=.int .i64 ((i:Nat):Int)) (x_move (.tmp rfl hρ5)) ?_))))))
 refine st (v:=.int .i64 ((i:Nat):Int)) (x_assign (.tmp rfl rfl)) ?_
 refine c_nil (n_then (c_seq (c_region (st (v:=.pointer (some ⟨g,0,none⟩)) (x_move (.tmp rfl hρ2)) ?_))))
 refine st (v:=.pointer (some ⟨g,0,none⟩)) (x_nilCheck (.tmp rfl rfl)) ?_
 refine st (v:=.pointer (some ⟨g,0 + 0,none⟩)) (fa98_0 (.tmp rfl rfl)) ?_
 refine st (v:=.slice A n c) (ld33 (.tmp rfl rfl) (hs6.cell 0 rfl (0 + 0) rfl)) ?_
 refine st (v:=.int .i64 ((i:Nat):Int)) (x_move (.tmp rfl rfl)) ?_
 obtain ⟨b8,o9,hA10,hc11⟩:=hp.get (i:=i) (by omega)
 refine st (v:=.pointer (some ⟨b8,(o9 + i * 1),none⟩)) (ixo33 (.tmp rfl rfl) hA10 (i:=((i:Nat):Int)) (.tmp rfl rfl) (by omega) (by omega) rfl) ?_
 refine st (v:=.int .u8 ((bs.getD i 0:Nat):Int)) (ld5 (.tmp rfl rfl) (hc11 hs6)) ?_
 refine st (v:=.int .u8 ((bs.getD i 0:Nat):Int)) (x_assign (.tmp rfl rfl)) ?_
 refine c_nil (n_then (c_seq (c_seq (c_region (st (v:=.int .i64 ((i:Nat):Int)) (x_move (.tmp rfl rfl)) ?_)))))
 refine st (v:=.bool (decide ((((i:Nat):Int):Int) = 9))) (x_eql (k:=.i64) (a:=((i:Nat):Int)) (b:=9) (.tmp rfl rfl) .const) ?_
 refine st (v:=.bool (decide ((((i:Nat):Int):Int) = 9))) (x_move (.tmp rfl rfl)) ?_
 rcases Bool.eq_false_or_eq_true (decide ((((i:Nat):Int):Int) = 9)) with hc12 | hc12
 have hp12:(((i:Nat):Int):Int) = 9:=of_decide_eq_true hc12
 refine g_yes (yk 31 true rfl rfl hc12) ?_
 refine st (v:=.int .u8 ((bs.getD i 0:Nat):Int)) (x_move (.tmp rfl rfl)) ?_
 refine g_yes (yk 31 true rfl rfl hc12) ?_
 refine st (v:=.bool (decide ((1:Int) < ((bs.getD i 0:Nat):Int)))) (x_gtr (k:=.u8) (a:=((bs.getD i 0:Nat):Int)) (b:=1) (.tmp rfl rfl) .const) ?_
 refine st (v:=.bool (decide ((1:Int) < ((bs.getD i 0:Nat):Int)))) (x_pick_t (.tmp rfl (congrArg Value.bool hc12)) (.tmp rfl rfl)) ?_
 refine st (v:=.bool (decide ((1:Int) < ((bs.getD i 0:Nat):Int)))) (x_move (.tmp rfl rfl)) ?_
 rcases Bool.eq_false_or_eq_true (decide ((1:Int) < ((bs.getD i 0:Nat):Int))) with hc13 | hc13
 have hp13:(1:Int) < ((bs.getD i 0:Nat):Int):=of_decide_eq_true hc13
 refine g_no (yk 35 true rfl rfl hc13) rfl ?_
 refine g_no (yk 35 true rfl rfl hc13) rfl ?_
 refine g_no (yk 35 true rfl rfl hc13) rfl ?_
 refine g_no0 (yn (dj:=38) rfl rfl) ?_
 refine g_no0 (yn (dj:=38) rfl rfl) ?_
 refine g_no (yk 35 true rfl rfl hc13) rfl ?_
 refine st (v:=.bool true) (x_pick_t (.tmp rfl (congrArg Value.bool hc13)) .const) ?_
 refine c_nil (n_then (c_cond_t (t:=true) (.tmp rfl rfl) rfl ?_))
 refine c_exit (x_then (x_block rfl (x_then (x_then (x_here (n_then (c_seq (c_region (st (v:=.pointer (some ⟨g,0,none⟩)) (x_move (.tmp rfl hρ2)) ?_)))))))))
 refine st (v:=.pointer (some ⟨g,0,none⟩)) (x_nilCheck (.tmp rfl rfl)) ?_
 refine st (v:=.pointer (some ⟨g,0 + 1,none⟩)) (fa98_1 (.tmp rfl rfl)) ?_
 refine st_m0 (sto4 (cs':=[.slice A n c,.bool true]) (i:=0 + 1) hs6 (v:=.bool true) (.tmp rfl rfl) .const rfl (Nat.le_of_ble_eq_true rfl) one1 rfl) ?_
 rintro w14 hs16
 refine c_nil (n_then (c_seq (c_region (st (v:=.int .u64 0) (x_assign .const) ?_))))
 refine c_nil (n_then (c_ret (leave_ret (res_one (v:=.int .u64 0) rfl (.mk rfl rfl)) ?_)))
 have hf:uscan 0 0 bs = none:=hu.trans (by first | (rw [uscan_get (by omega),if_pos (by omega)]) | (rw [List.drop_eq_nil_of_le (by omega)]; rfl))
 rw [rdU_none hf]
 exact ⟨_,_,_,rfl,hp,hs16⟩
 have hp13:¬ ((1:Int) < ((bs.getD i 0:Nat):Int)):=of_decide_eq_false hc13
 refine g_yes (yk 35 false rfl rfl hc13) ?_
 refine st (v:=.int .i64 ((i:Nat):Int)) (x_move (.tmp rfl rfl)) ?_
 refine g_yes (yk 35 false rfl rfl hc13) ?_
 refine st (v:=.bool (decide ((0:Int) < ((i:Nat):Int)))) (x_gtr (k:=.i64) (a:=((i:Nat):Int)) (b:=0) (.tmp rfl rfl) .const) ?_
 refine g_yes (yk 35 false rfl rfl hc13) ?_
 refine st (v:=.bool (decide ((0:Int) < ((i:Nat):Int)))) (x_move (.tmp rfl rfl)) ?_
 rcases Bool.eq_false_or_eq_true (decide ((0:Int) < ((i:Nat):Int))) with hc17 | hc17
 have hp17:(0:Int) < ((i:Nat):Int):=of_decide_eq_true hc17
 refine g_yes (yk 38 true rfl rfl hc17) ?_
 refine st (v:=.int .u8 ((bs.getD i 0:Nat):Int)) (x_move (.tmp rfl rfl)) ?_
 refine g_yes (yk 38 true rfl rfl hc17) ?_
 refine st (v:=.bool (decide ((((bs.getD i 0:Nat):Int):Int) = 0))) (x_eql (k:=.u8) (a:=((bs.getD i 0:Nat):Int)) (b:=0) (.tmp rfl rfl) .const) ?_
 refine g_yes (yk 35 false rfl rfl hc13) ?_
 refine st (v:=.bool (decide ((((bs.getD i 0:Nat):Int):Int) = 0))) (x_pick_t (.tmp rfl (congrArg Value.bool hc17)) (.tmp rfl rfl)) ?_
 refine st (v:=.bool (decide ((((bs.getD i 0:Nat):Int):Int) = 0))) (x_pick_f (.tmp rfl (congrArg Value.bool hc13)) (.tmp rfl rfl)) ?_
 refine c_nil (n_then ?_)
 rcases Bool.eq_false_or_eq_true (decide ((((bs.getD i 0:Nat):Int):Int) = 0)) with hc18 | hc18
 have hp18:(((bs.getD i 0:Nat):Int):Int) = 0:=of_decide_eq_true hc18
 refine c_cond_t (t:=true) (.tmp rfl (congrArg Value.bool hc18)) rfl ?_
 refine c_exit (x_then (x_block rfl (x_then (x_then (x_here (n_then (c_seq (c_region (st (v:=.pointer (some ⟨g,0,none⟩)) (x_move (.tmp rfl hρ2)) ?_)))))))))
 refine st (v:=.pointer (some ⟨g,0,none⟩)) (x_nilCheck (.tmp rfl rfl)) ?_
 refine st (v:=.pointer (some ⟨g,0 + 1,none⟩)) (fa98_1 (.tmp rfl rfl)) ?_
 refine st_m0 (sto4 (cs':=[.slice A n c,.bool true]) (i:=0 + 1) hs6 (v:=.bool true) (.tmp rfl rfl) .const rfl (Nat.le_of_ble_eq_true rfl) one1 rfl) ?_
 rintro w19 hs21
 refine c_nil (n_then (c_seq (c_region (st (v:=.int .u64 0) (x_assign .const) ?_))))
 refine c_nil (n_then (c_ret (leave_ret (res_one (v:=.int .u64 0) rfl (.mk rfl rfl)) ?_)))
 have hf:uscan 0 0 bs = none:=hu.trans (by first | (rw [uscan_get (by omega),if_pos (by omega)]) | (rw [List.drop_eq_nil_of_le (by omega)]; rfl))
 rw [rdU_none hf]
 exact ⟨_,_,_,rfl,hp,hs21⟩
 have hp18:¬ ((((bs.getD i 0:Nat):Int):Int) = 0):=of_decide_eq_false hc18
 refine c_cond_f (t:=false) (.tmp rfl (congrArg Value.bool hc18)) rfl ?_
 refine c_skip (n_then (c_seq (c_region (st (v:=.int .u64 ((a:Nat):Int)) (x_move (.tmp rfl hρ3)) ?_))))
 refine st (v:=.int .u8 ((bs.getD i 0:Nat):Int)) (x_move (.tmp rfl rfl)) ?_
 have hb22:((bs.getD i 0) &&& 127) < 256:=Nat.lt_of_le_of_lt Nat.and_le_left (hp.lt.getD _)
 refine st (v:=.int .u8 ((((bs.getD i 0) &&& 127):Nat):Int)) (x_and (k:=.u8) (m:=(bs.getD i 0)) (n:=127) rfl (.tmp rfl rfl) .const (show _ < 2 ^ 8 from (hp.lt.getD _)) (show _ < 2 ^ 8 from (by decide))) ?_
 have hb23:((bs.getD i 0) &&& 127) < 18446744073709551616:=Nat.lt_of_lt_of_le hb22 (by decide)
 refine st (v:=.int .u64 ((((bs.getD i 0) &&& 127):Nat):Int)) (x_conv (k:=.u8) (a:=((((bs.getD i 0) &&& 127):Nat):Int)) Try.underlying5 Try.underlying22 (.tmp rfl rfl) (wU rfl rfl hb23)) ?_
 refine st (v:=.int .i64 ((i:Nat):Int)) (x_move (.tmp rfl rfl)) ?_
 refine st (v:=.int .i64 (((7 * i):Nat):Int)) (x_mul (k:=.i64) (a:=7) (b:=((i:Nat):Int)) .const (.tmp rfl rfl) ((w64 (by omega) (by omega)).trans (by omega))) ?_
 have hb24:(((bs.getD i 0) &&& 127) * 2 ^ (7 * i) % 18446744073709551616) < 18446744073709551616:=Nat.mod_lt _ (by decide)
 refine st (v:=.int .u64 (((((bs.getD i 0) &&& 127) * 2 ^ (7 * i) % 18446744073709551616):Nat):Int)) (x_shl (k:=.u64) (m:=((bs.getD i 0) &&& 127)) (b:=(((7 * i):Nat):Int)) rfl (.tmp rfl rfl) (.tmp rfl rfl) (by omega)) ?_
 have hb25:(a ||| (((bs.getD i 0) &&& 127) * 2 ^ (7 * i) % 18446744073709551616)) < 18446744073709551616:=Nat.or_lt_two_pow (n:=64) ha hb24
 refine st (v:=.int .u64 (((a ||| (((bs.getD i 0) &&& 127) * 2 ^ (7 * i) % 18446744073709551616)):Nat):Int)) (x_or (k:=.u64) (m:=a) (n:=(((bs.getD i 0) &&& 127) * 2 ^ (7 * i) % 18446744073709551616)) rfl (.tmp rfl rfl) (.tmp rfl rfl) (show _ < 2 ^ 64 from ha) (show _ < 2 ^ 64 from hb24)) ?_
 refine st (v:=.int .u64 (((a ||| (((bs.getD i 0) &&& 127) * 2 ^ (7 * i) % 18446744073709551616)):Nat):Int)) (x_assign (.tmp rfl rfl)) ?_
 refine c_nil (n_then (c_seq (c_region (st (v:=.int .u8 ((bs.getD i 0:Nat):Int)) (x_move (.tmp rfl rfl)) ?_))))
 refine st (v:=.bool (decide ((((bs.getD i 0:Nat):Int):Int) < 128))) (x_lss (k:=.u8) (a:=((bs.getD i 0:Nat):Int)) (b:=128) (.tmp rfl rfl) .const) ?_
 refine c_nil (n_then ?_)
 rcases Bool.eq_false_or_eq_true (decide ((((bs.getD i 0:Nat):Int):Int) < 128)) with hc26 | hc26
 have hp26:(((bs.getD i 0:Nat):Int):Int) < 128:=of_decide_eq_true hc26
 refine c_cond_t (t:=true) (.tmp rfl (congrArg Value.bool hc26)) rfl ?_
 refine c_seq (c_region (st (v:=.pointer (some ⟨g,0,none⟩)) (x_move (.tmp rfl hρ2)) ?_))
 refine st (v:=.pointer (some ⟨g,0,none⟩)) (x_move (.tmp rfl hρ2)) ?_
 refine st (v:=.pointer (some ⟨g,0,none⟩)) (x_nilCheck (.tmp rfl rfl)) ?_
 refine st (v:=.pointer (some ⟨g,0 + 0,none⟩)) (fa98_0 (.tmp rfl rfl)) ?_
 refine st (v:=.slice A n c) (ld33 (.tmp rfl rfl) (hs6.cell 0 rfl (0 + 0) rfl)) ?_
 refine st (v:=.int .i64 ((i:Nat):Int)) (x_move (.tmp rfl rfl)) ?_
 refine st (v:=.int .i64 (((i + 1):Nat):Int)) (x_add (k:=.i64) (a:=((i:Nat):Int)) (b:=1) (.tmp rfl rfl) .const ((w64 (by omega) (by omega)).trans (by omega))) ?_
 have:=hp.le
 refine st (v:=.slice (cutA A c (i + 1) 1) (n - (i + 1)) (c - (i + 1))) (bs_l Try.underlying33 inf5 (a:=(((i + 1):Nat):Int)) (.tmp rfl rfl) (.tmp rfl rfl) (by omega) (by omega) (by omega)) ?_
 refine st (v:=.pointer (some ⟨g,0,none⟩)) (x_nilCheck (.tmp rfl rfl)) ?_
 refine st (v:=.pointer (some ⟨g,0 + 0,none⟩)) (fa98_0 (.tmp rfl rfl)) ?_
 refine st_m0 (sto33 (cs':=[.slice (cutA A c (i + 1) 1) (n - (i + 1)) (c - (i + 1)),.bool false]) (i:=0 + 0) hs6 (v:=.slice (cutA A c (i + 1) 1) (n - (i + 1)) (c - (i + 1))) (.tmp rfl rfl) (.tmp rfl rfl) rfl (Nat.le_of_ble_eq_true rfl) one1 rfl) ?_
 rintro w27 hs29
 refine c_nil (n_then (c_seq (c_region (st (v:=.int .u64 (((a ||| (((bs.getD i 0) &&& 127) * 2 ^ (7 * i) % 18446744073709551616)):Nat):Int)) (x_move (.tmp rfl rfl)) ?_))))
 refine st (v:=.int .u64 (((a ||| (((bs.getD i 0) &&& 127) * 2 ^ (7 * i) % 18446744073709551616)):Nat):Int)) (x_assign (.tmp rfl rfl)) ?_
 refine c_nil (n_then (c_ret (r_block (r_then (r_then (r_block (r_then (leave_ret (res_one (v:=.int .u64 (((a ||| (((bs.getD i 0) &&& 127) * 2 ^ (7 * i) % 18446744073709551616)):Nat):Int)) rfl (.mk rfl rfl)) ?_))))))))
 have hf:uscan 0 0 bs = some ((a ||| (((bs.getD i 0) &&& 127) * 2 ^ (7 * i) % 18446744073709551616)),bs.drop (i + 1)):=hu.trans (by rw [uscan_get (by omega),if_neg (by omega),if_pos (by omega)])
 rw [rdU_some hf]
 exact ⟨_,_,_,rfl,(hp.drop (k:=(i + 1)) (by omega)),hs29⟩
 have hp26:¬ ((((bs.getD i 0:Nat):Int):Int) < 128):=of_decide_eq_false hc26
 refine c_cond_f (t:=false) (.tmp rfl (congrArg Value.bool hc26)) rfl ?_
 refine c_skip (n_block (n_then (c_region (st (v:=.int .i64 (((i:Nat):Int) + 1)) (x_add (k:=.i64) (a:=((i:Nat):Int)) (b:=1) (.tmp rfl hρ5) .const (w64 (by omega) (by omega))) ?_))))
 refine st (v:=.int .i64 (((i:Nat):Int) + 1)) (x_move (.tmp rfl rfl)) ?_
 refine c_nil ?_
 refine n_then ⟨_,_,rfl,?_,(i + 1),(a ||| (((bs.getD i 0) &&& 127) * 2 ^ (7 * i) % 18446744073709551616)),hρ2,rfl,hρ4,rfl,(by omega),(by omega),hb25,(hu.trans (by rw [uscan_get (by omega),if_neg (by omega),if_neg (by omega)])),hs6,rfl⟩
 omega
 have hp17:¬ ((0:Int) < ((i:Nat):Int)):=of_decide_eq_false hc17
 refine g_no (yk 38 false rfl rfl hc17) rfl ?_
 refine g_no (yk 38 false rfl rfl hc17) rfl ?_
 refine g_yes (yk 35 false rfl rfl hc13) ?_
 refine st (v:=.bool false) (x_pick_f (.tmp rfl (congrArg Value.bool hc17)) .const) ?_
 refine st (v:=.bool false) (x_pick_f (.tmp rfl (congrArg Value.bool hc13)) (.tmp rfl rfl)) ?_
 refine c_nil (n_then (c_cond_f (t:=false) (.tmp rfl rfl) rfl ?_))
 refine c_skip (n_then (c_seq (c_region (st (v:=.int .u64 ((a:Nat):Int)) (x_move (.tmp rfl hρ3)) ?_))))
 refine st (v:=.int .u8 ((bs.getD i 0:Nat):Int)) (x_move (.tmp rfl rfl)) ?_
 have hb30:((bs.getD i 0) &&& 127) < 256:=Nat.lt_of_le_of_lt Nat.and_le_left (hp.lt.getD _)
 refine st (v:=.int .u8 ((((bs.getD i 0) &&& 127):Nat):Int)) (x_and (k:=.u8) (m:=(bs.getD i 0)) (n:=127) rfl (.tmp rfl rfl) .const (show _ < 2 ^ 8 from (hp.lt.getD _)) (show _ < 2 ^ 8 from (by decide))) ?_
 have hb31:((bs.getD i 0) &&& 127) < 18446744073709551616:=Nat.lt_of_lt_of_le hb30 (by decide)
 refine st (v:=.int .u64 ((((bs.getD i 0) &&& 127):Nat):Int)) (x_conv (k:=.u8) (a:=((((bs.getD i 0) &&& 127):Nat):Int)) Try.underlying5 Try.underlying22 (.tmp rfl rfl) (wU rfl rfl hb31)) ?_
 refine st (v:=.int .i64 ((i:Nat):Int)) (x_move (.tmp rfl rfl)) ?_
 refine st (v:=.int .i64 (((7 * i):Nat):Int)) (x_mul (k:=.i64) (a:=7) (b:=((i:Nat):Int)) .const (.tmp rfl rfl) ((w64 (by omega) (by omega)).trans (by omega))) ?_
 have hb32:(((bs.getD i 0) &&& 127) * 2 ^ (7 * i) % 18446744073709551616) < 18446744073709551616:=Nat.mod_lt _ (by decide)
 refine st (v:=.int .u64 (((((bs.getD i 0) &&& 127) * 2 ^ (7 * i) % 18446744073709551616):Nat):Int)) (x_shl (k:=.u64) (m:=((bs.getD i 0) &&& 127)) (b:=(((7 * i):Nat):Int)) rfl (.tmp rfl rfl) (.tmp rfl rfl) (by omega)) ?_
 have hb33:(a ||| (((bs.getD i 0) &&& 127) * 2 ^ (7 * i) % 18446744073709551616)) < 18446744073709551616:=Nat.or_lt_two_pow (n:=64) ha hb32
 refine st (v:=.int .u64 (((a ||| (((bs.getD i 0) &&& 127) * 2 ^ (7 * i) % 18446744073709551616)):Nat):Int)) (x_or (k:=.u64) (m:=a) (n:=(((bs.getD i 0) &&& 127) * 2 ^ (7 * i) % 18446744073709551616)) rfl (.tmp rfl rfl) (.tmp rfl rfl) (show _ < 2 ^ 64 from ha) (show _ < 2 ^ 64 from hb32)) ?_
 refine st (v:=.int .u64 (((a ||| (((bs.getD i 0) &&& 127) * 2 ^ (7 * i) % 18446744073709551616)):Nat):Int)) (x_assign (.tmp rfl rfl)) ?_
 refine c_nil (n_then (c_seq (c_region (st (v:=.int .u8 ((bs.getD i 0:Nat):Int)) (x_move (.tmp rfl rfl)) ?_))))
 refine st (v:=.bool (decide ((((bs.getD i 0:Nat):Int):Int) < 128))) (x_lss (k:=.u8) (a:=((bs.getD i 0:Nat):Int)) (b:=128) (.tmp rfl rfl) .const) ?_
 refine c_nil (n_then ?_)
 rcases Bool.eq_false_or_eq_true (decide ((((bs.getD i 0:Nat):Int):Int) < 128)) with hc34 | hc34
 have hp34:(((bs.getD i 0:Nat):Int):Int) < 128:=of_decide_eq_true hc34
 refine c_cond_t (t:=true) (.tmp rfl (congrArg Value.bool hc34)) rfl ?_
 refine c_seq (c_region (st (v:=.pointer (some ⟨g,0,none⟩)) (x_move (.tmp rfl hρ2)) ?_))
 refine st (v:=.pointer (some ⟨g,0,none⟩)) (x_move (.tmp rfl hρ2)) ?_
 refine st (v:=.pointer (some ⟨g,0,none⟩)) (x_nilCheck (.tmp rfl rfl)) ?_
 refine st (v:=.pointer (some ⟨g,0 + 0,none⟩)) (fa98_0 (.tmp rfl rfl)) ?_
 refine st (v:=.slice A n c) (ld33 (.tmp rfl rfl) (hs6.cell 0 rfl (0 + 0) rfl)) ?_
 refine st (v:=.int .i64 ((i:Nat):Int)) (x_move (.tmp rfl rfl)) ?_
 refine st (v:=.int .i64 (((i + 1):Nat):Int)) (x_add (k:=.i64) (a:=((i:Nat):Int)) (b:=1) (.tmp rfl rfl) .const ((w64 (by omega) (by omega)).trans (by omega))) ?_
 have:=hp.le
 refine st (v:=.slice (cutA A c (i + 1) 1) (n - (i + 1)) (c - (i + 1))) (bs_l Try.underlying33 inf5 (a:=(((i + 1):Nat):Int)) (.tmp rfl rfl) (.tmp rfl rfl) (by omega) (by omega) (by omega)) ?_
 refine st (v:=.pointer (some ⟨g,0,none⟩)) (x_nilCheck (.tmp rfl rfl)) ?_
 refine st (v:=.pointer (some ⟨g,0 + 0,none⟩)) (fa98_0 (.tmp rfl rfl)) ?_
 refine st_m0 (sto33 (cs':=[.slice (cutA A c (i + 1) 1) (n - (i + 1)) (c - (i + 1)),.bool false]) (i:=0 + 0) hs6 (v:=.slice (cutA A c (i + 1) 1) (n - (i + 1)) (c - (i + 1))) (.tmp rfl rfl) (.tmp rfl rfl) rfl (Nat.le_of_ble_eq_true rfl) one1 rfl) ?_
 rintro w35 hs37
 refine c_nil (n_then (c_seq (c_region (st (v:=.int .u64 (((a ||| (((bs.getD i 0) &&& 127) * 2 ^ (7 * i) % 18446744073709551616)):Nat):Int)) (x_move (.tmp rfl rfl)) ?_))))
 refine st (v:=.int .u64 (((a ||| (((bs.getD i 0) &&& 127) * 2 ^ (7 * i) % 18446744073709551616)):Nat):Int)) (x_assign (.tmp rfl rfl)) ?_
 refine c_nil (n_then (c_ret (r_block (r_then (r_then (r_block (r_then (leave_ret (res_one (v:=.int .u64 (((a ||| (((bs.getD i 0) &&& 127) * 2 ^ (7 * i) % 18446744073709551616)):Nat):Int)) rfl (.mk rfl rfl)) ?_))))))))
 have hf:uscan 0 0 bs = some ((a ||| (((bs.getD i 0) &&& 127) * 2 ^ (7 * i) % 18446744073709551616)),bs.drop (i + 1)):=hu.trans (by rw [uscan_get (by omega),if_neg (by omega),if_pos (by omega)])
 rw [rdU_some hf]
 exact ⟨_,_,_,rfl,(hp.drop (k:=(i + 1)) (by omega)),hs37⟩
 have hp34:¬ ((((bs.getD i 0:Nat):Int):Int) < 128):=of_decide_eq_false hc34
 refine c_cond_f (t:=false) (.tmp rfl (congrArg Value.bool hc34)) rfl ?_
 refine c_skip (n_block (n_then (c_region (st (v:=.int .i64 (((i:Nat):Int) + 1)) (x_add (k:=.i64) (a:=((i:Nat):Int)) (b:=1) (.tmp rfl hρ5) .const (w64 (by omega) (by omega))) ?_))))
 refine st (v:=.int .i64 (((i:Nat):Int) + 1)) (x_move (.tmp rfl rfl)) ?_
 refine c_nil ?_
 refine n_then ⟨_,_,rfl,?_,(i + 1),(a ||| (((bs.getD i 0) &&& 127) * 2 ^ (7 * i) % 18446744073709551616)),hρ2,rfl,hρ4,rfl,(by omega),(by omega),hb33,(hu.trans (by rw [uscan_get (by omega),if_neg (by omega),if_neg (by omega)])),hs6,rfl⟩
 omega
 have hp12:¬ ((((i:Nat):Int):Int) = 9):=of_decide_eq_false hc12
 refine g_no (yk 31 false rfl rfl hc12) rfl ?_
 refine g_no (yk 31 false rfl rfl hc12) rfl ?_
 refine st (v:=.bool false) (x_pick_f (.tmp rfl (congrArg Value.bool hc12)) .const) ?_
 refine st (v:=.bool false) (x_move (.tmp rfl rfl)) ?_
 refine g_yes (yl (dj:=35) (b:=false) rfl rfl rfl) ?_
 refine st (v:=.int .i64 ((i:Nat):Int)) (x_move (.tmp rfl rfl)) ?_
 refine g_yes (yl (dj:=35) (b:=false) rfl rfl rfl) ?_
 refine st (v:=.bool (decide ((0:Int) < ((i:Nat):Int)))) (x_gtr (k:=.i64) (a:=((i:Nat):Int)) (b:=0) (.tmp rfl rfl) .const) ?_
 refine g_yes (yl (dj:=35) (b:=false) rfl rfl rfl) ?_
 refine st (v:=.bool (decide ((0:Int) < ((i:Nat):Int)))) (x_move (.tmp rfl rfl)) ?_
 rcases Bool.eq_false_or_eq_true (decide ((0:Int) < ((i:Nat):Int))) with hc38 | hc38
 have hp38:(0:Int) < ((i:Nat):Int):=of_decide_eq_true hc38
 refine g_yes (yk 38 true rfl rfl hc38) ?_
 refine st (v:=.int .u8 ((bs.getD i 0:Nat):Int)) (x_move (.tmp rfl rfl)) ?_
 refine g_yes (yk 38 true rfl rfl hc38) ?_
 refine st (v:=.bool (decide ((((bs.getD i 0:Nat):Int):Int) = 0))) (x_eql (k:=.u8) (a:=((bs.getD i 0:Nat):Int)) (b:=0) (.tmp rfl rfl) .const) ?_
 refine g_yes (yl (dj:=35) (b:=false) rfl rfl rfl) ?_
 refine st (v:=.bool (decide ((((bs.getD i 0:Nat):Int):Int) = 0))) (x_pick_t (.tmp rfl (congrArg Value.bool hc38)) (.tmp rfl rfl)) ?_
 refine st (v:=.bool (decide ((((bs.getD i 0:Nat):Int):Int) = 0))) (x_pick_f (.tmp rfl rfl) (.tmp rfl rfl)) ?_
 refine c_nil (n_then ?_)
 rcases Bool.eq_false_or_eq_true (decide ((((bs.getD i 0:Nat):Int):Int) = 0)) with hc39 | hc39
 have hp39:(((bs.getD i 0:Nat):Int):Int) = 0:=of_decide_eq_true hc39
 refine c_cond_t (t:=true) (.tmp rfl (congrArg Value.bool hc39)) rfl ?_
 refine c_exit (x_then (x_block rfl (x_then (x_then (x_here (n_then (c_seq (c_region (st (v:=.pointer (some ⟨g,0,none⟩)) (x_move (.tmp rfl hρ2)) ?_)))))))))
 refine st (v:=.pointer (some ⟨g,0,none⟩)) (x_nilCheck (.tmp rfl rfl)) ?_
 refine st (v:=.pointer (some ⟨g,0 + 1,none⟩)) (fa98_1 (.tmp rfl rfl)) ?_
 refine st_m0 (sto4 (cs':=[.slice A n c,.bool true]) (i:=0 + 1) hs6 (v:=.bool true) (.tmp rfl rfl) .const rfl (Nat.le_of_ble_eq_true rfl) one1 rfl) ?_
 rintro w40 hs42
 refine c_nil (n_then (c_seq (c_region (st (v:=.int .u64 0) (x_assign .const) ?_))))
 refine c_nil (n_then (c_ret (leave_ret (res_one (v:=.int .u64 0) rfl (.mk rfl rfl)) ?_)))
 have hf:uscan 0 0 bs = none:=hu.trans (by first | (rw [uscan_get (by omega),if_pos (by omega)]) | (rw [List.drop_eq_nil_of_le (by omega)]; rfl))
 rw [rdU_none hf]
 exact ⟨_,_,_,rfl,hp,hs42⟩
 have hp39:¬ ((((bs.getD i 0:Nat):Int):Int) = 0):=of_decide_eq_false hc39
 refine c_cond_f (t:=false) (.tmp rfl (congrArg Value.bool hc39)) rfl ?_
 refine c_skip (n_then (c_seq (c_region (st (v:=.int .u64 ((a:Nat):Int)) (x_move (.tmp rfl hρ3)) ?_))))
 refine st (v:=.int .u8 ((bs.getD i 0:Nat):Int)) (x_move (.tmp rfl rfl)) ?_
 have hb43:((bs.getD i 0) &&& 127) < 256:=Nat.lt_of_le_of_lt Nat.and_le_left (hp.lt.getD _)
 refine st (v:=.int .u8 ((((bs.getD i 0) &&& 127):Nat):Int)) (x_and (k:=.u8) (m:=(bs.getD i 0)) (n:=127) rfl (.tmp rfl rfl) .const (show _ < 2 ^ 8 from (hp.lt.getD _)) (show _ < 2 ^ 8 from (by decide))) ?_
 have hb44:((bs.getD i 0) &&& 127) < 18446744073709551616:=Nat.lt_of_lt_of_le hb43 (by decide)
 refine st (v:=.int .u64 ((((bs.getD i 0) &&& 127):Nat):Int)) (x_conv (k:=.u8) (a:=((((bs.getD i 0) &&& 127):Nat):Int)) Try.underlying5 Try.underlying22 (.tmp rfl rfl) (wU rfl rfl hb44)) ?_
 refine st (v:=.int .i64 ((i:Nat):Int)) (x_move (.tmp rfl rfl)) ?_
 refine st (v:=.int .i64 (((7 * i):Nat):Int)) (x_mul (k:=.i64) (a:=7) (b:=((i:Nat):Int)) .const (.tmp rfl rfl) ((w64 (by omega) (by omega)).trans (by omega))) ?_
 have hb45:(((bs.getD i 0) &&& 127) * 2 ^ (7 * i) % 18446744073709551616) < 18446744073709551616:=Nat.mod_lt _ (by decide)
 refine st (v:=.int .u64 (((((bs.getD i 0) &&& 127) * 2 ^ (7 * i) % 18446744073709551616):Nat):Int)) (x_shl (k:=.u64) (m:=((bs.getD i 0) &&& 127)) (b:=(((7 * i):Nat):Int)) rfl (.tmp rfl rfl) (.tmp rfl rfl) (by omega)) ?_
 have hb46:(a ||| (((bs.getD i 0) &&& 127) * 2 ^ (7 * i) % 18446744073709551616)) < 18446744073709551616:=Nat.or_lt_two_pow (n:=64) ha hb45
 refine st (v:=.int .u64 (((a ||| (((bs.getD i 0) &&& 127) * 2 ^ (7 * i) % 18446744073709551616)):Nat):Int)) (x_or (k:=.u64) (m:=a) (n:=(((bs.getD i 0) &&& 127) * 2 ^ (7 * i) % 18446744073709551616)) rfl (.tmp rfl rfl) (.tmp rfl rfl) (show _ < 2 ^ 64 from ha) (show _ < 2 ^ 64 from hb45)) ?_
 refine st (v:=.int .u64 (((a ||| (((bs.getD i 0) &&& 127) * 2 ^ (7 * i) % 18446744073709551616)):Nat):Int)) (x_assign (.tmp rfl rfl)) ?_
 refine c_nil (n_then (c_seq (c_region (st (v:=.int .u8 ((bs.getD i 0:Nat):Int)) (x_move (.tmp rfl rfl)) ?_))))
 refine st (v:=.bool (decide ((((bs.getD i 0:Nat):Int):Int) < 128))) (x_lss (k:=.u8) (a:=((bs.getD i 0:Nat):Int)) (b:=128) (.tmp rfl rfl) .const) ?_
 refine c_nil (n_then ?_)
 rcases Bool.eq_false_or_eq_true (decide ((((bs.getD i 0:Nat):Int):Int) < 128)) with hc47 | hc47
 have hp47:(((bs.getD i 0:Nat):Int):Int) < 128:=of_decide_eq_true hc47
 refine c_cond_t (t:=true) (.tmp rfl (congrArg Value.bool hc47)) rfl ?_
 refine c_seq (c_region (st (v:=.pointer (some ⟨g,0,none⟩)) (x_move (.tmp rfl hρ2)) ?_))
 refine st (v:=.pointer (some ⟨g,0,none⟩)) (x_move (.tmp rfl hρ2)) ?_
 refine st (v:=.pointer (some ⟨g,0,none⟩)) (x_nilCheck (.tmp rfl rfl)) ?_
 refine st (v:=.pointer (some ⟨g,0 + 0,none⟩)) (fa98_0 (.tmp rfl rfl)) ?_
 refine st (v:=.slice A n c) (ld33 (.tmp rfl rfl) (hs6.cell 0 rfl (0 + 0) rfl)) ?_
 refine st (v:=.int .i64 ((i:Nat):Int)) (x_move (.tmp rfl rfl)) ?_
 refine st (v:=.int .i64 (((i + 1):Nat):Int)) (x_add (k:=.i64) (a:=((i:Nat):Int)) (b:=1) (.tmp rfl rfl) .const ((w64 (by omega) (by omega)).trans (by omega))) ?_
 have:=hp.le
 refine st (v:=.slice (cutA A c (i + 1) 1) (n - (i + 1)) (c - (i + 1))) (bs_l Try.underlying33 inf5 (a:=(((i + 1):Nat):Int)) (.tmp rfl rfl) (.tmp rfl rfl) (by omega) (by omega) (by omega)) ?_
 refine st (v:=.pointer (some ⟨g,0,none⟩)) (x_nilCheck (.tmp rfl rfl)) ?_
 refine st (v:=.pointer (some ⟨g,0 + 0,none⟩)) (fa98_0 (.tmp rfl rfl)) ?_
 refine st_m0 (sto33 (cs':=[.slice (cutA A c (i + 1) 1) (n - (i + 1)) (c - (i + 1)),.bool false]) (i:=0 + 0) hs6 (v:=.slice (cutA A c (i + 1) 1) (n - (i + 1)) (c - (i + 1))) (.tmp rfl rfl) (.tmp rfl rfl) rfl (Nat.le_of_ble_eq_true rfl) one1 rfl) ?_
 rintro w48 hs50
 refine c_nil (n_then (c_seq (c_region (st (v:=.int .u64 (((a ||| (((bs.getD i 0) &&& 127) * 2 ^ (7 * i) % 18446744073709551616)):Nat):Int)) (x_move (.tmp rfl rfl)) ?_))))
 refine st (v:=.int .u64 (((a ||| (((bs.getD i 0) &&& 127) * 2 ^ (7 * i) % 18446744073709551616)):Nat):Int)) (x_assign (.tmp rfl rfl)) ?_
 refine c_nil (n_then (c_ret (r_block (r_then (r_then (r_block (r_then (leave_ret (res_one (v:=.int .u64 (((a ||| (((bs.getD i 0) &&& 127) * 2 ^ (7 * i) % 18446744073709551616)):Nat):Int)) rfl (.mk rfl rfl)) ?_))))))))
 have hf:uscan 0 0 bs = some ((a ||| (((bs.getD i 0) &&& 127) * 2 ^ (7 * i) % 18446744073709551616)),bs.drop (i + 1)):=hu.trans (by rw [uscan_get (by omega),if_neg (by omega),if_pos (by omega)])
 rw [rdU_some hf]
 exact ⟨_,_,_,rfl,(hp.drop (k:=(i + 1)) (by omega)),hs50⟩
 have hp47:¬ ((((bs.getD i 0:Nat):Int):Int) < 128):=of_decide_eq_false hc47
 refine c_cond_f (t:=false) (.tmp rfl (congrArg Value.bool hc47)) rfl ?_
 refine c_skip (n_block (n_then (c_region (st (v:=.int .i64 (((i:Nat):Int) + 1)) (x_add (k:=.i64) (a:=((i:Nat):Int)) (b:=1) (.tmp rfl hρ5) .const (w64 (by omega) (by omega))) ?_))))
 refine st (v:=.int .i64 (((i:Nat):Int) + 1)) (x_move (.tmp rfl rfl)) ?_
 refine c_nil ?_
 refine n_then ⟨_,_,rfl,?_,(i + 1),(a ||| (((bs.getD i 0) &&& 127) * 2 ^ (7 * i) % 18446744073709551616)),hρ2,rfl,hρ4,rfl,(by omega),(by omega),hb46,(hu.trans (by rw [uscan_get (by omega),if_neg (by omega),if_neg (by omega)])),hs6,rfl⟩
 omega
 have hp38:¬ ((0:Int) < ((i:Nat):Int)):=of_decide_eq_false hc38
 refine g_no (yk 38 false rfl rfl hc38) rfl ?_
 refine g_no (yk 38 false rfl rfl hc38) rfl ?_
 refine g_yes (yl (dj:=35) (b:=false) rfl rfl rfl) ?_
 refine st (v:=.bool false) (x_pick_f (.tmp rfl (congrArg Value.bool hc38)) .const) ?_
 refine st (v:=.bool false) (x_pick_f (.tmp rfl rfl) (.tmp rfl rfl)) ?_
 refine c_nil (n_then (c_cond_f (t:=false) (.tmp rfl rfl) rfl ?_))
 refine c_skip (n_then (c_seq (c_region (st (v:=.int .u64 ((a:Nat):Int)) (x_move (.tmp rfl hρ3)) ?_))))
 refine st (v:=.int .u8 ((bs.getD i 0:Nat):Int)) (x_move (.tmp rfl rfl)) ?_
 have hb51:((bs.getD i 0) &&& 127) < 256:=Nat.lt_of_le_of_lt Nat.and_le_left (hp.lt.getD _)
 refine st (v:=.int .u8 ((((bs.getD i 0) &&& 127):Nat):Int)) (x_and (k:=.u8) (m:=(bs.getD i 0)) (n:=127) rfl (.tmp rfl rfl) .const (show _ < 2 ^ 8 from (hp.lt.getD _)) (show _ < 2 ^ 8 from (by decide))) ?_
 have hb52:((bs.getD i 0) &&& 127) < 18446744073709551616:=Nat.lt_of_lt_of_le hb51 (by decide)
 refine st (v:=.int .u64 ((((bs.getD i 0) &&& 127):Nat):Int)) (x_conv (k:=.u8) (a:=((((bs.getD i 0) &&& 127):Nat):Int)) Try.underlying5 Try.underlying22 (.tmp rfl rfl) (wU rfl rfl hb52)) ?_
 refine st (v:=.int .i64 ((i:Nat):Int)) (x_move (.tmp rfl rfl)) ?_
 refine st (v:=.int .i64 (((7 * i):Nat):Int)) (x_mul (k:=.i64) (a:=7) (b:=((i:Nat):Int)) .const (.tmp rfl rfl) ((w64 (by omega) (by omega)).trans (by omega))) ?_
 have hb53:(((bs.getD i 0) &&& 127) * 2 ^ (7 * i) % 18446744073709551616) < 18446744073709551616:=Nat.mod_lt _ (by decide)
 refine st (v:=.int .u64 (((((bs.getD i 0) &&& 127) * 2 ^ (7 * i) % 18446744073709551616):Nat):Int)) (x_shl (k:=.u64) (m:=((bs.getD i 0) &&& 127)) (b:=(((7 * i):Nat):Int)) rfl (.tmp rfl rfl) (.tmp rfl rfl) (by omega)) ?_
 have hb54:(a ||| (((bs.getD i 0) &&& 127) * 2 ^ (7 * i) % 18446744073709551616)) < 18446744073709551616:=Nat.or_lt_two_pow (n:=64) ha hb53
 refine st (v:=.int .u64 (((a ||| (((bs.getD i 0) &&& 127) * 2 ^ (7 * i) % 18446744073709551616)):Nat):Int)) (x_or (k:=.u64) (m:=a) (n:=(((bs.getD i 0) &&& 127) * 2 ^ (7 * i) % 18446744073709551616)) rfl (.tmp rfl rfl) (.tmp rfl rfl) (show _ < 2 ^ 64 from ha) (show _ < 2 ^ 64 from hb53)) ?_
 refine st (v:=.int .u64 (((a ||| (((bs.getD i 0) &&& 127) * 2 ^ (7 * i) % 18446744073709551616)):Nat):Int)) (x_assign (.tmp rfl rfl)) ?_
 refine c_nil (n_then (c_seq (c_region (st (v:=.int .u8 ((bs.getD i 0:Nat):Int)) (x_move (.tmp rfl rfl)) ?_))))
 refine st (v:=.bool (decide ((((bs.getD i 0:Nat):Int):Int) < 128))) (x_lss (k:=.u8) (a:=((bs.getD i 0:Nat):Int)) (b:=128) (.tmp rfl rfl) .const) ?_
 refine c_nil (n_then ?_)
 rcases Bool.eq_false_or_eq_true (decide ((((bs.getD i 0:Nat):Int):Int) < 128)) with hc55 | hc55
 have hp55:(((bs.getD i 0:Nat):Int):Int) < 128:=of_decide_eq_true hc55
 refine c_cond_t (t:=true) (.tmp rfl (congrArg Value.bool hc55)) rfl ?_
 refine c_seq (c_region (st (v:=.pointer (some ⟨g,0,none⟩)) (x_move (.tmp rfl hρ2)) ?_))
 refine st (v:=.pointer (some ⟨g,0,none⟩)) (x_move (.tmp rfl hρ2)) ?_
 refine st (v:=.pointer (some ⟨g,0,none⟩)) (x_nilCheck (.tmp rfl rfl)) ?_
 refine st (v:=.pointer (some ⟨g,0 + 0,none⟩)) (fa98_0 (.tmp rfl rfl)) ?_
 refine st (v:=.slice A n c) (ld33 (.tmp rfl rfl) (hs6.cell 0 rfl (0 + 0) rfl)) ?_
 refine st (v:=.int .i64 ((i:Nat):Int)) (x_move (.tmp rfl rfl)) ?_
 refine st (v:=.int .i64 (((i + 1):Nat):Int)) (x_add (k:=.i64) (a:=((i:Nat):Int)) (b:=1) (.tmp rfl rfl) .const ((w64 (by omega) (by omega)).trans (by omega))) ?_
 have:=hp.le
 refine st (v:=.slice (cutA A c (i + 1) 1) (n - (i + 1)) (c - (i + 1))) (bs_l Try.underlying33 inf5 (a:=(((i + 1):Nat):Int)) (.tmp rfl rfl) (.tmp rfl rfl) (by omega) (by omega) (by omega)) ?_
 refine st (v:=.pointer (some ⟨g,0,none⟩)) (x_nilCheck (.tmp rfl rfl)) ?_
 refine st (v:=.pointer (some ⟨g,0 + 0,none⟩)) (fa98_0 (.tmp rfl rfl)) ?_
 refine st_m0 (sto33 (cs':=[.slice (cutA A c (i + 1) 1) (n - (i + 1)) (c - (i + 1)),.bool false]) (i:=0 + 0) hs6 (v:=.slice (cutA A c (i + 1) 1) (n - (i + 1)) (c - (i + 1))) (.tmp rfl rfl) (.tmp rfl rfl) rfl (Nat.le_of_ble_eq_true rfl) one1 rfl) ?_
 rintro w56 hs58
 refine c_nil (n_then (c_seq (c_region (st (v:=.int .u64 (((a ||| (((bs.getD i 0) &&& 127) * 2 ^ (7 * i) % 18446744073709551616)):Nat):Int)) (x_move (.tmp rfl rfl)) ?_))))
 refine st (v:=.int .u64 (((a ||| (((bs.getD i 0) &&& 127) * 2 ^ (7 * i) % 18446744073709551616)):Nat):Int)) (x_assign (.tmp rfl rfl)) ?_
 refine c_nil (n_then (c_ret (r_block (r_then (r_then (r_block (r_then (leave_ret (res_one (v:=.int .u64 (((a ||| (((bs.getD i 0) &&& 127) * 2 ^ (7 * i) % 18446744073709551616)):Nat):Int)) rfl (.mk rfl rfl)) ?_))))))))
 have hf:uscan 0 0 bs = some ((a ||| (((bs.getD i 0) &&& 127) * 2 ^ (7 * i) % 18446744073709551616)),bs.drop (i + 1)):=hu.trans (by rw [uscan_get (by omega),if_neg (by omega),if_pos (by omega)])
 rw [rdU_some hf]
 exact ⟨_,_,_,rfl,(hp.drop (k:=(i + 1)) (by omega)),hs58⟩
 have hp55:¬ ((((bs.getD i 0:Nat):Int):Int) < 128):=of_decide_eq_false hc55
 refine c_cond_f (t:=false) (.tmp rfl (congrArg Value.bool hc55)) rfl ?_
 refine c_skip (n_block (n_then (c_region (st (v:=.int .i64 (((i:Nat):Int) + 1)) (x_add (k:=.i64) (a:=((i:Nat):Int)) (b:=1) (.tmp rfl hρ5) .const (w64 (by omega) (by omega))) ?_))))
 refine st (v:=.int .i64 (((i:Nat):Int) + 1)) (x_move (.tmp rfl rfl)) ?_
 refine c_nil ?_
 refine n_then ⟨_,_,rfl,?_,(i + 1),(a ||| (((bs.getD i 0) &&& 127) * 2 ^ (7 * i) % 18446744073709551616)),hρ2,rfl,hρ4,rfl,(by omega),(by omega),hb54,(hu.trans (by rw [uscan_get (by omega),if_neg (by omega),if_neg (by omega)])),hs6,rfl⟩
 omega
 have hp7:¬ ((((i:Nat):Int):Int) < ((n:Nat):Int)):=of_decide_eq_false hc7
 refine c_cond_f (t:=false) (.tmp rfl (congrArg Value.bool hc7)) rfl ?_
 refine c_exit (x_then (x_then (x_here (n_then (c_seq (c_region (st (v:=.pointer (some ⟨g,0,none⟩)) (x_move (.tmp rfl hρ2)) ?_)))))))
 refine st (v:=.pointer (some ⟨g,0,none⟩)) (x_nilCheck (.tmp rfl rfl)) ?_
 refine st (v:=.pointer (some ⟨g,0 + 1,none⟩)) (fa98_1 (.tmp rfl rfl)) ?_
 refine st_m0 (sto4 (cs':=[.slice A n c,.bool true]) (i:=0 + 1) hs6 (v:=.bool true) (.tmp rfl rfl) .const rfl (Nat.le_of_ble_eq_true rfl) one1 rfl) ?_
 rintro w59 hs61
 refine c_nil (n_then (c_seq (c_region (st (v:=.int .u64 0) (x_assign .const) ?_))))
 refine c_nil (n_then (c_ret (leave_ret (res_one (v:=.int .u64 0) rfl (.mk rfl rfl)) ?_)))
 have hf:uscan 0 0 bs = none:=hu.trans (by first | (rw [uscan_get (by omega),if_pos (by omega)]) | (rw [List.drop_eq_nil_of_le (by omega)]; rfl))
 rw [rdU_none hf]
 exact ⟨_,_,_,rfl,hp,hs61⟩
theorem uint_own {H:Hp} {w:World} {L:List Res} {g:Nat} {A:Option Addr} {n c:Nat} {bs:List Nat} (hp:Bs H A n c bs) (b:Bool) (hs:St H w (obj g 98 [.slice A n c,.bool b]::L)):Calls Try.prog 36 #[(.pointer (some ⟨g,0,none⟩))] w (fun e w' => ∃ A' n' c',e = .returned (.int .u64 (((rdU bs b).1:Nat):Int))∧Bs H A' n' c' (rdU bs b).2.1∧St H w' (obj g 98 [.slice A' n' c',.bool (rdU bs b).2.2]::L)):=by
  cases b
  · exact uint_false hp hs
  · exact uint_true hp hs
end Go.Proofs.Ytlfihfmmhhcigaa

set_option linter.unusedVariables false
set_option linter.unusedSimpArgs false
namespace Go.Proofs.Ytlfihfmmhhcigaa
open Go Go.FM Go.Proofs
attribute [local irreducible] wpList wpQuiet wpS Code.wp Calls
set_option maxHeartbeats 8000000 in
theorem ruintf_spec {H:Hp} {w:World} {L:List Res} (hs:St H w L) (m:Nat) (b_m:m < 18446744073709551616):Calls Try.prog 42 #[.int .u64 ((m:Nat):Int)] w (fun e w' => ∃ v',e = .returned v'∧RowOk 1 v' (uenc m).length ((uenc m).map encB)∧St H w' (row 5 1 v' (uenc m).length ((uenc m).map encB)::L)):=by
 refine enter (args:=[.int .u64 ((m:Nat):Int)]) (N:=20) Try.func42 rfl rfl rfl ?_
 have h10:=uenc_len10 b_m
 refine c_seq (c_region (st (v:=.slice none 0 0) (x_assign .const) ?_))
 refine c_nil (n_then (c_seq (c_region (st (v:=.slice none 0 0) (x_assign .const) ?_))))
 refine c_nil (n_then (c_seq (c_block ?_)))
 have hs0:=hs.rowNil 5 1
 refine c_loop (fun ρ w mm => ∃ (r:Nat) (u:Value) (k:Nat) (q:List Nat),ρ 0 = .int .u64 ((r:Nat):Int)∧ρ 3 = u∧(r < 18446744073709551616)∧(uenc m = q ++ uenc r)∧(k + (uenc r).length = (uenc m).length)∧(Small q)∧(RowOk 1 u k (q.map encB))∧St H w (row 5 1 u k (q.map encB)::L)∧mm = r + 1) _ ⟨m,(.slice none 0 0),0,[],rfl,rfl,b_m,rfl,(by omega),Small.nil,(RowOk.nil 1),hs0,rfl⟩ ?_
 rintro ρ w mm ⟨r,u,k,q,hρ2,hρ3,hr,hm,hk,hq,ok2,hs4,rfl⟩
 refine c_seq (c_seq (c_region (st (v:=.int .u64 ((r:Nat):Int)) (x_move (.tmp rfl hρ2)) ?_)))
 refine st (v:=.bool (decide ((127:Int) < ((r:Nat):Int)))) (x_gtr (k:=.u64) (a:=((r:Nat):Int)) (b:=127) (.tmp rfl rfl) .const) ?_
 refine c_nil (n_then ?_)
 rcases Bool.eq_false_or_eq_true (decide ((127:Int) < ((r:Nat):Int))) with hc5 | hc5
 have hp5:(127:Int) < ((r:Nat):Int):=of_decide_eq_true hc5
 refine c_cond_t (t:=true) (.tmp rfl (congrArg Value.bool hc5)) rfl ?_
 refine c_skip (n_then (c_block (c_seq (c_region ?_))))
 have hb1:¬ r < 128:=by omega
 have hk1:(uenc r).length = (uenc (r / 128)).length + 1:=by rw [uenc_big hb1]; rfl
 have hb2:r / 128 < r:=by omega
 refine st (v:=u) (x_move (.tmp rfl hρ3)) ?_
 refine st (v:=.int .u64 ((r:Nat):Int)) (x_move (.tmp rfl hρ2)) ?_
 refine st (v:=.int .u64 (((r % 128):Nat):Int)) (x_remN (k:=.u64) (m:=r) (n:=128) (.tmp rfl rfl) .const (by omega)) ?_
 refine st (v:=.int .u8 ((((r % 128) % 256):Nat):Int)) (x_conv (k:=.u64) (a:=(((r % 128):Nat):Int)) Try.underlying22 Try.underlying5 (.tmp rfl rfl) (wrapN _ rfl _)) ?_
 have hb6:(((r % 128) % 256) + 128) < 256:=by omega
 refine st (v:=.int .u8 (((((r % 128) % 256) + 128):Nat):Int)) (x_add (k:=.u8) (a:=((((r % 128) % 256):Nat):Int)) (b:=128) (.tmp rfl rfl) .const (wU rfl (by omega) hb6)) ?_
 refine st_m (m_lit (n:=1) (ps:=[(0,.int .u8 (((((r % 128) % 256) + 128):Nat):Int))]) (cs:=[.int .u8 (((((r % 128) % 256) + 128):Nat):Int)]) Try.underlying33 inf5 (.cons (.tmp rfl rfl) Evp.nil) (by decide) (by decide) rfl rfl hs4) ?_
 rintro _ w8 ⟨g7,rfl,hs10⟩
 have hs11:=hs10.p1
 refine st_m (m_appAt (bs:=[(((r % 128) % 256) + 128)]) Try.underlying33 inf5 hs11 ok2 (.tmp rfl rfl) (.tmp rfl rfl) rfl (hs11.at_ 1 rfl 0 rfl) (by omega)) ?_
 rintro v12 w13 ⟨ok14,hs15⟩
 refine st (v:=v12) (x_assign (.tmp rfl rfl)) ?_
 refine c_nil (n_then (c_region (st (v:=.int .u64 ((r:Nat):Int)) (x_move (.tmp rfl hρ2)) ?_)))
 refine st (v:=.int .u64 (((r / 128):Nat):Int)) (x_quoN (k:=.u64) (m:=r) (n:=128) (.tmp rfl rfl) .const (by omega) (.inr ⟨rfl,show _ < 2 ^ 64 from hr⟩)) ?_
 refine st (v:=.int .u64 (((r / 128):Nat):Int)) (x_assign (.tmp rfl rfl)) ?_
 refine c_nil (n_block ?_)
 have e7:r % 128 % 256 + 128 = r % 128 + 128:=by omega
 refine n_then ⟨_,_,rfl,?_,(r / 128),v12,(k + 1),(q ++ [(((r % 128) % 256) + 128)]),rfl,rfl,(Nat.lt_of_le_of_lt (Nat.div_le_self _ _) hr),(by rw [uenc_big hb1] at hm; rw [hm,e7]; simp),(by have:=hk1; omega),(hq.append (Small.cons hb6 Small.nil)),ok14,(hs15.p1).drop,rfl⟩
 exact Nat.succ_lt_succ hb2
 have hp5:¬ ((127:Int) < ((r:Nat):Int)):=of_decide_eq_false hc5
 refine c_cond_f (t:=false) (.tmp rfl (congrArg Value.bool hc5)) rfl ?_
 refine c_exit (x_then (x_then (x_here (n_then (c_seq (c_region ?_))))))
 have hb1:r < 128:=by omega
 have hk1:(uenc r).length = 1:=by rw [uenc_one hb1]; rfl
 refine st (v:=u) (x_move (.tmp rfl hρ3)) ?_
 refine st (v:=.int .u64 ((r:Nat):Int)) (x_move (.tmp rfl hρ2)) ?_
 refine st (v:=.int .u8 (((r % 256):Nat):Int)) (x_conv (k:=.u64) (a:=((r:Nat):Int)) Try.underlying22 Try.underlying5 (.tmp rfl rfl) (wrapN _ rfl _)) ?_
 refine st_m (m_lit (n:=1) (ps:=[(0,.int .u8 (((r % 256):Nat):Int))]) (cs:=[.int .u8 (((r % 256):Nat):Int)]) Try.underlying33 inf5 (.cons (.tmp rfl rfl) Evp.nil) (by decide) (by decide) rfl rfl hs4) ?_
 rintro _ w17 ⟨g16,rfl,hs19⟩
 have hs20:=hs19.p1
 refine st_m (m_appAt (bs:=[(r % 256)]) Try.underlying33 inf5 hs20 ok2 (.tmp rfl rfl) (.tmp rfl rfl) rfl (hs20.at_ 1 rfl 0 rfl) (by omega)) ?_
 rintro v21 w22 ⟨ok23,hs24⟩
 refine st (v:=v21) (x_assign (.tmp rfl rfl)) ?_
 refine c_nil (n_then (c_ret (leave_ret (res_one (v:=v21) rfl (.mk rfl rfl)) ?_)))
 have hmod:r % 256 = r:=by omega
 have e1:uenc m = q ++ [r % 256]:=by rw [hm,uenc_one hb1,hmod]
 have e2:(uenc m).length = k + 1:=by omega
 rw [e2,e1]
 exact ⟨_,rfl,ok23,(hs24.p1).drop⟩
end Go.Proofs.Ytlfihfmmhhcigaa

set_option linter.unusedVariables false
set_option linter.unusedSimpArgs false
namespace Go.Proofs.Ytlfihfmmhhcigaa
open Go Go.FM Go.Proofs
attribute [local irreducible] wpList wpQuiet wpS Code.wp Calls
set_option maxHeartbeats 8000000 in
theorem fail_own {H:Hp} {w:World} {L:List Res} {g:Nat} {A:Option Addr} {n c:Nat} {b:Bool} (hs:St H w (obj g 98 [.slice A n c,.bool b]::L)):Calls Try.prog 60 #[.pointer (some ⟨g,0,none⟩)] w (fun e w' => (∃ u,e = .returned u)∧St H w' (obj g 98 [.slice A n c,.bool true]::L)):=by
 refine enter (args:=[.pointer (some ⟨g,0,none⟩)]) (N:=7) Try.func60 rfl rfl rfl ?_
 refine c_seq (c_region (st (v:=.pointer (some ⟨g,0,none⟩)) (x_move (.tmp rfl rfl)) ?_))
 refine st (v:=.bool true) (x_neqP Try.underlying67 (.tmp rfl rfl) .const rfl) ?_
 refine c_nil (n_then (c_cond_t (t:=true) (.tmp rfl rfl) rfl ?_))
 refine c_region (st (v:=.pointer (some ⟨g,0,none⟩)) (x_move (.tmp rfl rfl)) ?_)
 refine st (v:=.pointer (some ⟨g,0,none⟩)) (x_nilCheck (.tmp rfl rfl)) ?_
 refine st (v:=.pointer (some ⟨g,0 + 1,none⟩)) (fa98_1 (.tmp rfl rfl)) ?_
 refine st_m0 (sto4 (cs':=[.slice A n c,.bool true]) (i:=0 + 1) hs (v:=.bool true) (.tmp rfl rfl) .const rfl (Nat.le_of_ble_eq_true rfl) one1 rfl) ?_
 rintro w1 hs3
 refine c_nil (leave_end (res_none rfl) ?_)
 exact ⟨⟨_,rfl⟩,hs3⟩
set_option maxHeartbeats 8000000 in
theorem int_own {H:Hp} {w:World} {L:List Res} {g:Nat} {A:Option Addr} {n c:Nat} {bs:List Nat} (hp:Bs H A n c bs) (b:Bool) (most:Int) (hm1:-9223372036854775808 ≤ most) (hm2:most ≤ 9223372036854775807) (hs:St H w (obj g 98 [.slice A n c,.bool b]::L)):Calls Try.prog 33 #[.pointer (some ⟨g,0,none⟩),.int .i64 most] w (fun e w' => ∃ A' n' c',e = .returned (.int .i64 (((rdI bs b most).1:Nat):Int))∧Bs H A' n' c' (rdI bs b most).2.1∧St H w' (obj g 98 [.slice A' n' c',.bool (rdI bs b most).2.2]::L)):=by
 refine enter (args:=[.pointer (some ⟨g,0,none⟩),.int .i64 most]) (N:=30) Try.func33 rfl rfl rfl ?_
 have hlt:=rdU_lt bs b
 refine c_seq (c_region (st (v:=.int .i64 0) (x_assign .const) ?_))
 refine c_nil (n_then (c_seq (c_region (st (v:=.pointer (some ⟨g,0,none⟩)) (x_move (.tmp rfl rfl)) ?_))))
 refine st_c cb36 .func (evs1 (.tmp rfl rfl)) (uint_own hp b hs) ?_
 rintro e w4 ⟨A1,n2,c3,rfl,hp5,hs6⟩
 refine ⟨_,rfl,?_⟩
 refine st (v:=.int .u64 (((rdU bs b).1:Nat):Int)) (x_assign (.tmp rfl rfl)) ?_
 refine c_nil (n_then (c_seq (c_seq (c_region (st (v:=.pointer (some ⟨g,0,none⟩)) (x_move (.tmp rfl rfl)) ?_)))))
 refine st (v:=.bool false) (x_eqlP Try.underlying67 (.tmp rfl rfl) .const rfl) ?_
 refine st (v:=.bool false) (x_move (.tmp rfl rfl)) ?_
 refine g_yes (yl (dj:=10) (b:=false) rfl rfl rfl) ?_
 refine st (v:=.pointer (some ⟨g,0,none⟩)) (x_move (.tmp rfl rfl)) ?_
 refine g_yes (yl (dj:=10) (b:=false) rfl rfl rfl) ?_
 refine st (v:=.pointer (some ⟨g,0,none⟩)) (x_nilCheck (.tmp rfl rfl)) ?_
 refine g_yes (yl (dj:=10) (b:=false) rfl rfl rfl) ?_
 refine st (v:=.pointer (some ⟨g,0 + 1,none⟩)) (fa98_1 (.tmp rfl rfl)) ?_
 refine g_yes (yl (dj:=10) (b:=false) rfl rfl rfl) ?_
 refine st (v:=.bool ((rdU bs b).2.2)) (ld4 (.tmp rfl rfl) (hs6.cell 0 rfl (0 + 1) rfl)) ?_
 refine st (v:=.bool ((rdU bs b).2.2)) (x_pick_f (.tmp rfl rfl) (.tmp rfl rfl)) ?_
 refine st (v:=.bool ((rdU bs b).2.2)) (x_move (.tmp rfl rfl)) ?_
 rcases Bool.eq_false_or_eq_true ((rdU bs b).2.2) with hc7 | hc7
 refine g_no (yk 16 true rfl rfl hc7) rfl ?_
 refine g_no (yk 16 true rfl rfl hc7) rfl ?_
 refine st (v:=.bool true) (x_pick_t (.tmp rfl (congrArg Value.bool hc7)) .const) ?_
 refine st (v:=.bool true) (x_move (.tmp rfl rfl)) ?_
 refine g_no (yl (dj:=20) (b:=true) rfl rfl rfl) rfl ?_
 refine g_no (yl (dj:=20) (b:=true) rfl rfl rfl) rfl ?_
 refine g_no (yl (dj:=20) (b:=true) rfl rfl rfl) rfl ?_
 refine g_no (yl (dj:=20) (b:=true) rfl rfl rfl) rfl ?_
 refine st (v:=.bool true) (x_pick_t (.tmp rfl rfl) .const) ?_
 refine c_nil (n_then (c_cond_t (t:=true) (.tmp rfl rfl) rfl ?_))
 refine c_seq (c_region (st (v:=.pointer (some ⟨g,0,none⟩)) (x_move (.tmp rfl rfl)) ?_))
 refine st_c cb60 .func (evs1 (.tmp rfl rfl)) (fail_own (b:=((rdU bs b).2.2)) hs6) ?_
 rintro e w8 ⟨⟨u10,rfl⟩,hs9⟩
 refine ⟨_,rfl,?_⟩
 refine c_nil (n_then (c_seq (c_region (st (v:=.int .i64 0) (x_assign .const) ?_))))
 refine c_nil (n_then (c_ret (r_then (leave_ret (res_one (v:=.int .i64 0) rfl (.mk rfl rfl)) ?_))))
 rw [rdI_bad (by first | (left; assumption) | (right; left; omega) | (right; right; omega))]
 exact ⟨_,_,_,rfl,hp5,hs9⟩
 refine g_yes (yk 16 false rfl rfl hc7) ?_
 refine st (v:=.int .i64 most) (x_move (.tmp rfl rfl)) ?_
 refine g_yes (yk 16 false rfl rfl hc7) ?_
 refine st (v:=.bool (decide ((most:Int) < 0))) (x_lss (k:=.i64) (a:=most) (b:=0) (.tmp rfl rfl) .const) ?_
 refine st (v:=.bool (decide ((most:Int) < 0))) (x_pick_f (.tmp rfl (congrArg Value.bool hc7)) (.tmp rfl rfl)) ?_
 refine st (v:=.bool (decide ((most:Int) < 0))) (x_move (.tmp rfl rfl)) ?_
 rcases Bool.eq_false_or_eq_true (decide ((most:Int) < 0)) with hc11 | hc11
 have hp11:(most:Int) < 0:=of_decide_eq_true hc11
 refine g_no (yk 20 true rfl rfl hc11) rfl ?_
 refine g_no (yk 20 true rfl rfl hc11) rfl ?_
 refine g_no (yk 20 true rfl rfl hc11) rfl ?_
 refine g_no (yk 20 true rfl rfl hc11) rfl ?_
 refine st (v:=.bool true) (x_pick_t (.tmp rfl (congrArg Value.bool hc11)) .const) ?_
 refine c_nil (n_then (c_cond_t (t:=true) (.tmp rfl rfl) rfl ?_))
 refine c_seq (c_region (st (v:=.pointer (some ⟨g,0,none⟩)) (x_move (.tmp rfl rfl)) ?_))
 refine st_c cb60 .func (evs1 (.tmp rfl rfl)) (fail_own (b:=((rdU bs b).2.2)) hs6) ?_
 rintro e w12 ⟨⟨u14,rfl⟩,hs13⟩
 refine ⟨_,rfl,?_⟩
 refine c_nil (n_then (c_seq (c_region (st (v:=.int .i64 0) (x_assign .const) ?_))))
 refine c_nil (n_then (c_ret (r_then (leave_ret (res_one (v:=.int .i64 0) rfl (.mk rfl rfl)) ?_))))
 rw [rdI_bad (by first | (left; assumption) | (right; left; omega) | (right; right; omega))]
 exact ⟨_,_,_,rfl,hp5,hs13⟩
 have hp11:¬ ((most:Int) < 0):=of_decide_eq_false hc11
 refine g_yes (yk 20 false rfl rfl hc11) ?_
 refine st (v:=.int .u64 (((rdU bs b).1:Nat):Int)) (x_move (.tmp rfl rfl)) ?_
 refine g_yes (yk 20 false rfl rfl hc11) ?_
 refine st (v:=.int .i64 most) (x_move (.tmp rfl rfl)) ?_
 refine g_yes (yk 20 false rfl rfl hc11) ?_
 refine st (v:=.int .u64 (((most % 18446744073709551616).toNat:Nat):Int)) (x_conv (k:=.i64) (a:=most) Try.underlying3 Try.underlying22 (.tmp rfl rfl) (wrapU _ rfl _)) ?_
 refine g_yes (yk 20 false rfl rfl hc11) ?_
 refine st (v:=.bool (decide (((((most % 18446744073709551616).toNat:Nat):Int):Int) < (((rdU bs b).1:Nat):Int)))) (x_gtr (k:=.u64) (a:=(((rdU bs b).1:Nat):Int)) (b:=(((most % 18446744073709551616).toNat:Nat):Int)) (.tmp rfl rfl) (.tmp rfl rfl)) ?_
 refine st (v:=.bool (decide (((((most % 18446744073709551616).toNat:Nat):Int):Int) < (((rdU bs b).1:Nat):Int)))) (x_pick_f (.tmp rfl (congrArg Value.bool hc11)) (.tmp rfl rfl)) ?_
 refine c_nil (n_then ?_)
 rcases Bool.eq_false_or_eq_true (decide (((((most % 18446744073709551616).toNat:Nat):Int):Int) < (((rdU bs b).1:Nat):Int))) with hc15 | hc15
 have hp15:((((most % 18446744073709551616).toNat:Nat):Int):Int) < (((rdU bs b).1:Nat):Int):=of_decide_eq_true hc15
 refine c_cond_t (t:=true) (.tmp rfl (congrArg Value.bool hc15)) rfl ?_
 refine c_seq (c_region (st (v:=.pointer (some ⟨g,0,none⟩)) (x_move (.tmp rfl rfl)) ?_))
 refine st_c cb60 .func (evs1 (.tmp rfl rfl)) (fail_own (b:=((rdU bs b).2.2)) hs6) ?_
 rintro e w16 ⟨⟨u18,rfl⟩,hs17⟩
 refine ⟨_,rfl,?_⟩
 refine c_nil (n_then (c_seq (c_region (st (v:=.int .i64 0) (x_assign .const) ?_))))
 refine c_nil (n_then (c_ret (r_then (leave_ret (res_one (v:=.int .i64 0) rfl (.mk rfl rfl)) ?_))))
 rw [rdI_bad (by first | (left; assumption) | (right; left; omega) | (right; right; omega))]
 exact ⟨_,_,_,rfl,hp5,hs17⟩
 have hp15:¬ (((((most % 18446744073709551616).toNat:Nat):Int):Int) < (((rdU bs b).1:Nat):Int)):=of_decide_eq_false hc15
 refine c_cond_f (t:=false) (.tmp rfl (congrArg Value.bool hc15)) rfl ?_
 refine c_skip (n_then (c_seq (c_region (st (v:=.int .u64 (((rdU bs b).1:Nat):Int)) (x_move (.tmp rfl rfl)) ?_))))
 refine st (v:=.int .i64 (((rdU bs b).1:Nat):Int)) (x_conv (k:=.u64) (a:=(((rdU bs b).1:Nat):Int)) Try.underlying22 Try.underlying3 (.tmp rfl rfl) (w64 (by omega) (by omega))) ?_
 refine st (v:=.int .i64 (((rdU bs b).1:Nat):Int)) (x_assign (.tmp rfl rfl)) ?_
 refine c_nil (n_then (c_ret (leave_ret (res_one (v:=.int .i64 (((rdU bs b).1:Nat):Int)) rfl (.mk rfl rfl)) ?_)))
 rw [rdI_good hc7 (by omega) (by omega)]
 have hs9:=hs6
 rw [hc7] at hs9
 exact ⟨_,_,_,rfl,hp5,hs9⟩
set_option maxHeartbeats 8000000 in
theorem bytes_own {H:Hp} {w:World} {L:List Res} {g:Nat} {A:Option Addr} {n c:Nat} {bs:List Nat} (hp:Bs H A n c bs) (hn:n ≤ 140737488355320) (b:Bool) (most:Int) (hm1:-9223372036854775808 ≤ most) (hm2:most ≤ 9223372036854775807) (hs:St H w (obj g 98 [.slice A n c,.bool b]::L)):Calls Try.prog 38 #[.pointer (some ⟨g,0,none⟩),.int .i64 most] w (fun e w' => ∃ v A' n' c',e = .returned v∧RowOk 1 v (rdB bs b most).1.length ((rdB bs b most).1.map encB)∧Bs H A' n' c' (rdB bs b most).2.1∧St H w' (row 5 1 v (rdB bs b most).1.length ((rdB bs b most).1.map encB)::obj g 98 [.slice A' n' c',.bool (rdB bs b most).2.2]::L)):=by
 refine enter (args:=[.pointer (some ⟨g,0,none⟩),.int .i64 most]) (N:=46) Try.func38 rfl rfl rfl ?_
 have hlen:=hp.len
 have hrl:=rdI_len bs b most
 have hri:=rdI_le bs b most hm2
 refine c_seq (c_region (st (v:=.slice none 0 0) (x_assign .const) ?_))
 refine c_nil (n_then (c_seq (c_region (st (v:=.pointer (some ⟨g,0,none⟩)) (x_move (.tmp rfl rfl)) ?_))))
 refine st (v:=.int .i64 most) (x_move (.tmp rfl rfl)) ?_
 refine st_c cb33 .func (evs2 (.tmp rfl rfl) (.tmp rfl rfl)) (int_own hp b most (by omega) (by omega) hs) ?_
 rintro e w4 ⟨A1,n2,c3,rfl,hp5,hs6⟩
 refine ⟨_,rfl,?_⟩
 refine st (v:=.int .i64 (((rdI bs b most).1:Nat):Int)) (x_assign (.tmp rfl rfl)) ?_
 refine c_nil (n_then (c_seq (c_seq (c_region (st (v:=.pointer (some ⟨g,0,none⟩)) (x_move (.tmp rfl rfl)) ?_)))))
 refine st (v:=.bool false) (x_eqlP Try.underlying67 (.tmp rfl rfl) .const rfl) ?_
 refine st (v:=.bool false) (x_move (.tmp rfl rfl)) ?_
 refine g_yes (yl (dj:=12) (b:=false) rfl rfl rfl) ?_
 refine st (v:=.pointer (some ⟨g,0,none⟩)) (x_move (.tmp rfl rfl)) ?_
 refine g_yes (yl (dj:=12) (b:=false) rfl rfl rfl) ?_
 refine st (v:=.pointer (some ⟨g,0,none⟩)) (x_nilCheck (.tmp rfl rfl)) ?_
 refine g_yes (yl (dj:=12) (b:=false) rfl rfl rfl) ?_
 refine st (v:=.pointer (some ⟨g,0 + 1,none⟩)) (fa98_1 (.tmp rfl rfl)) ?_
 refine g_yes (yl (dj:=12) (b:=false) rfl rfl rfl) ?_
 refine st (v:=.bool ((rdI bs b most).2.2)) (ld4 (.tmp rfl rfl) (hs6.cell 0 rfl (0 + 1) rfl)) ?_
 refine st (v:=.bool ((rdI bs b most).2.2)) (x_pick_f (.tmp rfl rfl) (.tmp rfl rfl)) ?_
 refine c_nil (n_then ?_)
 rcases Bool.eq_false_or_eq_true ((rdI bs b most).2.2) with hc7 | hc7
 refine c_cond_t (t:=true) (.tmp rfl (congrArg Value.bool hc7)) rfl ?_
 refine c_seq (c_region (st (v:=.slice none 0 0) (x_assign .const) ?_))
 refine c_nil (n_then (c_ret (r_then (leave_ret (res_one (v:=.slice none 0 0) rfl (.mk rfl rfl)) ?_))))
 rw [rdB_bad (by first | (left; assumption) | (right; omega))]
 have hs9:=hs6
 rw [hc7] at hs9
 exact ⟨_,_,_,_,rfl,RowOk.nil 1,hp5,hs9.rowNil 5 1⟩
 refine c_cond_f (t:=false) (.tmp rfl (congrArg Value.bool hc7)) rfl ?_
 refine c_skip (n_then (c_seq (c_seq (c_region ?_))))
 have hl8:=hp5.len
 refine st (v:=.int .i64 (((rdI bs b most).1:Nat):Int)) (x_move (.tmp rfl rfl)) ?_
 refine st (v:=.pointer (some ⟨g,0,none⟩)) (x_move (.tmp rfl rfl)) ?_
 refine st (v:=.pointer (some ⟨g,0,none⟩)) (x_nilCheck (.tmp rfl rfl)) ?_
 refine st (v:=.pointer (some ⟨g,0 + 0,none⟩)) (fa98_0 (.tmp rfl rfl)) ?_
 refine st (v:=.slice A1 n2 c3) (ld33 (.tmp rfl rfl) (hs6.cell 0 rfl (0 + 0) rfl)) ?_
 refine st (v:=.int .i64 ((n2:Nat):Int)) (x_len (n:=n2) Try.underlying33 (.tmp rfl rfl)) ?_
 refine st (v:=.bool (decide ((((n2:Nat):Int):Int) < (((rdI bs b most).1:Nat):Int)))) (x_gtr (k:=.i64) (a:=(((rdI bs b most).1:Nat):Int)) (b:=((n2:Nat):Int)) (.tmp rfl rfl) (.tmp rfl rfl)) ?_
 refine c_nil (n_then ?_)
 rcases Bool.eq_false_or_eq_true (decide ((((n2:Nat):Int):Int) < (((rdI bs b most).1:Nat):Int))) with hc8 | hc8
 have hp8:(((n2:Nat):Int):Int) < (((rdI bs b most).1:Nat):Int):=of_decide_eq_true hc8
 refine c_cond_t (t:=true) (.tmp rfl (congrArg Value.bool hc8)) rfl ?_
 refine c_seq (c_region (st (v:=.pointer (some ⟨g,0,none⟩)) (x_move (.tmp rfl rfl)) ?_))
 refine st (v:=.pointer (some ⟨g,0,none⟩)) (x_nilCheck (.tmp rfl rfl)) ?_
 refine st (v:=.pointer (some ⟨g,0 + 1,none⟩)) (fa98_1 (.tmp rfl rfl)) ?_
 refine st_m0 (sto4 (cs':=[.slice A1 n2 c3,.bool true]) (i:=0 + 1) hs6 (v:=.bool true) (.tmp rfl rfl) .const rfl (Nat.le_of_ble_eq_true rfl) one1 rfl) ?_
 rintro w9 hs11
 refine c_nil (n_then (c_seq (c_region (st (v:=.slice none 0 0) (x_assign .const) ?_))))
 refine c_nil (n_then (c_ret (r_then (leave_ret (res_one (v:=.slice none 0 0) rfl (.mk rfl rfl)) ?_))))
 rw [rdB_bad (by first | (left; assumption) | (right; omega))]
 have hs9:=hs11
 exact ⟨_,_,_,_,rfl,RowOk.nil 1,hp5,hs9.rowNil 5 1⟩
 have hp8:¬ ((((n2:Nat):Int):Int) < (((rdI bs b most).1:Nat):Int)):=of_decide_eq_false hc8
 refine c_cond_f (t:=false) (.tmp rfl (congrArg Value.bool hc8)) rfl ?_
 refine c_skip (n_then (c_seq (c_region (st (v:=.pointer (some ⟨g,0,none⟩)) (x_move (.tmp rfl rfl)) ?_))))
 refine st (v:=.pointer (some ⟨g,0,none⟩)) (x_nilCheck (.tmp rfl rfl)) ?_
 refine st (v:=.pointer (some ⟨g,0 + 0,none⟩)) (fa98_0 (.tmp rfl rfl)) ?_
 refine st (v:=.slice A1 n2 c3) (ld33 (.tmp rfl rfl) (hs6.cell 0 rfl (0 + 0) rfl)) ?_
 refine st (v:=.int .i64 (((rdI bs b most).1:Nat):Int)) (x_move (.tmp rfl rfl)) ?_
 refine st (v:=.int .i64 (((rdI bs b most).1:Nat):Int)) (x_move (.tmp rfl rfl)) ?_
 have:=hp5.le
 refine st (v:=.slice A1 ((rdI bs b most).1) ((rdI bs b most).1)) (bs_hm Try.underlying33 inf5 (a:=(((rdI bs b most).1:Nat):Int)) (.tmp rfl rfl) (.tmp rfl rfl) (.tmp rfl rfl) (by omega) (by omega)) ?_
 refine st_m (m_appNil Try.underlying33 inf5 hs6 .const (.tmp rfl rfl) (hp5.takeC (k:=((rdI bs b most).1)) (by omega)) (by omega)) ?_
 rintro v12 w13 ⟨ok14,hs15⟩
 refine st (v:=v12) (x_assign (.tmp rfl rfl)) ?_
 refine c_nil (n_then (c_seq (c_region (st (v:=.pointer (some ⟨g,0,none⟩)) (x_move (.tmp rfl rfl)) ?_))))
 refine st (v:=.pointer (some ⟨g,0,none⟩)) (x_move (.tmp rfl rfl)) ?_
 refine st (v:=.pointer (some ⟨g,0,none⟩)) (x_nilCheck (.tmp rfl rfl)) ?_
 refine st (v:=.pointer (some ⟨g,0 + 0,none⟩)) (fa98_0 (.tmp rfl rfl)) ?_
 refine st (v:=.slice A1 n2 c3) (ld33 (.tmp rfl rfl) (hs15.cell 1 rfl (0 + 0) rfl)) ?_
 refine st (v:=.int .i64 (((rdI bs b most).1:Nat):Int)) (x_move (.tmp rfl rfl)) ?_
 have:=hp5.le
 refine st (v:=.slice (cutA A1 c3 ((rdI bs b most).1) 1) (n2 - ((rdI bs b most).1)) (c3 - ((rdI bs b most).1))) (bs_l Try.underlying33 inf5 (a:=(((rdI bs b most).1:Nat):Int)) (.tmp rfl rfl) (.tmp rfl rfl) (by omega) (by omega) (by omega)) ?_
 refine st (v:=.pointer (some ⟨g,0,none⟩)) (x_nilCheck (.tmp rfl rfl)) ?_
 refine st (v:=.pointer (some ⟨g,0 + 0,none⟩)) (fa98_0 (.tmp rfl rfl)) ?_
 have hs17:=hs15.p1
 refine st_m0 (sto33 (cs':=[.slice (cutA A1 c3 ((rdI bs b most).1) 1) (n2 - ((rdI bs b most).1)) (c3 - ((rdI bs b most).1)),.bool ((rdI bs b most).2.2)]) (i:=0 + 0) hs17 (v:=.slice (cutA A1 c3 ((rdI bs b most).1) 1) (n2 - ((rdI bs b most).1)) (c3 - ((rdI bs b most).1))) (.tmp rfl rfl) (.tmp rfl rfl) rfl (Nat.le_of_ble_eq_true rfl) one1 rfl) ?_
 rintro w18 hs20
 refine c_nil (n_then (c_seq (c_region (st (v:=v12) (x_move (.tmp rfl rfl)) ?_))))
 refine st (v:=v12) (x_assign (.tmp rfl rfl)) ?_
 refine c_nil (n_then (c_ret (leave_ret (res_one (v:=v12) rfl (.mk rfl rfl)) ?_)))
 rw [rdB_good hc7 (by omega)]
 have hs9:=(hs20.p1)
 rw [hc7] at hs9
 have hl9:((rdI bs b most).2.1.take (rdI bs b most).1).length = (rdI bs b most).1:=by rw [List.length_take]; omega
 rw [hl9]
 exact ⟨_,_,_,_,rfl,ok14,(hp5.drop (k:=((rdI bs b most).1)) (by omega)),hs9⟩
end Go.Proofs.Ytlfihfmmhhcigaa

set_option linter.unusedVariables false
set_option linter.unusedSimpArgs false
namespace Go.Proofs.Ytlfihfmmhhcigaa
open Go Go.FM Go.Proofs
attribute [local irreducible] wpList wpQuiet wpS Code.wp Calls
end Go.Proofs.Ytlfihfmmhhcigaa

set_option linter.unusedVariables false
set_option linter.unusedSimpArgs false
namespace Go.Proofs.Ytlfihfmmhhcigaa
open Go Go.FM Go.Proofs
attribute [local irreducible] wpList wpQuiet wpS Code.wp Calls
set_option maxHeartbeats 8000000 in
theorem end_spec {H:Hp} {w:World} {L:List Res} (hs:St H w (L)) (s:GState) {k_s:List Value} (h_s:kState.rep H s k_s) (hF1:0 ≤ s.Floor) (hF2:s.Floor ≤ 1073741824):Calls Try.prog 63 #[.agg k_s.toArray] w (fun e w' => e = .returned (.int .i64 (sEnd s))∧St H w' (L)):=by
 obtain ⟨A6,n7,c8,rfl,b1,⟨b2,b3⟩,⟨b4,b5⟩,hl9⟩:=h_s
 have:=hl9.len; have:n7 * 32 ≤ 140737488351232:=hl9.bnd; have:=hl9.le
 refine enter (args:=[.agg #[.int .u64 ((s.V.N:Nat):Int),.int .i64 s.V.P,.int .i64 s.Floor,.slice A6 n7 c8]]) (N:=9) Try.func63 rfl rfl rfl ?_
 refine c_seq (c_region (st_m (m_box (cs:=[.int .u64 ((s.V.N:Nat):Int),.int .i64 s.V.P,.int .i64 s.Floor,.slice A6 n7 c8]) hs (v:=.agg #[.int .u64 ((s.V.N:Nat):Int),.int .i64 s.V.P,.int .i64 s.Floor,.slice A6 n7 c8]) (.tmp rfl rfl) rfl) ?_))
 rintro _ w11 ⟨g10,rfl,hs13⟩
 refine st (v:=.int .i64 0) (x_assign .const) ?_
 refine c_nil (n_then (c_seq (c_region (st (v:=.pointer (some ⟨g10,0 + 2,none⟩)) (fa52_1 (.tmp rfl rfl)) ?_))))
 refine st (v:=.int .i64 s.Floor) (ld3 (.tmp rfl rfl) (hs13.cell 0 rfl (0 + 2) rfl)) ?_
 refine st (v:=.pointer (some ⟨g10,0 + 3,none⟩)) (fa52_2 (.tmp rfl rfl)) ?_
 refine st (v:=.slice A6 n7 c8) (ld28 (.tmp rfl rfl) (hs13.cell 0 rfl (0 + 3) rfl)) ?_
 refine st (v:=.int .i64 ((n7:Nat):Int)) (x_len (n:=n7) Try.underlying28 (.tmp rfl rfl)) ?_
 refine st (v:=.int .i64 (s.Floor + ((n7:Nat):Int))) (x_add (k:=.i64) (a:=s.Floor) (b:=((n7:Nat):Int)) (.tmp rfl rfl) (.tmp rfl rfl) (w64 (by omega) (by omega))) ?_
 refine st (v:=.int .i64 (s.Floor + ((n7:Nat):Int))) (x_assign (.tmp rfl rfl)) ?_
 refine c_nil (n_then (c_ret (leave_ret (res_one (v:=.int .i64 (s.Floor + ((n7:Nat):Int))) rfl (.mk rfl rfl)) ?_)))
 have hans14:sEnd s = (s.Floor + ((n7:Nat):Int)):=by unfold sEnd; omega
 rw [hans14]
 exact ⟨rfl,hs13.drop⟩
set_option maxHeartbeats 8000000 in
theorem items_spec {H:Hp} {w:World} {L:List Res} (hs:St H w (L)) {A_a:Option Addr} {n_a c_a:Nat} (a:(List GItem)) (h_a:Sl kItem H A_a n_a c_a a) {A_b:Option Addr} {n_b c_b:Nat} (b:(List GItem)) (h_b:Sl kItem H A_b n_b c_b b):Calls Try.prog 30 #[.slice A_a n_a c_a,.slice A_b n_b c_b] w (fun e w' => e = .returned (.bool (decide (a = b)))∧St H w' (L)):=by
 have:=h_a.len; have:=h_a.le; have:n_a * 32 ≤ 140737488351232:=h_a.bnd
 have:=h_b.len; have:=h_b.le; have:n_b * 32 ≤ 140737488351232:=h_b.bnd
 refine enter (args:=[.slice A_a n_a c_a,.slice A_b n_b c_b]) (N:=43) Try.func30 rfl rfl rfl ?_
 refine c_seq (c_region (st (v:=.bool false) (x_assign .const) ?_))
 refine c_nil (n_then (c_seq (c_seq (c_region (st (v:=.slice A_a n_a c_a) (x_move (.tmp rfl rfl)) ?_)))))
 refine st (v:=.int .i64 ((n_a:Nat):Int)) (x_len (n:=n_a) Try.underlying28 (.tmp rfl rfl)) ?_
 refine st (v:=.slice A_b n_b c_b) (x_move (.tmp rfl rfl)) ?_
 refine st (v:=.int .i64 ((n_b:Nat):Int)) (x_len (n:=n_b) Try.underlying28 (.tmp rfl rfl)) ?_
 refine st (v:=.bool (decide ((((n_a:Nat):Int):Int) ≠ ((n_b:Nat):Int)))) (x_neq (k:=.i64) (a:=((n_a:Nat):Int)) (b:=((n_b:Nat):Int)) (.tmp rfl rfl) (.tmp rfl rfl)) ?_
 refine c_nil (n_then ?_)
 rcases Bool.eq_false_or_eq_true (decide ((((n_a:Nat):Int):Int) ≠ ((n_b:Nat):Int))) with hc1 | hc1
 have hp1:(((n_a:Nat):Int):Int) ≠ ((n_b:Nat):Int):=of_decide_eq_true hc1
 refine c_cond_t (t:=true) (.tmp rfl (congrArg Value.bool hc1)) rfl ?_
 refine c_seq (c_region (st (v:=.bool false) (x_assign .const) ?_))
 refine c_nil (n_then (c_ret (r_then (leave_ret (res_one (v:=.bool false) rfl (.mk rfl rfl)) ?_))))
 have hans2:decide (a = b) = false:=lists_ne_len (by omega)
 rw [hans2]
 exact ⟨rfl,hs⟩
 have hp1:¬ ((((n_a:Nat):Int):Int) ≠ ((n_b:Nat):Int)):=of_decide_eq_false hc1
 refine c_cond_f (t:=false) (.tmp rfl (congrArg Value.bool hc1)) rfl ?_
 refine c_skip (n_then (c_seq (c_seq (c_region (st (v:=.int .i64 0) (x_assign .const) ?_)))))
 refine c_nil (n_then (c_block (c_loop (fun ρ w mm => ∃ (i:Nat),ρ 0 = .slice A_a n_a c_a∧ρ 1 = .slice A_b n_b c_b∧ρ 5 = .int .i64 ((i:Nat):Int)∧(i ≤ n_a)∧(a.take i = b.take i)∧St H w (L)∧mm = n_a - i) _ ⟨0,rfl,rfl,rfl,(by omega),rfl,hs,rfl⟩ ?_)))
 rintro ρ w mm ⟨i,hρ4,hρ5,hρ6,hi,ht,hs7,rfl⟩
 refine c_seq (c_seq (c_region (st (v:=.int .i64 ((i:Nat):Int)) (x_move (.tmp rfl hρ6)) ?_)))
 refine st (v:=.slice A_a n_a c_a) (x_move (.tmp rfl hρ4)) ?_
 refine st (v:=.int .i64 ((n_a:Nat):Int)) (x_len (n:=n_a) Try.underlying28 (.tmp rfl rfl)) ?_
 refine st (v:=.bool (decide ((((i:Nat):Int):Int) < ((n_a:Nat):Int)))) (x_lss (k:=.i64) (a:=((i:Nat):Int)) (b:=((n_a:Nat):Int)) (.tmp rfl rfl) (.tmp rfl rfl)) ?_
 refine c_nil (n_then ?_)
 rcases Bool.eq_false_or_eq_true (decide ((((i:Nat):Int):Int) < ((n_a:Nat):Int))) with hc8 | hc8
 have hp8:(((i:Nat):Int):Int) < ((n_a:Nat):Int):=of_decide_eq_true hc8
 refine c_cond_t (t:=true) (.tmp rfl (congrArg Value.bool hc8)) rfl ?_
 refine c_skip (n_then (c_seq (c_block (c_seq (q_region mixed hs7 (by kernel_rfl) ?_)))))
 refine q_st (v:=.slice A_a n_a c_a) (fun w hs => (x_move (.tmp rfl hρ4))) ?_
 refine q_st (v:=.int .i64 ((i:Nat):Int)) (fun w hs => (x_move (.tmp rfl hρ6))) ?_
 obtain ⟨e9,b10,o11,cs12,hx13,hA14,hr15,hat16⟩:=h_a.get (i:=i) (by omega)
 obtain ⟨A19,n20,c21,rfl,⟨b17,b18⟩,hy22⟩:=hr15
 have:=hy22.len; have:=hy22.bnd; have:=hy22.le
 have hat16x:∀ {w:World} {L:List Res},St H w L → At w ⟨b10,o11 + i * 2,none⟩ [.int .i64 e9.From,.slice A19 n20 c21]:=fun h => hat16 h
 refine q_st (v:=.pointer (some ⟨b10,(o11 + i * 2),none⟩)) (fun w hs => (ixo28 (.tmp rfl rfl) hA14 (i:=((i:Nat):Int)) (.tmp rfl rfl) (by omega) (by omega) (by omega))) ?_
 refine q_st (v:=.pointer (some ⟨b10,(o11 + i * 2) + 0,none⟩)) (fun w hs => (fa49_0 (.tmp rfl rfl))) ?_
 refine q_st (v:=.int .i64 e9.From) (fun w hs => (ld3 (.tmp rfl rfl) ((hat16x hs).cell 0 rfl))) ?_
 refine q_st (v:=.slice A_b n_b c_b) (fun w hs => (x_move (.tmp rfl hρ5))) ?_
 refine q_st (v:=.int .i64 ((i:Nat):Int)) (fun w hs => (x_move (.tmp rfl hρ6))) ?_
 obtain ⟨e23,b24,o25,cs26,hx27,hA28,hr29,hat30⟩:=h_b.get (i:=i) (by omega)
 obtain ⟨A33,n34,c35,rfl,⟨b31,b32⟩,hy36⟩:=hr29
 have:=hy36.len; have:=hy36.bnd; have:=hy36.le
 have hat30x:∀ {w:World} {L:List Res},St H w L → At w ⟨b24,o25 + i * 2,none⟩ [.int .i64 e23.From,.slice A33 n34 c35]:=fun h => hat30 h
 refine q_st (v:=.pointer (some ⟨b24,(o25 + i * 2),none⟩)) (fun w hs => (ixo28 (.tmp rfl rfl) hA28 (i:=((i:Nat):Int)) (.tmp rfl rfl) (by omega) (by omega) (by omega))) ?_
 refine q_st (v:=.pointer (some ⟨b24,(o25 + i * 2) + 0,none⟩)) (fun w hs => (fa49_0 (.tmp rfl rfl))) ?_
 refine q_st (v:=.int .i64 e23.From) (fun w hs => (ld3 (.tmp rfl rfl) ((hat30x hs).cell 0 rfl))) ?_
 refine q_st (v:=.bool (decide ((e9.From:Int) ≠ e23.From))) (fun w hs => (x_neq (k:=.i64) (a:=e9.From) (b:=e23.From) (.tmp rfl rfl) (.tmp rfl rfl))) ?_
 refine q_st (v:=.bool (decide ((e9.From:Int) ≠ e23.From))) (fun w hs => (x_move (.tmp rfl rfl))) ?_
 rcases Bool.eq_false_or_eq_true (decide ((e9.From:Int) ≠ e23.From)) with hc37 | hc37
 have hp37:(e9.From:Int) ≠ e23.From:=of_decide_eq_true hc37
 refine q_no (yk 28 true rfl rfl hc37) rfl ?_
 refine q_no (yk 28 true rfl rfl hc37) rfl ?_
 refine q_no (yk 28 true rfl rfl hc37) rfl ?_
 refine q_no (yk 28 true rfl rfl hc37) rfl ?_
 refine q_no (yk 28 true rfl rfl hc37) rfl ?_
 refine q_no (yk 28 true rfl rfl hc37) rfl ?_
 refine q_no (yk 28 true rfl rfl hc37) rfl ?_
 refine q_no (yk 28 true rfl rfl hc37) rfl ?_
 refine q_no (yk 28 true rfl rfl hc37) rfl ?_
 refine q_no (yk 28 true rfl rfl hc37) rfl ?_
 refine q_no (yk 28 true rfl rfl hc37) rfl ?_
 refine q_no (yk 28 true rfl rfl hc37) rfl ?_
 refine q_no (yk 28 true rfl rfl hc37) rfl ?_
 refine q_st (v:=.bool true) (fun w hs => (x_pick_t (.tmp rfl (congrArg Value.bool hc37)) .const)) ?_
 refine q_nil ?_
 intro w hs38
 refine n_then (c_cond_t (t:=true) (.tmp rfl rfl) rfl ?_)
 refine c_seq (c_region (st (v:=.bool false) (x_assign .const) ?_))
 refine c_nil (n_then (c_ret (r_block (r_then (r_then (r_block (r_then (leave_ret (res_one (v:=.bool false) rfl (.mk rfl rfl)) ?_))))))))
 have hans39:decide (a = b) = false:=lists_ne_at hx13 hx27 (item_ne_from (by omega))
 rw [hans39]
 exact ⟨rfl,hs38⟩
 have hp37:¬ ((e9.From:Int) ≠ e23.From):=of_decide_eq_false hc37
 refine q_yes (yk 28 false rfl rfl hc37) ?_
 refine q_st (v:=.slice A_a n_a c_a) (fun w hs => (x_move (.tmp rfl hρ4))) ?_
 refine q_yes (yk 28 false rfl rfl hc37) ?_
 refine q_st (v:=.int .i64 ((i:Nat):Int)) (fun w hs => (x_move (.tmp rfl hρ6))) ?_
 refine q_yes (yk 28 false rfl rfl hc37) ?_
 refine q_st (v:=.pointer (some ⟨b10,(o11 + i * 2),none⟩)) (fun w hs => (ixo28 (.tmp rfl rfl) hA14 (i:=((i:Nat):Int)) (.tmp rfl rfl) (by omega) (by omega) (by omega))) ?_
 refine q_yes (yk 28 false rfl rfl hc37) ?_
 refine q_st (v:=.pointer (some ⟨b10,(o11 + i * 2) + 1,none⟩)) (fun w hs => (fa49_1 (.tmp rfl rfl))) ?_
 refine q_yes (yk 28 false rfl rfl hc37) ?_
 refine q_st (v:=.slice A19 n20 c21) (fun w hs => (ld33 (.tmp rfl rfl) ((hat16x hs).cell 1 rfl))) ?_
 refine q_yes (yk 28 false rfl rfl hc37) ?_
 refine q_st (v:=.string (bstr e9.M)) (fun w hs => (hy22.toBs.str Try.underlying33 Try.underlying5 Try.underlying9 hs (.tmp rfl rfl))) ?_
 refine q_yes (yk 28 false rfl rfl hc37) ?_
 refine q_st (v:=.slice A_b n_b c_b) (fun w hs => (x_move (.tmp rfl hρ5))) ?_
 refine q_yes (yk 28 false rfl rfl hc37) ?_
 refine q_st (v:=.int .i64 ((i:Nat):Int)) (fun w hs => (x_move (.tmp rfl hρ6))) ?_
 refine q_yes (yk 28 false rfl rfl hc37) ?_
 refine q_st (v:=.pointer (some ⟨b24,(o25 + i * 2),none⟩)) (fun w hs => (ixo28 (.tmp rfl rfl) hA28 (i:=((i:Nat):Int)) (.tmp rfl rfl) (by omega) (by omega) (by omega))) ?_
 refine q_yes (yk 28 false rfl rfl hc37) ?_
 refine q_st (v:=.pointer (some ⟨b24,(o25 + i * 2) + 1,none⟩)) (fun w hs => (fa49_1 (.tmp rfl rfl))) ?_
 refine q_yes (yk 28 false rfl rfl hc37) ?_
 refine q_st (v:=.slice A33 n34 c35) (fun w hs => (ld33 (.tmp rfl rfl) ((hat30x hs).cell 1 rfl))) ?_
 refine q_yes (yk 28 false rfl rfl hc37) ?_
 refine q_st (v:=.string (bstr e23.M)) (fun w hs => (hy36.toBs.str Try.underlying33 Try.underlying5 Try.underlying9 hs (.tmp rfl rfl))) ?_
 refine q_yes (yk 28 false rfl rfl hc37) ?_
 refine q_st (v:=.bool (!decide ((bstr e9.M) = (bstr e23.M)))) (fun w hs => (x_neqS (.tmp rfl rfl) (.tmp rfl rfl))) ?_
 refine q_st (v:=.bool (!decide ((bstr e9.M) = (bstr e23.M)))) (fun w hs => (x_pick_f (.tmp rfl (congrArg Value.bool hc37)) (.tmp rfl rfl))) ?_
 refine q_nil ?_
 intro w hs40
 refine n_then ?_
 rcases Bool.eq_false_or_eq_true (decide ((bstr e9.M) = (bstr e23.M))) with hc41 | hc41
 have hp41:(bstr e9.M) = (bstr e23.M):=of_decide_eq_true hc41
 refine c_cond_f (t:=false) (.tmp rfl (congrArg Value.bool (by rw [hc41]; rfl))) rfl ?_
 refine c_skip (n_block (n_then (c_region (st (v:=.int .i64 ((i:Nat):Int)) (x_move (.tmp rfl hρ6)) ?_))))
 refine st (v:=.int .i64 (((i + 1):Nat):Int)) (x_add (k:=.i64) (a:=((i:Nat):Int)) (b:=1) (.tmp rfl rfl) .const ((w64 (by omega) (by omega)).trans (by omega))) ?_
 refine st (v:=.int .i64 (((i + 1):Nat):Int)) (x_assign (.tmp rfl rfl)) ?_
 refine c_nil ?_
 refine n_then ⟨_,_,rfl,?_,(i + 1),hρ4,hρ5,rfl,(by omega),(take_eq_next ht hx13 hx27 (item_eq (by omega) hp41 hy22.lt hy36.lt)),hs40,rfl⟩
 omega
 have hp41:¬ ((bstr e9.M) = (bstr e23.M)):=of_decide_eq_false hc41
 refine c_cond_t (t:=true) (.tmp rfl (congrArg Value.bool (by rw [hc41]; rfl))) rfl ?_
 refine c_seq (c_region (st (v:=.bool false) (x_assign .const) ?_))
 refine c_nil (n_then (c_ret (r_block (r_then (r_then (r_block (r_then (leave_ret (res_one (v:=.bool false) rfl (.mk rfl rfl)) ?_))))))))
 have hans42:decide (a = b) = false:=lists_ne_at hx13 hx27 (item_ne_m hp41)
 rw [hans42]
 exact ⟨rfl,hs40⟩
 have hp8:¬ ((((i:Nat):Int):Int) < ((n_a:Nat):Int)):=of_decide_eq_false hc8
 refine c_cond_f (t:=false) (.tmp rfl (congrArg Value.bool hc8)) rfl ?_
 refine c_exit (x_then (x_then (x_here (n_then (c_seq (c_region (st (v:=.bool true) (x_assign .const) ?_)))))))
 refine c_nil (n_then (c_ret (leave_ret (res_one (v:=.bool true) rfl (.mk rfl rfl)) ?_)))
 have hans43:decide (a = b) = true:=lists_eq ht (by omega) (by omega)
 rw [hans43]
 exact ⟨rfl,hs7⟩
set_option maxHeartbeats 8000000 in
theorem same_spec {H:Hp} {w:World} {L:List Res} (hs:St H w (L)) {A_a:Option Addr} {n_a c_a:Nat} (a:(List GState)) (h_a:Sl kState H A_a n_a c_a a) {A_b:Option Addr} {n_b c_b:Nat} (b:(List GState)) (h_b:Sl kState H A_b n_b c_b b):Calls Try.prog 29 #[.slice A_a n_a c_a,.slice A_b n_b c_b] w (fun e w' => e = .returned (.bool (decide (a = b)))∧St H w' (L)):=by
 have:=h_a.len; have:=h_a.le; have:n_a * 48 ≤ 140737488351232:=h_a.bnd
 have:=h_b.len; have:=h_b.le; have:n_b * 48 ≤ 140737488351232:=h_b.bnd
 refine enter (args:=[.slice A_a n_a c_a,.slice A_b n_b c_b]) (N:=55) Try.func29 rfl rfl rfl ?_
 refine c_seq (c_region (st (v:=.bool false) (x_assign .const) ?_))
 refine c_nil (n_then (c_seq (c_seq (c_region (st (v:=.slice A_a n_a c_a) (x_move (.tmp rfl rfl)) ?_)))))
 refine st (v:=.int .i64 ((n_a:Nat):Int)) (x_len (n:=n_a) Try.underlying26 (.tmp rfl rfl)) ?_
 refine st (v:=.slice A_b n_b c_b) (x_move (.tmp rfl rfl)) ?_
 refine st (v:=.int .i64 ((n_b:Nat):Int)) (x_len (n:=n_b) Try.underlying26 (.tmp rfl rfl)) ?_
 refine st (v:=.bool (decide ((((n_a:Nat):Int):Int) ≠ ((n_b:Nat):Int)))) (x_neq (k:=.i64) (a:=((n_a:Nat):Int)) (b:=((n_b:Nat):Int)) (.tmp rfl rfl) (.tmp rfl rfl)) ?_
 refine c_nil (n_then ?_)
 rcases Bool.eq_false_or_eq_true (decide ((((n_a:Nat):Int):Int) ≠ ((n_b:Nat):Int))) with hc1 | hc1
 have hp1:(((n_a:Nat):Int):Int) ≠ ((n_b:Nat):Int):=of_decide_eq_true hc1
 refine c_cond_t (t:=true) (.tmp rfl (congrArg Value.bool hc1)) rfl ?_
 refine c_seq (c_region (st (v:=.bool false) (x_assign .const) ?_))
 refine c_nil (n_then (c_ret (r_then (leave_ret (res_one (v:=.bool false) rfl (.mk rfl rfl)) ?_))))
 have hans2:decide (a = b) = false:=lists_ne_len (by omega)
 rw [hans2]
 exact ⟨rfl,hs⟩
 have hp1:¬ ((((n_a:Nat):Int):Int) ≠ ((n_b:Nat):Int)):=of_decide_eq_false hc1
 refine c_cond_f (t:=false) (.tmp rfl (congrArg Value.bool hc1)) rfl ?_
 refine c_skip (n_then (c_seq (c_seq (c_region (st (v:=.int .i64 0) (x_assign .const) ?_)))))
 refine c_nil (n_then (c_block (c_loop (fun ρ w mm => ∃ (i:Nat),ρ 0 = .slice A_a n_a c_a∧ρ 1 = .slice A_b n_b c_b∧ρ 5 = .int .i64 ((i:Nat):Int)∧(i ≤ n_a)∧(a.take i = b.take i)∧St H w (L)∧mm = n_a - i) _ ⟨0,rfl,rfl,rfl,(by omega),rfl,hs,rfl⟩ ?_)))
 rintro ρ w mm ⟨i,hρ4,hρ5,hρ6,hi,ht,hs7,rfl⟩
 refine c_seq (c_seq (c_region (st (v:=.int .i64 ((i:Nat):Int)) (x_move (.tmp rfl hρ6)) ?_)))
 refine st (v:=.slice A_a n_a c_a) (x_move (.tmp rfl hρ4)) ?_
 refine st (v:=.int .i64 ((n_a:Nat):Int)) (x_len (n:=n_a) Try.underlying26 (.tmp rfl rfl)) ?_
 refine st (v:=.bool (decide ((((i:Nat):Int):Int) < ((n_a:Nat):Int)))) (x_lss (k:=.i64) (a:=((i:Nat):Int)) (b:=((n_a:Nat):Int)) (.tmp rfl rfl) (.tmp rfl rfl)) ?_
 refine c_nil (n_then ?_)
 rcases Bool.eq_false_or_eq_true (decide ((((i:Nat):Int):Int) < ((n_a:Nat):Int))) with hc8 | hc8
 have hp8:(((i:Nat):Int):Int) < ((n_a:Nat):Int):=of_decide_eq_true hc8
 refine c_cond_t (t:=true) (.tmp rfl (congrArg Value.bool hc8)) rfl ?_
 refine c_skip (n_then (c_seq (c_block (c_seq (q_region mixed hs7 (by kernel_rfl) ?_)))))
 refine q_st (v:=.slice A_a n_a c_a) (fun w hs => (x_move (.tmp rfl hρ4))) ?_
 refine q_st (v:=.int .i64 ((i:Nat):Int)) (fun w hs => (x_move (.tmp rfl hρ6))) ?_
 obtain ⟨e9,b10,o11,cs12,hx13,hA14,hr15,hat16⟩:=h_a.get (i:=i) (by omega)
 obtain ⟨A22,n23,c24,rfl,b17,⟨b18,b19⟩,⟨b20,b21⟩,hl25⟩:=hr15
 have:=hl25.len; have:n23 * 32 ≤ 140737488351232:=hl25.bnd; have:=hl25.le
 have hat16x:∀ {w:World} {L:List Res},St H w L → At w ⟨b10,o11 + i * 4,none⟩ [.int .u64 ((e9.V.N:Nat):Int),.int .i64 e9.V.P,.int .i64 e9.Floor,.slice A22 n23 c24]:=fun h => hat16 h
 refine q_st (v:=.pointer (some ⟨b10,(o11 + i * 4),none⟩)) (fun w hs => (ixo26 (.tmp rfl rfl) hA14 (i:=((i:Nat):Int)) (.tmp rfl rfl) (by omega) (by omega) (by omega))) ?_
 refine q_st (v:=.pointer (some ⟨b10,(o11 + i * 4) + 0,none⟩)) (fun w hs => (fa52_0 (.tmp rfl rfl))) ?_
 refine q_st (v:=.agg #[.int .u64 ((e9.V.N:Nat):Int),.int .i64 e9.V.P]) (fun w hs => (ld24 (cs:=[.int .u64 ((e9.V.N:Nat):Int),.int .i64 e9.V.P]) (.tmp rfl rfl) ((hat16x hs).sub 0 rfl) rfl)) ?_
 refine q_st (v:=.slice A_b n_b c_b) (fun w hs => (x_move (.tmp rfl hρ5))) ?_
 refine q_st (v:=.int .i64 ((i:Nat):Int)) (fun w hs => (x_move (.tmp rfl hρ6))) ?_
 obtain ⟨e26,b27,o28,cs29,hx30,hA31,hr32,hat33⟩:=h_b.get (i:=i) (by omega)
 obtain ⟨A39,n40,c41,rfl,b34,⟨b35,b36⟩,⟨b37,b38⟩,hl42⟩:=hr32
 have:=hl42.len; have:n40 * 32 ≤ 140737488351232:=hl42.bnd; have:=hl42.le
 have hat33x:∀ {w:World} {L:List Res},St H w L → At w ⟨b27,o28 + i * 4,none⟩ [.int .u64 ((e26.V.N:Nat):Int),.int .i64 e26.V.P,.int .i64 e26.Floor,.slice A39 n40 c41]:=fun h => hat33 h
 refine q_st (v:=.pointer (some ⟨b27,(o28 + i * 4),none⟩)) (fun w hs => (ixo26 (.tmp rfl rfl) hA31 (i:=((i:Nat):Int)) (.tmp rfl rfl) (by omega) (by omega) (by omega))) ?_
 refine q_st (v:=.pointer (some ⟨b27,(o28 + i * 4) + 0,none⟩)) (fun w hs => (fa52_0 (.tmp rfl rfl))) ?_
 refine q_st (v:=.agg #[.int .u64 ((e26.V.N:Nat):Int),.int .i64 e26.V.P]) (fun w hs => (ld24 (cs:=[.int .u64 ((e26.V.N:Nat):Int),.int .i64 e26.V.P]) (.tmp rfl rfl) ((hat33x hs).sub 0 rfl) rfl)) ?_
 refine q_st (v:=.bool (!((((e9.V.N:Nat):Int) == ((e26.V.N:Nat):Int)) && ((e9.V.P == e26.V.P) && true)))) (fun w hs => (x_neqA eqg24 (.tmp rfl rfl) (.tmp rfl rfl) (fun d => eqs24 (d + 98) _ ((e9.V.N:Nat):Int) ((e26.V.N:Nat):Int) e9.V.P e26.V.P))) ?_
 refine q_st (v:=.bool (!(decide (e9.V = e26.V)))) (fun w hs => (x_move (.tmp rfl (congrArg (fun z => Value.bool (!z)) (GViewID.beq_dec e9.V e26.V))))) ?_
 rcases Bool.eq_false_or_eq_true (decide (e9.V = e26.V)) with hc43 | hc43
 have hp43:e9.V = e26.V:=of_decide_eq_true hc43
 refine q_yes (yl (dj:=28) (b:=false) rfl rfl (congrArg Value.bool (by rw [hc43]; rfl))) ?_
 refine q_st (v:=.slice A_a n_a c_a) (fun w hs => (x_move (.tmp rfl hρ4))) ?_
 refine q_yes (yl (dj:=28) (b:=false) rfl rfl (congrArg Value.bool (by rw [hc43]; rfl))) ?_
 refine q_st (v:=.int .i64 ((i:Nat):Int)) (fun w hs => (x_move (.tmp rfl hρ6))) ?_
 refine q_yes (yl (dj:=28) (b:=false) rfl rfl (congrArg Value.bool (by rw [hc43]; rfl))) ?_
 refine q_st (v:=.pointer (some ⟨b10,(o11 + i * 4),none⟩)) (fun w hs => (ixo26 (.tmp rfl rfl) hA14 (i:=((i:Nat):Int)) (.tmp rfl rfl) (by omega) (by omega) (by omega))) ?_
 refine q_yes (yl (dj:=28) (b:=false) rfl rfl (congrArg Value.bool (by rw [hc43]; rfl))) ?_
 refine q_st (v:=.pointer (some ⟨b10,(o11 + i * 4) + 2,none⟩)) (fun w hs => (fa52_1 (.tmp rfl rfl))) ?_
 refine q_yes (yl (dj:=28) (b:=false) rfl rfl (congrArg Value.bool (by rw [hc43]; rfl))) ?_
 refine q_st (v:=.int .i64 e9.Floor) (fun w hs => (ld3 (.tmp rfl rfl) ((hat16x hs).cell 2 rfl))) ?_
 refine q_yes (yl (dj:=28) (b:=false) rfl rfl (congrArg Value.bool (by rw [hc43]; rfl))) ?_
 refine q_st (v:=.slice A_b n_b c_b) (fun w hs => (x_move (.tmp rfl hρ5))) ?_
 refine q_yes (yl (dj:=28) (b:=false) rfl rfl (congrArg Value.bool (by rw [hc43]; rfl))) ?_
 refine q_st (v:=.int .i64 ((i:Nat):Int)) (fun w hs => (x_move (.tmp rfl hρ6))) ?_
 refine q_yes (yl (dj:=28) (b:=false) rfl rfl (congrArg Value.bool (by rw [hc43]; rfl))) ?_
 refine q_st (v:=.pointer (some ⟨b27,(o28 + i * 4),none⟩)) (fun w hs => (ixo26 (.tmp rfl rfl) hA31 (i:=((i:Nat):Int)) (.tmp rfl rfl) (by omega) (by omega) (by omega))) ?_
 refine q_yes (yl (dj:=28) (b:=false) rfl rfl (congrArg Value.bool (by rw [hc43]; rfl))) ?_
 refine q_st (v:=.pointer (some ⟨b27,(o28 + i * 4) + 2,none⟩)) (fun w hs => (fa52_1 (.tmp rfl rfl))) ?_
 refine q_yes (yl (dj:=28) (b:=false) rfl rfl (congrArg Value.bool (by rw [hc43]; rfl))) ?_
 refine q_st (v:=.int .i64 e26.Floor) (fun w hs => (ld3 (.tmp rfl rfl) ((hat33x hs).cell 2 rfl))) ?_
 refine q_yes (yl (dj:=28) (b:=false) rfl rfl (congrArg Value.bool (by rw [hc43]; rfl))) ?_
 refine q_st (v:=.bool (decide ((e9.Floor:Int) ≠ e26.Floor))) (fun w hs => (x_neq (k:=.i64) (a:=e9.Floor) (b:=e26.Floor) (.tmp rfl rfl) (.tmp rfl rfl))) ?_
 refine q_st (v:=.bool (decide ((e9.Floor:Int) ≠ e26.Floor))) (fun w hs => (x_pick_f (.tmp rfl (congrArg Value.bool (by rw [hc43]; rfl))) (.tmp rfl rfl))) ?_
 refine q_st (v:=.bool (decide ((e9.Floor:Int) ≠ e26.Floor))) (fun w hs => (x_move (.tmp rfl rfl))) ?_
 rcases Bool.eq_false_or_eq_true (decide ((e9.Floor:Int) ≠ e26.Floor)) with hc44 | hc44
 have hp44:(e9.Floor:Int) ≠ e26.Floor:=of_decide_eq_true hc44
 refine q_no (yk 41 true rfl rfl hc44) rfl ?_
 refine q_no (yk 41 true rfl rfl hc44) rfl ?_
 refine q_no (yk 41 true rfl rfl hc44) rfl ?_
 refine q_no (yk 41 true rfl rfl hc44) rfl ?_
 refine q_no (yk 41 true rfl rfl hc44) rfl ?_
 refine q_no (yk 41 true rfl rfl hc44) rfl ?_
 refine q_no (yk 41 true rfl rfl hc44) rfl ?_
 refine q_no (yk 41 true rfl rfl hc44) rfl ?_
 refine q_no (yk 41 true rfl rfl hc44) rfl ?_
 refine q_no (yk 41 true rfl rfl hc44) rfl ?_
 refine q_no (yk 41 true rfl rfl hc44) rfl ?_
 refine q_no (yk 41 true rfl rfl hc44) rfl ?_
 refine q_st (v:=.bool true) (fun w hs => (x_pick_t (.tmp rfl (congrArg Value.bool hc44)) .const)) ?_
 refine q_nil ?_
 intro w hs45
 refine n_then (c_cond_t (t:=true) (.tmp rfl rfl) rfl ?_)
 refine c_seq (c_region (st (v:=.bool false) (x_assign .const) ?_))
 refine c_nil (n_then (c_ret (r_block (r_then (r_then (r_block (r_then (leave_ret (res_one (v:=.bool false) rfl (.mk rfl rfl)) ?_))))))))
 have hans46:decide (a = b) = false:=lists_ne_at hx13 hx30 (state_ne (fun h => absurd h.2.1 (by omega)))
 rw [hans46]
 exact ⟨rfl,hs45⟩
 have hp44:¬ ((e9.Floor:Int) ≠ e26.Floor):=of_decide_eq_false hc44
 refine q_yes (yk 41 false rfl rfl hc44) ?_
 refine q_st (v:=.slice A_a n_a c_a) (fun w hs => (x_move (.tmp rfl hρ4))) ?_
 refine q_yes (yk 41 false rfl rfl hc44) ?_
 refine q_st (v:=.int .i64 ((i:Nat):Int)) (fun w hs => (x_move (.tmp rfl hρ6))) ?_
 refine q_yes (yk 41 false rfl rfl hc44) ?_
 refine q_st (v:=.pointer (some ⟨b10,(o11 + i * 4),none⟩)) (fun w hs => (ixo26 (.tmp rfl rfl) hA14 (i:=((i:Nat):Int)) (.tmp rfl rfl) (by omega) (by omega) (by omega))) ?_
 refine q_yes (yk 41 false rfl rfl hc44) ?_
 refine q_st (v:=.pointer (some ⟨b10,(o11 + i * 4) + 3,none⟩)) (fun w hs => (fa52_2 (.tmp rfl rfl))) ?_
 refine q_yes (yk 41 false rfl rfl hc44) ?_
 refine q_st (v:=.slice A22 n23 c24) (fun w hs => (ld28 (.tmp rfl rfl) ((hat16x hs).cell 3 rfl))) ?_
 refine q_yes (yk 41 false rfl rfl hc44) ?_
 refine q_st (v:=.slice A_b n_b c_b) (fun w hs => (x_move (.tmp rfl hρ5))) ?_
 refine q_yes (yk 41 false rfl rfl hc44) ?_
 refine q_st (v:=.int .i64 ((i:Nat):Int)) (fun w hs => (x_move (.tmp rfl hρ6))) ?_
 refine q_yes (yk 41 false rfl rfl hc44) ?_
 refine q_st (v:=.pointer (some ⟨b27,(o28 + i * 4),none⟩)) (fun w hs => (ixo26 (.tmp rfl rfl) hA31 (i:=((i:Nat):Int)) (.tmp rfl rfl) (by omega) (by omega) (by omega))) ?_
 refine q_yes (yk 41 false rfl rfl hc44) ?_
 refine q_st (v:=.pointer (some ⟨b27,(o28 + i * 4) + 3,none⟩)) (fun w hs => (fa52_2 (.tmp rfl rfl))) ?_
 refine q_yes (yk 41 false rfl rfl hc44) ?_
 refine q_st (v:=.slice A39 n40 c41) (fun w hs => (ld28 (.tmp rfl rfl) ((hat33x hs).cell 3 rfl))) ?_
 refine q_yes (yk 41 false rfl rfl hc44) ?_
 refine q_c (v:=.bool (decide (e9.Items = e26.Items))) cb30 .func (evs2 (.tmp rfl rfl) (.tmp rfl rfl)) (fun w hs => items_spec hs e9.Items hl25 e26.Items hl42 ) ?_
 refine q_yes (yk 41 false rfl rfl hc44) ?_
 refine q_st (v:=.bool (!(decide (e9.Items = e26.Items)))) (fun w hs => (x_not (.tmp rfl rfl))) ?_
 refine q_st (v:=.bool (!(decide (e9.Items = e26.Items)))) (fun w hs => (x_pick_f (.tmp rfl (congrArg Value.bool hc44)) (.tmp rfl rfl))) ?_
 refine q_nil ?_
 intro w hs47
 refine n_then ?_
 rcases Bool.eq_false_or_eq_true (decide (e9.Items = e26.Items)) with hc48 | hc48
 refine c_cond_f (t:=false) (.tmp rfl (congrArg Value.bool (by rw [hc48]; rfl))) rfl ?_
 refine c_skip (n_block (n_then (c_region (st (v:=.int .i64 ((i:Nat):Int)) (x_move (.tmp rfl hρ6)) ?_))))
 refine st (v:=.int .i64 (((i + 1):Nat):Int)) (x_add (k:=.i64) (a:=((i:Nat):Int)) (b:=1) (.tmp rfl rfl) .const ((w64 (by omega) (by omega)).trans (by omega))) ?_
 refine st (v:=.int .i64 (((i + 1):Nat):Int)) (x_assign (.tmp rfl rfl)) ?_
 refine c_nil ?_
 refine n_then ⟨_,_,rfl,?_,(i + 1),hρ4,hρ5,rfl,(by omega),(take_eq_next ht hx13 hx30 (state_eq hp43 (by omega) hc48)),hs47,rfl⟩
 omega
 refine c_cond_t (t:=true) (.tmp rfl (congrArg Value.bool (by rw [hc48]; rfl))) rfl ?_
 refine c_seq (c_region (st (v:=.bool false) (x_assign .const) ?_))
 refine c_nil (n_then (c_ret (r_block (r_then (r_then (r_block (r_then (leave_ret (res_one (v:=.bool false) rfl (.mk rfl rfl)) ?_))))))))
 have hans49:decide (a = b) = false:=lists_ne_at hx13 hx30 (state_ne (fun h => of_decide_eq_false hc48 h.2.2))
 rw [hans49]
 exact ⟨rfl,hs47⟩
 have hp43:¬ (e9.V = e26.V):=of_decide_eq_false hc43
 refine q_no (yl (dj:=28) (b:=true) rfl rfl (congrArg Value.bool (by rw [hc43]; rfl))) rfl ?_
 refine q_no (yl (dj:=28) (b:=true) rfl rfl (congrArg Value.bool (by rw [hc43]; rfl))) rfl ?_
 refine q_no (yl (dj:=28) (b:=true) rfl rfl (congrArg Value.bool (by rw [hc43]; rfl))) rfl ?_
 refine q_no (yl (dj:=28) (b:=true) rfl rfl (congrArg Value.bool (by rw [hc43]; rfl))) rfl ?_
 refine q_no (yl (dj:=28) (b:=true) rfl rfl (congrArg Value.bool (by rw [hc43]; rfl))) rfl ?_
 refine q_no (yl (dj:=28) (b:=true) rfl rfl (congrArg Value.bool (by rw [hc43]; rfl))) rfl ?_
 refine q_no (yl (dj:=28) (b:=true) rfl rfl (congrArg Value.bool (by rw [hc43]; rfl))) rfl ?_
 refine q_no (yl (dj:=28) (b:=true) rfl rfl (congrArg Value.bool (by rw [hc43]; rfl))) rfl ?_
 refine q_no (yl (dj:=28) (b:=true) rfl rfl (congrArg Value.bool (by rw [hc43]; rfl))) rfl ?_
 refine q_no (yl (dj:=28) (b:=true) rfl rfl (congrArg Value.bool (by rw [hc43]; rfl))) rfl ?_
 refine q_no (yl (dj:=28) (b:=true) rfl rfl (congrArg Value.bool (by rw [hc43]; rfl))) rfl ?_
 refine q_st (v:=.bool true) (fun w hs => (x_pick_t (.tmp rfl (congrArg Value.bool (by rw [hc43]; rfl))) .const)) ?_
 refine q_st (v:=.bool true) (fun w hs => (x_move (.tmp rfl rfl))) ?_
 refine q_no (yl (dj:=41) (b:=true) rfl rfl rfl) rfl ?_
 refine q_no (yl (dj:=41) (b:=true) rfl rfl rfl) rfl ?_
 refine q_no (yl (dj:=41) (b:=true) rfl rfl rfl) rfl ?_
 refine q_no (yl (dj:=41) (b:=true) rfl rfl rfl) rfl ?_
 refine q_no (yl (dj:=41) (b:=true) rfl rfl rfl) rfl ?_
 refine q_no (yl (dj:=41) (b:=true) rfl rfl rfl) rfl ?_
 refine q_no (yl (dj:=41) (b:=true) rfl rfl rfl) rfl ?_
 refine q_no (yl (dj:=41) (b:=true) rfl rfl rfl) rfl ?_
 refine q_no (yl (dj:=41) (b:=true) rfl rfl rfl) rfl ?_
 refine q_no (yl (dj:=41) (b:=true) rfl rfl rfl) rfl ?_
 refine q_no (yl (dj:=41) (b:=true) rfl rfl rfl) rfl ?_
 refine q_no (yl (dj:=41) (b:=true) rfl rfl rfl) rfl ?_
 refine q_st (v:=.bool true) (fun w hs => (x_pick_t (.tmp rfl rfl) .const)) ?_
 refine q_nil ?_
 intro w hs50
 refine n_then (c_cond_t (t:=true) (.tmp rfl rfl) rfl ?_)
 refine c_seq (c_region (st (v:=.bool false) (x_assign .const) ?_))
 refine c_nil (n_then (c_ret (r_block (r_then (r_then (r_block (r_then (leave_ret (res_one (v:=.bool false) rfl (.mk rfl rfl)) ?_))))))))
 have hans51:decide (a = b) = false:=lists_ne_at hx13 hx30 (state_ne (fun h => hp43 h.1))
 rw [hans51]
 exact ⟨rfl,hs50⟩
 have hp8:¬ ((((i:Nat):Int):Int) < ((n_a:Nat):Int)):=of_decide_eq_false hc8
 refine c_cond_f (t:=false) (.tmp rfl (congrArg Value.bool hc8)) rfl ?_
 refine c_exit (x_then (x_then (x_here (n_then (c_seq (c_region (st (v:=.bool true) (x_assign .const) ?_)))))))
 refine c_nil (n_then (c_ret (leave_ret (res_one (v:=.bool true) rfl (.mk rfl rfl)) ?_)))
 have hans52:decide (a = b) = true:=lists_eq ht (by omega) (by omega)
 rw [hans52]
 exact ⟨rfl,hs7⟩
end Go.Proofs.Ytlfihfmmhhcigaa
