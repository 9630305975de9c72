/- Steps of the proofs over the functions of this seat, printed by a program (gen.py) and checked by Lean. -/
import Derived.Test.YtlfihfmmhhcigaaW01
import Derived.Test.YtlfihfmmhhcigaaW00
import Derived.Test.YtlfihfmmhhcigaaW07
set_option linter.unusedVariables false
set_option linter.unusedSimpArgs false
namespace Go.Proofs.Ytlfihfmmhhcigaa
open Go Go.FM Go.Proofs
attribute [local irreducible] wpList wpQuiet wpS Code.wp Calls
set_option maxHeartbeats 8000000 in
theorem frameLong_spec {H:Hp} {w:World} {L:List Res} (hs:St H w (L)) (n:Nat) (b_n:n < 65536):Calls Try.prog 7 #[.int .u16 ((n:Nat):Int)] w (fun e w' => e = .returned (.bool true)∧St H w' (L)):=by
 refine enter (args:=[.int .u16 ((n:Nat):Int)]) (N:=57) Try.func7 rfl rfl rfl ?_
 refine c_seq (c_region (st (v:=.bool false) (x_assign .const) ?_))
 refine c_nil (n_then (c_seq (c_seq (c_region (st_c cb11 .func (evs0 ) (awake_spec hs  ) ?_)))))
 rintro e w1 ⟨rfl,hs2⟩
 refine ⟨_,rfl,?_⟩
 refine st (v:=.bool false) (x_not (b:=true) (.tmp rfl rfl)) ?_
 refine c_nil (n_then (c_cond_f (t:=false) (.tmp rfl rfl) rfl ?_))
 refine c_skip (n_then (c_seq (c_region (st (v:=.int .u16 ((n:Nat):Int)) (x_move (.tmp rfl rfl)) ?_))))
 refine st (v:=.int .i64 ((n:Nat):Int)) (x_conv (k:=.u16) (a:=((n:Nat):Int)) Try.underlying25 Try.underlying3 (.tmp rfl rfl) (w64 (by omega) (by omega))) ?_
 refine st (v:=.int .i64 (((n % 60):Nat):Int)) (x_remN (k:=.i64) (m:=n) (n:=60) (.tmp rfl rfl) .const (by omega)) ?_
 refine st (v:=.int .i64 (((1048546 + (n % 60)):Nat):Int)) (x_add (k:=.i64) (a:=1048546) (b:=(((n % 60):Nat):Int)) .const (.tmp rfl rfl) ((w64 (by omega) (by omega)).trans (by omega))) ?_
 refine st (v:=.int .i64 (((1048546 + (n % 60)):Nat):Int)) (x_assign (.tmp rfl rfl)) ?_
 refine c_nil (n_then (c_seq (c_region (st (v:=.agg #[.int .u64 1,.int .i64 0]) (bl24 (ps:=[(0,.int .u64 1)]) (.cons .const Evp.nil) rfl) ?_))))
 refine st (v:=.int .i64 (((1048546 + (n % 60)):Nat):Int)) (x_move (.tmp rfl rfl)) ?_
 obtain ⟨i3,e4,e5,e6,e7⟩:=inf5
 refine st_m (m_make (i:=(((1048546 + (n % 60)):Nat):Int)) Try.underlying33 e4 e5 e6 rfl hs2 (.tmp rfl rfl) (.tmp rfl rfl) (by omega) (by rw [e7]; omega) (by simp only [maxLen]; omega)) ?_
 rintro v9 w8 ⟨g10,hv15,hs11,ok12⟩
 have hm14:List.replicate (1048546 + (n % 60)) (Value.int .u8 0) = ((List.replicate (1048546 + (n % 60)) 0)).map encB:=by rw [List.map_replicate]; rfl
 rw [← hv15] at hs11 ok12
 clear hv15
 have ok12:RowOk 1 v9 (1048546 + (n % 60)) ((List.replicate (1048546 + (n % 60)) 0).map encB):=by rw [← hm14]; exact ok12
 have hs16:=(show ∀ {w:World},St H w (row 5 1 v9 (1048546 + (n % 60)) (List.replicate (1048546 + (n % 60)) (Value.int .u8 0))::L) → St H w (row 5 1 v9 (1048546 + (n % 60)) ((List.replicate (1048546 + (n % 60)) 0).map encB)::L) from fun h9 => by rw [← hm14]; exact h9) hs11
 obtain ⟨H17,A18,c19,hle20,hs21,rfl,hp22⟩:=hs16.freezeBs ok12 (fun b hb => by rw [List.eq_of_mem_replicate hb]; decide) (by omega)
 have hy23:By H17 A18 (1048546 + (n % 60)) c19 (List.replicate (1048546 + (n % 60)) 0):=⟨hp22,by omega⟩
 refine st_m (m_lit (n:=1) (ps:=[(0,.slice A18 (1048546 + (n % 60)) c19)]) (cs:=[.slice A18 (1048546 + (n % 60)) c19]) Try.underlying27 inf33 (.cons (.tmp rfl rfl) Evp.nil) (by decide) (by decide) rfl rfl hs21) ?_
 rintro _ w25 ⟨g24,rfl,hs27⟩
 refine st (v:=.agg #[.int .u8 6,.int .i64 0,.int .u64 1,.int .i64 0,.int .u16 0,.int .u64 0,.int .i64 0,.int .u64 0,.int .i64 0,.slice none 0 0,.int .u64 0,.slice (some ⟨g24,0,none⟩) 1 1,.slice none 0 0,.int .u64 0,.int .u64 0]) (bl30 (ps:=[(0,.int .u8 6),(2,.agg #[.int .u64 1,.int .i64 0]),(8,.slice (some ⟨g24,0,none⟩) 1 1)]) (.cons .const (.cons (.tmp rfl rfl) (.cons (.tmp rfl rfl) Evp.nil))) rfl) ?_
 refine st_m (al30 (cs:=[.int .u8 0,.int .i64 0,.int .u64 0,.int .i64 0,.int .u16 0,.int .u64 0,.int .i64 0,.int .u64 0,.int .i64 0,.slice none 0 0,.int .u64 0,.slice none 0 0,.slice none 0 0,.int .u64 0,.int .u64 0]) hs27 rfl) ?_
 rintro _ w29 ⟨g28,rfl,hs31⟩
 refine st_m0 (sto30 (cs':=[.int .u8 6,.int .i64 0,.int .u64 1,.int .i64 0,.int .u16 0,.int .u64 0,.int .i64 0,.int .u64 0,.int .i64 0,.slice none 0 0,.int .u64 0,.slice (some ⟨g24,0,none⟩) 1 1,.slice none 0 0,.int .u64 0,.int .u64 0]) (i:=0) hs31 (v:=.agg #[.int .u8 6,.int .i64 0,.int .u64 1,.int .i64 0,.int .u16 0,.int .u64 0,.int .i64 0,.int .u64 0,.int .i64 0,.slice none 0 0,.int .u64 0,.slice (some ⟨g24,0,none⟩) 1 1,.slice none 0 0,.int .u64 0,.int .u64 0]) (.tmp rfl rfl) (.tmp rfl rfl) rfl (Nat.le_of_ble_eq_true rfl) (oneA rfl) rfl) ?_
 rintro w32 hs34
 refine c_nil (n_then (c_seq (c_region ?_)))
 have hk1:16384 ≤ (1048546 + (n % 60)):=by omega
 have hk2:(1048546 + (n % 60)) < 2097152:=by omega
 have hle:encC (GFrame.mk 6 0 (GViewID.mk 1 0) 0 (GViewID.mk 0 0) (GViewID.mk 0 0) [] 0 [(List.replicate (1048546 + (n % 60)) 0)] [] 0 0) = if 1048572 < 10 + (1048546 + (n % 60)) then ([],2) else (seal_ (bodyE (GFrame.mk 6 0 (GViewID.mk 1 0) 0 (GViewID.mk 0 0) (GViewID.mk 0 0) [] 0 [(List.replicate (1048546 + (n % 60)) 0)] [] 0 0)),0):=long_enc hk1 hk2
 have hll:(seal_ (bodyE (GFrame.mk 6 0 (GViewID.mk 1 0) 0 (GViewID.mk 0 0) (GViewID.mk 0 0) [] 0 [(List.replicate (1048546 + (n % 60)) 0)] [] 0 0))).length = 14 + (1048546 + (n % 60)):=long_len hk1 hk2
 skip
 refine st (v:=.agg #[.int .u8 6,.int .i64 0,.int .u64 1,.int .i64 0,.int .u16 0,.int .u64 0,.int .i64 0,.int .u64 0,.int .i64 0,.slice none 0 0,.int .u64 0,.slice (some ⟨g24,0,none⟩) 1 1,.slice none 0 0,.int .u64 0,.int .u64 0]) (ld30 (cs:=[.int .u8 6,.int .i64 0,.int .u64 1,.int .i64 0,.int .u16 0,.int .u64 0,.int .i64 0,.int .u64 0,.int .i64 0,.slice none 0 0,.int .u64 0,.slice (some ⟨g24,0,none⟩) 1 1,.slice none 0 0,.int .u64 0,.int .u64 0]) (.tmp rfl rfl) (hs34.at_ 0 rfl (0) rfl) rfl) ?_
 have hs35:=hs34.p1
 have hr41:kBs.rep H17 (List.replicate (1048546 + (n % 60)) 0) [.slice A18 (1048546 + (n % 60)) c19]:=⟨A18,(1048546 + (n % 60)),c19,rfl,hy23⟩
 have hk42:kBs.toKn.rows H17 [(List.replicate (1048546 + (n % 60)) 0)] [.slice A18 (1048546 + (n % 60)) c19]:=Kn.rows_one hr41
 obtain ⟨H36,hle37,hs38,rd39,hb40⟩:=hs35.freezeObj
 have sp43:Sl kBs H36 ((some ⟨g24,0,none⟩)) 1 1 [(List.replicate (1048546 + (n % 60)) 0)]:=⟨⟨_,rd39,Kn.rows_mono hk42 hle37⟩,rfl,Nat.le_refl _,by decide,by decide⟩
 have hr44:kFrame.rep H36 (GFrame.mk 6 0 (GViewID.mk 1 0) 0 (GViewID.mk 0 0) (GViewID.mk 0 0) [] 0 [(List.replicate (1048546 + (n % 60)) 0)] [] 0 0) [.int .u8 6,.int .i64 0,.int .u64 1,.int .i64 0,.int .u16 0,.int .u64 0,.int .i64 0,.int .u64 0,.int .i64 0,.slice none 0 0,.int .u64 0,.slice (some ⟨g24,0,none⟩) 1 1,.slice none 0 0,.int .u64 0,.int .u64 0]:=⟨none,0,0,(some ⟨g24,0,none⟩),1,1,none,0,0,rfl,(show 6 < 256 from by omega),(show IB 0 from ⟨by omega,by omega⟩),(show 1 < 18446744073709551616 from by omega),(show IB 0 from ⟨by omega,by omega⟩),(show 0 < 65536 from by omega),(show 0 < 18446744073709551616 from by omega),(show IB 0 from ⟨by omega,by omega⟩),(show 0 < 18446744073709551616 from by omega),(show IB 0 from ⟨by omega,by omega⟩),(Sl.nil _ _ none),(show 0 < 18446744073709551616 from by omega),sp43,(Sl.nil _ _ none),(show 0 < 18446744073709551616 from by omega),(show 0 < 18446744073709551616 from by omega)⟩
 refine st_c cb13 .func (evs1 (.tmp rfl rfl)) (encode_spec hs38 (GFrame.mk 6 0 (GViewID.mk 1 0) 0 (GViewID.mk 0 0) (GViewID.mk 0 0) [] 0 [(List.replicate (1048546 + (n % 60)) 0)] [] 0 0) hr44 (long_big hk1 hk2)) ?_
 rintro e w45 ⟨H47,v49,hle48,rfl,sm52,ok50,hs46⟩
 refine ⟨_,rfl,?_⟩
 refine st (v:=.tuple #[v49,.int .i64 ((encC (GFrame.mk 6 0 (GViewID.mk 1 0) 0 (GViewID.mk 0 0) (GViewID.mk 0 0) [] 0 [(List.replicate (1048546 + (n % 60)) 0)] [] 0 0)).2)]) (x_move (.tmp rfl rfl)) ?_
 refine st (v:=v49) (x_extract (.tmp rfl rfl) (i:=0) rfl) ?_
 refine st (v:=.int .i64 ((encC (GFrame.mk 6 0 (GViewID.mk 1 0) 0 (GViewID.mk 0 0) (GViewID.mk 0 0) [] 0 [(List.replicate (1048546 + (n % 60)) 0)] [] 0 0)).2)) (x_extract (.tmp rfl rfl) (i:=1) rfl) ?_
 refine st (v:=v49) (x_assign (.tmp rfl rfl)) ?_
 refine st (v:=.int .i64 ((encC (GFrame.mk 6 0 (GViewID.mk 1 0) 0 (GViewID.mk 0 0) (GViewID.mk 0 0) [] 0 [(List.replicate (1048546 + (n % 60)) 0)] [] 0 0)).2)) (x_assign (.tmp rfl rfl)) ?_
 refine c_nil (n_then (c_seq (c_region ?_)))
 obtain ⟨i53,e54,e55,e56,e57⟩:=inf5
 refine st_m (m_make (i:=1048577) Try.underlying33 e54 e55 e56 rfl hs46 .const .const (by omega) (by rw [e57]; omega) (by simp only [maxLen]; omega)) ?_
 rintro v59 w58 ⟨g60,hv65,hs61,ok62⟩
 have hm64:List.replicate 1048577 (Value.int .u8 0) = ((List.replicate 1048577 0)).map encB:=by rw [List.map_replicate]; rfl
 rw [← hv65] at hs61 ok62
 clear hv65
 have ok62:RowOk 1 v59 1048577 ((List.replicate 1048577 0).map encB):=by rw [← hm64]; exact ok62
 have hs66:=(show ∀ {w:World},St H47 w (row 5 1 v59 1048577 (List.replicate 1048577 (Value.int .u8 0))::row 5 1 v49 (((encC (GFrame.mk 6 0 (GViewID.mk 1 0) 0 (GViewID.mk 0 0) (GViewID.mk 0 0) [] 0 [(List.replicate (1048546 + (n % 60)) 0)] [] 0 0)).1).length) (((encC (GFrame.mk 6 0 (GViewID.mk 1 0) 0 (GViewID.mk 0 0) (GViewID.mk 0 0) [] 0 [(List.replicate (1048546 + (n % 60)) 0)] [] 0 0)).1).map encB)::obj g28 30 [.int .u8 6,.int .i64 0,.int .u64 1,.int .i64 0,.int .u16 0,.int .u64 0,.int .i64 0,.int .u64 0,.int .i64 0,.slice none 0 0,.int .u64 0,.slice (some ⟨g24,0,none⟩) 1 1,.slice none 0 0,.int .u64 0,.int .u64 0]::L) → St H47 w (row 5 1 v59 1048577 ((List.replicate 1048577 0).map encB)::row 5 1 v49 (((encC (GFrame.mk 6 0 (GViewID.mk 1 0) 0 (GViewID.mk 0 0) (GViewID.mk 0 0) [] 0 [(List.replicate (1048546 + (n % 60)) 0)] [] 0 0)).1).length) (((encC (GFrame.mk 6 0 (GViewID.mk 1 0) 0 (GViewID.mk 0 0) (GViewID.mk 0 0) [] 0 [(List.replicate (1048546 + (n % 60)) 0)] [] 0 0)).1).map encB)::obj g28 30 [.int .u8 6,.int .i64 0,.int .u64 1,.int .i64 0,.int .u16 0,.int .u64 0,.int .i64 0,.int .u64 0,.int .i64 0,.slice none 0 0,.int .u64 0,.slice (some ⟨g24,0,none⟩) 1 1,.slice none 0 0,.int .u64 0,.int .u64 0]::L) from fun h9 => by rw [← hm64]; exact h9) hs61
 obtain ⟨H67,A68,c69,hle70,hs71,rfl,hp72⟩:=hs66.freezeBs ok62 (fun b hb => by rw [List.eq_of_mem_replicate hb]; decide) (by omega)
 have hy73:By H67 A68 1048577 c69 (List.replicate 1048577 0):=⟨hp72,by omega⟩
 refine st_c cb15 .func (evs1 (.tmp rfl rfl)) (decode_spec hs71 (List.replicate 1048577 0) hy73 ) ?_
 rintro e w74 ⟨H76,cs78,hle77,rfl,hr79,hs75⟩
 obtain ⟨A93,n94,c95,A98,n99,c100,A102,n103,c104,rfl,b80,⟨b81,b82⟩,b83,⟨b84,b85⟩,b86,b87,⟨b88,b89⟩,b90,⟨b91,b92⟩,hl96,b97,hl101,hl105,b106,b107⟩:=hr79
 have:=hl96.len; have:n94 * 48 ≤ 140737488351232:=hl96.bnd; have:=hl96.le
 have:=hl101.len; have:n99 * 24 ≤ 140737488351232:=hl101.bnd; have:=hl101.le
 have:=hl105.len; have:n103 * 32 ≤ 140737488351232:=hl105.bnd; have:=hl105.le
 refine ⟨_,rfl,?_⟩
 refine st (v:=.tuple #[.agg #[.int .u8 (((((decA (List.replicate 1048577 0)).1).Kind):Nat):Int),.int .i64 (((decA (List.replicate 1048577 0)).1).From),.int .u64 ((((((decA (List.replicate 1048577 0)).1).ID).N):Nat):Int),.int .i64 ((((decA (List.replicate 1048577 0)).1).ID).P),.int .u16 (((((decA (List.replicate 1048577 0)).1).Set):Nat):Int),.int .u64 ((((((decA (List.replicate 1048577 0)).1).Cur).N):Nat):Int),.int .i64 ((((decA (List.replicate 1048577 0)).1).Cur).P),.int .u64 ((((((decA (List.replicate 1048577 0)).1).Prom).N):Nat):Int),.int .i64 ((((decA (List.replicate 1048577 0)).1).Prom).P),.slice A93 n94 c95,.int .u64 (((((decA (List.replicate 1048577 0)).1).Base):Nat):Int),.slice A98 n99 c100,.slice A102 n103 c104,.int .u64 (((((decA (List.replicate 1048577 0)).1).Ack):Nat):Int),.int .u64 (((((decA (List.replicate 1048577 0)).1).Safe):Nat):Int)],.int .i64 ((decA (List.replicate 1048577 0)).2)]) (x_move (.tmp rfl rfl)) ?_
 refine st (v:=.agg #[.int .u8 (((((decA (List.replicate 1048577 0)).1).Kind):Nat):Int),.int .i64 (((decA (List.replicate 1048577 0)).1).From),.int .u64 ((((((decA (List.replicate 1048577 0)).1).ID).N):Nat):Int),.int .i64 ((((decA (List.replicate 1048577 0)).1).ID).P),.int .u16 (((((decA (List.replicate 1048577 0)).1).Set):Nat):Int),.int .u64 ((((((decA (List.replicate 1048577 0)).1).Cur).N):Nat):Int),.int .i64 ((((decA (List.replicate 1048577 0)).1).Cur).P),.int .u64 ((((((decA (List.replicate 1048577 0)).1).Prom).N):Nat):Int),.int .i64 ((((decA (List.replicate 1048577 0)).1).Prom).P),.slice A93 n94 c95,.int .u64 (((((decA (List.replicate 1048577 0)).1).Base):Nat):Int),.slice A98 n99 c100,.slice A102 n103 c104,.int .u64 (((((decA (List.replicate 1048577 0)).1).Ack):Nat):Int),.int .u64 (((((decA (List.replicate 1048577 0)).1).Safe):Nat):Int)]) (x_extract (.tmp rfl rfl) (i:=0) rfl) ?_
 refine st (v:=.int .i64 ((decA (List.replicate 1048577 0)).2)) (x_extract (.tmp rfl rfl) (i:=1) rfl) ?_
 refine st_m (al30 (cs:=[.int .u8 0,.int .i64 0,.int .u64 0,.int .i64 0,.int .u16 0,.int .u64 0,.int .i64 0,.int .u64 0,.int .i64 0,.slice none 0 0,.int .u64 0,.slice none 0 0,.slice none 0 0,.int .u64 0,.int .u64 0]) hs75 rfl) ?_
 rintro _ w109 ⟨g108,rfl,hs111⟩
 refine st_m0 (sto30 (cs':=[.int .u8 (((((decA (List.replicate 1048577 0)).1).Kind):Nat):Int),.int .i64 (((decA (List.replicate 1048577 0)).1).From),.int .u64 ((((((decA (List.replicate 1048577 0)).1).ID).N):Nat):Int),.int .i64 ((((decA (List.replicate 1048577 0)).1).ID).P),.int .u16 (((((decA (List.replicate 1048577 0)).1).Set):Nat):Int),.int .u64 ((((((decA (List.replicate 1048577 0)).1).Cur).N):Nat):Int),.int .i64 ((((decA (List.replicate 1048577 0)).1).Cur).P),.int .u64 ((((((decA (List.replicate 1048577 0)).1).Prom).N):Nat):Int),.int .i64 ((((decA (List.replicate 1048577 0)).1).Prom).P),.slice A93 n94 c95,.int .u64 (((((decA (List.replicate 1048577 0)).1).Base):Nat):Int),.slice A98 n99 c100,.slice A102 n103 c104,.int .u64 (((((decA (List.replicate 1048577 0)).1).Ack):Nat):Int),.int .u64 (((((decA (List.replicate 1048577 0)).1).Safe):Nat):Int)]) (i:=0) hs111 (v:=.agg #[.int .u8 (((((decA (List.replicate 1048577 0)).1).Kind):Nat):Int),.int .i64 (((decA (List.replicate 1048577 0)).1).From),.int .u64 ((((((decA (List.replicate 1048577 0)).1).ID).N):Nat):Int),.int .i64 ((((decA (List.replicate 1048577 0)).1).ID).P),.int .u16 (((((decA (List.replicate 1048577 0)).1).Set):Nat):Int),.int .u64 ((((((decA (List.replicate 1048577 0)).1).Cur).N):Nat):Int),.int .i64 ((((decA (List.replicate 1048577 0)).1).Cur).P),.int .u64 ((((((decA (List.replicate 1048577 0)).1).Prom).N):Nat):Int),.int .i64 ((((decA (List.replicate 1048577 0)).1).Prom).P),.slice A93 n94 c95,.int .u64 (((((decA (List.replicate 1048577 0)).1).Base):Nat):Int),.slice A98 n99 c100,.slice A102 n103 c104,.int .u64 (((((decA (List.replicate 1048577 0)).1).Ack):Nat):Int),.int .u64 (((((decA (List.replicate 1048577 0)).1).Safe):Nat):Int)]) (.tmp rfl rfl) (.tmp rfl rfl) rfl (Nat.le_of_ble_eq_true rfl) (oneA rfl) rfl) ?_
 rintro w112 hs114
 refine st (v:=.int .i64 ((decA (List.replicate 1048577 0)).2)) (x_assign (.tmp rfl rfl)) ?_
 refine c_nil (n_then (c_seq (c_region (st (v:=.int .i64 (((1048546 + (n % 60)):Nat):Int)) (x_move (.tmp rfl rfl)) ?_))))
 refine st (v:=.int .i64 (((10 + (1048546 + (n % 60))):Nat):Int)) (x_add (k:=.i64) (a:=10) (b:=(((1048546 + (n % 60)):Nat):Int)) .const (.tmp rfl rfl) ((w64 (by omega) (by omega)).trans (by omega))) ?_
 refine st (v:=.int .i64 ((((10 + (1048546 + (n % 60))) + 4):Nat):Int)) (x_add (k:=.i64) (a:=(((10 + (1048546 + (n % 60))):Nat):Int)) (b:=4) (.tmp rfl rfl) .const ((w64 (by omega) (by omega)).trans (by omega))) ?_
 refine st (v:=.bool (decide ((1048576:Int) < ((((10 + (1048546 + (n % 60))) + 4):Nat):Int)))) (x_gtr (k:=.i64) (a:=((((10 + (1048546 + (n % 60))) + 4):Nat):Int)) (b:=1048576) (.tmp rfl rfl) .const) ?_
 refine st (v:=.bool (decide ((1048576:Int) < ((((10 + (1048546 + (n % 60))) + 4):Nat):Int)))) (x_assign (.tmp rfl rfl)) ?_
 refine c_nil (n_then (c_seq (c_region (st (v:=.int .i64 ((decA (List.replicate 1048577 0)).2)) (x_move (.tmp rfl rfl)) ?_))))
 refine st (v:=.bool (decide ((((decA (List.replicate 1048577 0)).2):Int) = 2))) (x_eql (k:=.i64) (a:=((decA (List.replicate 1048577 0)).2)) (b:=2) (.tmp rfl rfl) .const) ?_
 refine st (v:=.bool (decide ((((decA (List.replicate 1048577 0)).2):Int) = 2))) (x_move (.tmp rfl rfl)) ?_
 have hc115:(decide ((((decA (List.replicate 1048577 0)).2):Int) = 2)) = true:=(decide_eq_true (decA_zeros _ (by omega)))
 refine g_yes (yk 37 true rfl rfl hc115) ?_
 refine st (v:=.bool (decide ((1048576:Int) < ((((10 + (1048546 + (n % 60))) + 4):Nat):Int)))) (x_move (.tmp rfl rfl)) ?_
 refine g_yes (yk 37 true rfl rfl hc115) ?_
 refine st (v:=.int .i64 ((encC (GFrame.mk 6 0 (GViewID.mk 1 0) 0 (GViewID.mk 0 0) (GViewID.mk 0 0) [] 0 [(List.replicate (1048546 + (n % 60)) 0)] [] 0 0)).2)) (x_move (.tmp rfl rfl)) ?_
 refine g_yes (yk 37 true rfl rfl hc115) ?_
 refine st (v:=.bool (decide ((((encC (GFrame.mk 6 0 (GViewID.mk 1 0) 0 (GViewID.mk 0 0) (GViewID.mk 0 0) [] 0 [(List.replicate (1048546 + (n % 60)) 0)] [] 0 0)).2):Int) = 2))) (x_eql (k:=.i64) (a:=((encC (GFrame.mk 6 0 (GViewID.mk 1 0) 0 (GViewID.mk 0 0) (GViewID.mk 0 0) [] 0 [(List.replicate (1048546 + (n % 60)) 0)] [] 0 0)).2)) (b:=2) (.tmp rfl rfl) .const) ?_
 refine g_yes (yk 37 true rfl rfl hc115) ?_
 refine st (v:=.bool ((decide ((1048576:Int) < ((((10 + (1048546 + (n % 60))) + 4):Nat):Int))) == (decide ((((encC (GFrame.mk 6 0 (GViewID.mk 1 0) 0 (GViewID.mk 0 0) (GViewID.mk 0 0) [] 0 [(List.replicate (1048546 + (n % 60)) 0)] [] 0 0)).2):Int) = 2)))) (x_eqlB Try.underlying4 (.tmp rfl rfl) (.tmp rfl rfl)) ?_
 refine st (v:=.bool ((decide ((1048576:Int) < ((((10 + (1048546 + (n % 60))) + 4):Nat):Int))) == (decide ((((encC (GFrame.mk 6 0 (GViewID.mk 1 0) 0 (GViewID.mk 0 0) (GViewID.mk 0 0) [] 0 [(List.replicate (1048546 + (n % 60)) 0)] [] 0 0)).2):Int) = 2)))) (x_pick_t (.tmp rfl (congrArg Value.bool hc115)) (.tmp rfl rfl)) ?_
 refine st (v:=.bool ((decide ((1048576:Int) < ((((10 + (1048546 + (n % 60))) + 4):Nat):Int))) == (decide ((((encC (GFrame.mk 6 0 (GViewID.mk 1 0) 0 (GViewID.mk 0 0) (GViewID.mk 0 0) [] 0 [(List.replicate (1048546 + (n % 60)) 0)] [] 0 0)).2):Int) = 2)))) (x_move (.tmp rfl rfl)) ?_
 have hc116:((decide ((1048576:Int) < ((((10 + (1048546 + (n % 60))) + 4):Nat):Int))) == (decide ((((encC (GFrame.mk 6 0 (GViewID.mk 1 0) 0 (GViewID.mk 0 0) (GViewID.mk 0 0) [] 0 [(List.replicate (1048546 + (n % 60)) 0)] [] 0 0)).2):Int) = 2))) = true:=(if h9:1048572 < 10 + (1048546 + (n % 60)) then (by rw [hle,if_pos h9,decide_eq_true (by omega)]; rfl) else (by rw [hle,if_neg h9,decide_eq_false (by omega)]; rfl))
 refine g_yes (yk 43 true rfl rfl hc116) ?_
 refine st (v:=.bool (decide ((1048576:Int) < ((((10 + (1048546 + (n % 60))) + 4):Nat):Int)))) (x_move (.tmp rfl rfl)) ?_
 refine g_yes (yk 43 true rfl rfl hc116) ?_
 refine st (v:=.bool (decide ((1048576:Int) < ((((10 + (1048546 + (n % 60))) + 4):Nat):Int)))) (x_move (.tmp rfl rfl)) ?_
 rcases Bool.eq_false_or_eq_true (decide ((1048576:Int) < ((((10 + (1048546 + (n % 60))) + 4):Nat):Int))) with hc117 | hc117
 have hp117:(1048576:Int) < ((((10 + (1048546 + (n % 60))) + 4):Nat):Int):=of_decide_eq_true hc117
 refine g_no (yk 45 true rfl rfl hc117) rfl ?_
 refine g_no (yk 45 true rfl rfl hc117) rfl ?_
 refine g_no (yk 45 true rfl rfl hc117) rfl ?_
 refine g_no0 (yn (dj:=48) rfl rfl) ?_
 refine g_no0 (yn (dj:=48) rfl rfl) ?_
 refine g_no0 (yn (dj:=48) rfl rfl) ?_
 refine g_no0 (yn (dj:=48) rfl rfl) ?_
 refine g_no0 (yn (dj:=48) rfl rfl) ?_
 refine g_no (yk 45 true rfl rfl hc117) rfl ?_
 refine g_yes (yk 43 true rfl rfl hc116) ?_
 refine st (v:=.bool true) (x_pick_t (.tmp rfl (congrArg Value.bool hc117)) .const) ?_
 refine st (v:=.bool true) (x_pick_t (.tmp rfl (congrArg Value.bool hc116)) (.tmp rfl rfl)) ?_
 refine st (v:=.bool true) (x_assign (.tmp rfl rfl)) ?_
 refine c_nil (n_then (c_ret (leave_ret (res_one (v:=.bool true) rfl (.mk rfl rfl)) ?_)))
 exact ⟨rfl,(hs114.drop.drop.drop.weaken ((((hle20.trans hle37).trans hle48).trans hle70).trans hle77))⟩
 have hp117:¬ ((1048576:Int) < ((((10 + (1048546 + (n % 60))) + 4):Nat):Int)):=of_decide_eq_false hc117
 refine g_yes (yk 45 false rfl rfl hc117) ?_
 refine st (v:=.int .i64 ((encC (GFrame.mk 6 0 (GViewID.mk 1 0) 0 (GViewID.mk 0 0) (GViewID.mk 0 0) [] 0 [(List.replicate (1048546 + (n % 60)) 0)] [] 0 0)).2)) (x_move (.tmp rfl rfl)) ?_
 refine g_yes (yk 45 false rfl rfl hc117) ?_
 refine st (v:=.bool (decide ((((encC (GFrame.mk 6 0 (GViewID.mk 1 0) 0 (GViewID.mk 0 0) (GViewID.mk 0 0) [] 0 [(List.replicate (1048546 + (n % 60)) 0)] [] 0 0)).2):Int) = 0))) (x_eql (k:=.i64) (a:=((encC (GFrame.mk 6 0 (GViewID.mk 1 0) 0 (GViewID.mk 0 0) (GViewID.mk 0 0) [] 0 [(List.replicate (1048546 + (n % 60)) 0)] [] 0 0)).2)) (b:=0) (.tmp rfl rfl) .const) ?_
 refine g_yes (yk 45 false rfl rfl hc117) ?_
 refine st (v:=.bool (decide ((((encC (GFrame.mk 6 0 (GViewID.mk 1 0) 0 (GViewID.mk 0 0) (GViewID.mk 0 0) [] 0 [(List.replicate (1048546 + (n % 60)) 0)] [] 0 0)).2):Int) = 0))) (x_move (.tmp rfl rfl)) ?_
 have hc118:(decide ((((encC (GFrame.mk 6 0 (GViewID.mk 1 0) 0 (GViewID.mk 0 0) (GViewID.mk 0 0) [] 0 [(List.replicate (1048546 + (n % 60)) 0)] [] 0 0)).2):Int) = 0)) = true:=(decide_eq_true (by rw [hle,if_neg (by omega)]))
 refine g_yes (yk 48 true rfl rfl hc118) ?_
 refine st (v:=v49) (x_move (.tmp rfl rfl)) ?_
 refine g_yes (yk 48 true rfl rfl hc118) ?_
 obtain ⟨A119,c120,hv121,hc122⟩:=ok50.slice
 refine st (v:=.int .i64 ((((encC (GFrame.mk 6 0 (GViewID.mk 1 0) 0 (GViewID.mk 0 0) (GViewID.mk 0 0) [] 0 [(List.replicate (1048546 + (n % 60)) 0)] [] 0 0)).1).length:Nat):Int)) (x_len (n:=((encC (GFrame.mk 6 0 (GViewID.mk 1 0) 0 (GViewID.mk 0 0) (GViewID.mk 0 0) [] 0 [(List.replicate (1048546 + (n % 60)) 0)] [] 0 0)).1).length) Try.underlying33 (.tmp rfl hv121)) ?_
 refine g_yes (yk 48 true rfl rfl hc118) ?_
 refine st (v:=.int .i64 (((1048546 + (n % 60)):Nat):Int)) (x_move (.tmp rfl rfl)) ?_
 refine g_yes (yk 48 true rfl rfl hc118) ?_
 refine st (v:=.int .i64 (((14 + (1048546 + (n % 60))):Nat):Int)) (x_add (k:=.i64) (a:=14) (b:=(((1048546 + (n % 60)):Nat):Int)) .const (.tmp rfl rfl) ((w64 (by omega) (by omega)).trans (by omega))) ?_
 refine g_yes (yk 48 true rfl rfl hc118) ?_
 refine st (v:=.bool (decide ((((((encC (GFrame.mk 6 0 (GViewID.mk 1 0) 0 (GViewID.mk 0 0) (GViewID.mk 0 0) [] 0 [(List.replicate (1048546 + (n % 60)) 0)] [] 0 0)).1).length:Nat):Int):Int) = (((14 + (1048546 + (n % 60))):Nat):Int)))) (x_eql (k:=.i64) (a:=((((encC (GFrame.mk 6 0 (GViewID.mk 1 0) 0 (GViewID.mk 0 0) (GViewID.mk 0 0) [] 0 [(List.replicate (1048546 + (n % 60)) 0)] [] 0 0)).1).length:Nat):Int)) (b:=(((14 + (1048546 + (n % 60))):Nat):Int)) (.tmp rfl rfl) (.tmp rfl rfl)) ?_
 refine g_yes (yk 45 false rfl rfl hc117) ?_
 refine st (v:=.bool (decide ((((((encC (GFrame.mk 6 0 (GViewID.mk 1 0) 0 (GViewID.mk 0 0) (GViewID.mk 0 0) [] 0 [(List.replicate (1048546 + (n % 60)) 0)] [] 0 0)).1).length:Nat):Int):Int) = (((14 + (1048546 + (n % 60))):Nat):Int)))) (x_pick_t (.tmp rfl (congrArg Value.bool hc118)) (.tmp rfl rfl)) ?_
 refine g_yes (yk 43 true rfl rfl hc116) ?_
 refine st (v:=.bool (decide ((((((encC (GFrame.mk 6 0 (GViewID.mk 1 0) 0 (GViewID.mk 0 0) (GViewID.mk 0 0) [] 0 [(List.replicate (1048546 + (n % 60)) 0)] [] 0 0)).1).length:Nat):Int):Int) = (((14 + (1048546 + (n % 60))):Nat):Int)))) (x_pick_f (.tmp rfl (congrArg Value.bool hc117)) (.tmp rfl rfl)) ?_
 refine st (v:=.bool (decide ((((((encC (GFrame.mk 6 0 (GViewID.mk 1 0) 0 (GViewID.mk 0 0) (GViewID.mk 0 0) [] 0 [(List.replicate (1048546 + (n % 60)) 0)] [] 0 0)).1).length:Nat):Int):Int) = (((14 + (1048546 + (n % 60))):Nat):Int)))) (x_pick_t (.tmp rfl (congrArg Value.bool hc116)) (.tmp rfl rfl)) ?_
 refine st (v:=.bool (decide ((((((encC (GFrame.mk 6 0 (GViewID.mk 1 0) 0 (GViewID.mk 0 0) (GViewID.mk 0 0) [] 0 [(List.replicate (1048546 + (n % 60)) 0)] [] 0 0)).1).length:Nat):Int):Int) = (((14 + (1048546 + (n % 60))):Nat):Int)))) (x_assign (.tmp rfl rfl)) ?_
 refine c_nil (n_then (c_ret (leave_ret (res_one (v:=.bool (decide ((((((encC (GFrame.mk 6 0 (GViewID.mk 1 0) 0 (GViewID.mk 0 0) (GViewID.mk 0 0) [] 0 [(List.replicate (1048546 + (n % 60)) 0)] [] 0 0)).1).length:Nat):Int):Int) = (((14 + (1048546 + (n % 60))):Nat):Int)))) rfl (.mk rfl rfl)) ?_)))
 have hyes:(decide ((((((encC (GFrame.mk 6 0 (GViewID.mk 1 0) 0 (GViewID.mk 0 0) (GViewID.mk 0 0) [] 0 [(List.replicate (1048546 + (n % 60)) 0)] [] 0 0)).1).length:Nat):Int):Int) = (((14 + (1048546 + (n % 60))):Nat):Int))) = true:=(decide_eq_true (by rw [hle,if_neg (by omega),hll]))
 rw [hyes]
 exact ⟨rfl,(hs114.drop.drop.drop.weaken ((((hle20.trans hle37).trans hle48).trans hle70).trans hle77))⟩
end Go.Proofs.Ytlfihfmmhhcigaa
