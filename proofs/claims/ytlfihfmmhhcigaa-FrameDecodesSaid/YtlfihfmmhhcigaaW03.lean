/- Steps of the proofs over the functions of this seat, printed by a program (gen.py) and checked by Lean. -/
import Derived.Test.YtlfihfmmhhcigaaW01
import Derived.Test.YtlfihfmmhhcigaaW00
import Derived.Test.YtlfihfmmhhcigaaW02
set_option linter.unusedVariables false
set_option linter.unusedSimpArgs false
namespace Go.Proofs.Ytlfihfmmhhcigaa
open Go Go.FM Go.Proofs
attribute [local irreducible] wpList wpQuiet wpS Code.wp Calls
set_option maxHeartbeats 8000000 in
theorem sum_spec {H:Hp} {w:World} {L:List Res} (hs:St H w L) {A:Option Addr} {n c:Nat} {bs:List Nat} (hp:Bs H A n c bs) (hn:n ≤ 140737488355320):Calls Try.prog 59 #[.slice A n c] w (fun e w' => e = .returned (.int .u32 ((crc bs:Nat):Int))∧St H w' L):=by
 refine enter (args:=[.slice A n c]) (N:=29) Try.func59 rfl rfl rfl ?_
 have hle:=hp.le
 have hlen:=hp.len
 refine c_seq (c_region (st (v:=.int .u32 0) (x_assign .const) ?_))
 refine c_nil (n_then (c_seq (c_region (st (v:=.int .u32 4294967295) (x_assign .const) ?_))))
 refine c_nil (n_then (c_seq (c_seq (c_region (st (v:=.slice A n c) (x_move (.tmp rfl rfl)) ?_)))))
 refine st (v:=.int .i64 ((n:Nat):Int)) (x_len (n:=n) Try.underlying33 (.tmp rfl rfl)) ?_
 refine st (v:=.int .i64 0) (x_move .const) ?_
 refine c_nil (n_then (c_block (c_loop (fun ρ w mm => ∃ (i:Nat) (cc:Nat),ρ 3 = .int .u32 ((cc:Nat):Int)∧ρ 6 = .slice A n c∧ρ 7 = .int .i64 ((n:Nat):Int)∧ρ 8 = .int .i64 ((i:Nat):Int)∧(i ≤ n)∧(cc < 4294967296)∧(cc = crcR 4294967295 (bs.take i))∧St H w (L)∧mm = n - i) _ ⟨0,4294967295,rfl,rfl,rfl,rfl,(by omega),(by decide),rfl,hs,rfl⟩ ?_)))
 rintro ρ w mm ⟨i,cc,hρ2,hρ3,hρ4,hρ5,hi,hc,he,hs6,rfl⟩
 refine c_seq (c_region (st (v:=.bool (decide ((((i:Nat):Int):Int) < ((n:Nat):Int)))) (x_lss (k:=.i64) (a:=((i:Nat):Int)) (b:=((n:Nat):Int)) (.tmp rfl hρ5) (.tmp rfl hρ4)) ?_))
 refine c_nil (n_then (c_seq ?_))
 rcases Bool.eq_false_or_eq_true (decide ((((i:Nat):Int):Int) < ((n:Nat):Int))) with hc7 | hc7
 have hp7:(((i:Nat):Int):Int) < ((n:Nat):Int):=of_decide_eq_true hc7
 refine c_cond_t (t:=true) (.tmp rfl (congrArg Value.bool hc7)) rfl ?_
 refine c_skip (n_then (c_seq (c_block (c_seq (c_region ?_)))))
 obtain ⟨b8,o9,hA10,hc11⟩:=hp.get (i:=i) (by omega)
 refine st (v:=.pointer (some ⟨b8,(o9 + i * 1),none⟩)) (ixo33 (.tmp rfl hρ3) hA10 (i:=((i:Nat):Int)) (.tmp rfl hρ5) (by omega) (by omega) rfl) ?_
 refine st (v:=.int .u8 ((bs.getD i 0:Nat):Int)) (ld5 (.tmp rfl rfl) (hc11 hs6)) ?_
 refine st (v:=.int .u8 ((bs.getD i 0:Nat):Int)) (x_assign (.tmp rfl rfl)) ?_
 refine c_nil (n_then (c_seq (c_region (st (v:=.int .u32 ((cc:Nat):Int)) (x_move (.tmp rfl hρ2)) ?_))))
 refine st (v:=.int .u8 ((bs.getD i 0:Nat):Int)) (x_move (.tmp rfl rfl)) ?_
 have hb12:(bs.getD i 0) < 4294967296:=Nat.lt_of_lt_of_le (hp.lt.getD _) (by decide)
 refine st (v:=.int .u32 (((bs.getD i 0):Nat):Int)) (x_conv (k:=.u8) (a:=((bs.getD i 0:Nat):Int)) Try.underlying5 Try.underlying45 (.tmp rfl rfl) (wU rfl rfl hb12)) ?_
 have hb13:(cc ^^^ (bs.getD i 0)) < 4294967296:=Nat.xor_lt_two_pow (n:=32) hc hb12
 refine st (v:=.int .u32 (((cc ^^^ (bs.getD i 0)):Nat):Int)) (x_xor (k:=.u32) (m:=cc) (n:=(bs.getD i 0)) rfl (.tmp rfl rfl) (.tmp rfl rfl) (show _ < 2 ^ 32 from hc) (show _ < 2 ^ 32 from hb12)) ?_
 refine st (v:=.int .u32 (((cc ^^^ (bs.getD i 0)):Nat):Int)) (x_assign (.tmp rfl rfl)) ?_
 refine c_nil (n_then (c_seq (c_region (st (v:=.int .i64 0) (x_move .const) ?_))))
 refine c_nil (n_then (c_block (c_loop (fun ρ w mm => ∃ (j:Nat) (d:Nat),ρ 3 = .int .u32 ((d:Nat):Int)∧ρ 6 = .slice A n c∧ρ 7 = .int .i64 ((n:Nat):Int)∧ρ 8 = .int .i64 ((i:Nat):Int)∧ρ 16 = .int .i64 ((j:Nat):Int)∧(j ≤ 8)∧(d < 4294967296)∧(d = cbits j (cc ^^^ bs.getD i 0))∧St H w (L)∧mm = 8 - j) _ ⟨0,(cc ^^^ (bs.getD i 0)),rfl,hρ3,hρ4,hρ5,rfl,(by omega),hb13,rfl,hs6,rfl⟩ ?_)))
 rintro ρ w mm ⟨j,d,hρ15,hρ16,hρ17,hρ18,hρ19,hj,hd,he2,hs20,rfl⟩
 refine c_seq (c_region (st (v:=.bool (decide ((((j:Nat):Int):Int) < 8))) (x_lss (k:=.i64) (a:=((j:Nat):Int)) (b:=8) (.tmp rfl hρ19) .const) ?_))
 refine c_nil (n_then (c_seq ?_))
 rcases Bool.eq_false_or_eq_true (decide ((((j:Nat):Int):Int) < 8)) with hc21 | hc21
 have hp21:(((j:Nat):Int):Int) < 8:=of_decide_eq_true hc21
 refine c_cond_t (t:=true) (.tmp rfl (congrArg Value.bool hc21)) rfl ?_
 refine c_skip (n_then (c_seq (c_block (c_region (st (v:=.int .u32 ((d:Nat):Int)) (x_move (.tmp rfl hρ15)) ?_)))))
 have hb22:(d / 2 ^ 1) < 4294967296:=Nat.lt_of_le_of_lt (Nat.div_le_self _ _) hd
 refine st (v:=.int .u32 (((d / 2 ^ 1):Nat):Int)) (x_shr (k:=.u32) (m:=d) (b:=1) rfl (.tmp rfl rfl) .const (by omega) (show _ < 2 ^ 32 from hd)) ?_
 refine st (v:=.int .u32 ((d:Nat):Int)) (x_move (.tmp rfl hρ15)) ?_
 have hb23:(d &&& 1) < 4294967296:=Nat.lt_of_le_of_lt Nat.and_le_left hd
 refine st (v:=.int .u32 (((d &&& 1):Nat):Int)) (x_and (k:=.u32) (m:=d) (n:=1) rfl (.tmp rfl rfl) .const (show _ < 2 ^ 32 from hd) (show _ < 2 ^ 32 from (by decide))) ?_
 refine st (v:=.int .u32 ((((0 - (((d &&& 1):Nat):Int)) % 4294967296).toNat:Nat):Int)) (x_neg (k:=.u32) (a:=(((d &&& 1):Nat):Int)) (.tmp rfl rfl) (wrapU _ rfl _)) ?_
 have hb24:(3988292384 &&& (((0 - (((d &&& 1):Nat):Int)) % 4294967296).toNat)) < 4294967296:=Nat.lt_of_le_of_lt Nat.and_le_left (by decide)
 refine st (v:=.int .u32 (((3988292384 &&& (((0 - (((d &&& 1):Nat):Int)) % 4294967296).toNat)):Nat):Int)) (x_and (k:=.u32) (m:=3988292384) (n:=(((0 - (((d &&& 1):Nat):Int)) % 4294967296).toNat)) rfl .const (.tmp rfl rfl) (show _ < 2 ^ 32 from (by decide)) (show _ < 2 ^ 32 from (by omega))) ?_
 have hb25:((d / 2 ^ 1) ^^^ (3988292384 &&& (((0 - (((d &&& 1):Nat):Int)) % 4294967296).toNat))) < 4294967296:=Nat.xor_lt_two_pow (n:=32) hb22 hb24
 refine st (v:=.int .u32 ((((d / 2 ^ 1) ^^^ (3988292384 &&& (((0 - (((d &&& 1):Nat):Int)) % 4294967296).toNat))):Nat):Int)) (x_xor (k:=.u32) (m:=(d / 2 ^ 1)) (n:=(3988292384 &&& (((0 - (((d &&& 1):Nat):Int)) % 4294967296).toNat))) rfl (.tmp rfl rfl) (.tmp rfl rfl) (show _ < 2 ^ 32 from hb22) (show _ < 2 ^ 32 from hb24)) ?_
 refine st (v:=.int .u32 ((((d / 2 ^ 1) ^^^ (3988292384 &&& (((0 - (((d &&& 1):Nat):Int)) % 4294967296).toNat))):Nat):Int)) (x_assign (.tmp rfl rfl)) ?_
 refine c_nil (n_block (n_then (c_region (st (v:=.int .i64 (((j:Nat):Int) + 1)) (x_add (k:=.i64) (a:=((j:Nat):Int)) (b:=1) (.tmp rfl hρ19) .const (w64 (by omega) (by omega))) ?_))))
 refine st (v:=.int .i64 (((j:Nat):Int) + 1)) (x_move (.tmp rfl rfl)) ?_
 refine c_nil ?_
 refine n_then ⟨_,_,rfl,?_,(j + 1),((d / 2 ^ 1) ^^^ (3988292384 &&& (((0 - (((d &&& 1):Nat):Int)) % 4294967296).toNat))),rfl,hρ16,hρ17,hρ18,rfl,(by omega),hb25,(by rw [cbit_code,he2]; rfl),hs20,rfl⟩
 omega
 have hp21:¬ ((((j:Nat):Int):Int) < 8):=of_decide_eq_false hc21
 refine c_cond_f (t:=false) (.tmp rfl (congrArg Value.bool hc21)) rfl ?_
 refine c_exit (x_then (x_then (x_here (n_block (n_then (c_region ?_))))))
 have hj8:j = 8:=by omega
 refine st (v:=.int .i64 (((i:Nat):Int) + 1)) (x_add (k:=.i64) (a:=((i:Nat):Int)) (b:=1) (.tmp rfl hρ18) .const (w64 (by omega) (by omega))) ?_
 refine st (v:=.int .i64 (((i:Nat):Int) + 1)) (x_move (.tmp rfl rfl)) ?_
 refine c_nil ?_
 refine n_then ⟨_,_,rfl,?_,(i + 1),d,hρ15,hρ16,hρ17,rfl,(by omega),hd,(by rw [he2,hj8,crcR_take (by omega),← he]; rfl),hs20,rfl⟩
 omega
 have hp7:¬ ((((i:Nat):Int):Int) < ((n:Nat):Int)):=of_decide_eq_false hc7
 refine c_cond_f (t:=false) (.tmp rfl (congrArg Value.bool hc7)) rfl ?_
 refine c_exit (x_then (x_then (x_here (n_then (c_seq (c_region (st (v:=.int .u32 ((cc:Nat):Int)) (x_move (.tmp rfl hρ2)) ?_)))))))
 refine st (v:=.int .u32 ((4294967295 - cc:Nat):Int)) (x_xorU (k:=.u32) (n:=cc) rfl (.tmp rfl rfl) (show _ < 2 ^ 32 from hc)) ?_
 refine st (v:=.int .u32 ((4294967295 - cc:Nat):Int)) (x_assign (.tmp rfl rfl)) ?_
 refine c_nil (n_then (c_ret (leave_ret (res_one (v:=.int .u32 ((4294967295 - cc:Nat):Int)) rfl (.mk rfl rfl)) ?_)))
 have hi2:i = bs.length:=by omega
 rw [hi2,List.take_length] at he
 exact ⟨by rw [he]; rfl,hs6⟩
set_option maxHeartbeats 8000000 in
theorem rsum_spec {H:Hp} {w:World} {L:List Res} (hs:St H w L) {A:Option Addr} {n c:Nat} {bs:List Nat} (hp:Bs H A n c bs) (hn:n ≤ 140737488355320):Calls Try.prog 46 #[.slice A n c] w (fun e w' => e = .returned (.int .u32 ((crc bs:Nat):Int))∧St H w' L):=by
 refine enter (args:=[.slice A n c]) (N:=36) Try.func46 rfl rfl rfl ?_
 have hle:=hp.le
 have hlen:=hp.len
 refine c_seq (c_region (st (v:=.int .u32 0) (x_assign .const) ?_))
 refine c_nil (n_then (c_seq (c_region (st (v:=.int .u32 4294967295) (x_assign .const) ?_))))
 refine c_nil (n_then (c_seq (c_seq (c_region (st (v:=.int .i64 0) (x_assign .const) ?_)))))
 refine c_nil (n_then (c_block (c_loop (fun ρ w mm => ∃ (i:Nat) (cc:Nat),ρ 0 = .slice A n c∧ρ 3 = .int .u32 ((cc:Nat):Int)∧ρ 4 = .int .i64 ((i:Nat):Int)∧(i ≤ n)∧(cc < 4294967296)∧(cc = crcR 4294967295 (bs.take i))∧St H w (L)∧mm = n - i) _ ⟨0,4294967295,rfl,rfl,rfl,(by omega),(by decide),rfl,hs,rfl⟩ ?_)))
 rintro ρ w mm ⟨i,cc,hρ2,hρ3,hρ4,hi,hc,he,hs5,rfl⟩
 refine c_seq (c_seq (c_region (st (v:=.int .i64 ((i:Nat):Int)) (x_move (.tmp rfl hρ4)) ?_)))
 refine st (v:=.slice A n c) (x_move (.tmp rfl hρ2)) ?_
 refine st (v:=.int .i64 ((n:Nat):Int)) (x_len (n:=n) Try.underlying33 (.tmp rfl rfl)) ?_
 refine st (v:=.bool (decide ((((i:Nat):Int):Int) < ((n:Nat):Int)))) (x_lss (k:=.i64) (a:=((i:Nat):Int)) (b:=((n:Nat):Int)) (.tmp rfl rfl) (.tmp rfl rfl)) ?_
 refine c_nil (n_then ?_)
 rcases Bool.eq_false_or_eq_true (decide ((((i:Nat):Int):Int) < ((n:Nat):Int))) with hc6 | hc6
 have hp6:(((i:Nat):Int):Int) < ((n:Nat):Int):=of_decide_eq_true hc6
 refine c_cond_t (t:=true) (.tmp rfl (congrArg Value.bool hc6)) rfl ?_
 refine c_skip (n_then (c_seq (c_block (c_seq (c_region (st (v:=.int .i64 0) (x_assign .const) ?_))))))
 refine c_nil (n_then (c_block (c_loop (fun ρ w mm => ∃ (j:Nat) (d:Nat),ρ 0 = .slice A n c∧ρ 3 = .int .u32 ((d:Nat):Int)∧ρ 4 = .int .i64 ((i:Nat):Int)∧ρ 5 = .int .i64 ((j:Nat):Int)∧(j ≤ 8)∧(d < 4294967296)∧(d = feed cc (fun i_ => (bs.getD i 0).testBit i_) j)∧St H w (L)∧mm = 8 - j) _ ⟨0,cc,hρ2,hρ3,hρ4,rfl,(by omega),hc,rfl,hs5,rfl⟩ ?_)))
 rintro ρ w mm ⟨j,d,hρ8,hρ9,hρ10,hρ11,hj,hd,he2,hs12,rfl⟩
 refine c_seq (c_seq (c_region (st (v:=.int .i64 ((j:Nat):Int)) (x_move (.tmp rfl hρ11)) ?_)))
 refine st (v:=.bool (decide ((((j:Nat):Int):Int) < 8))) (x_lss (k:=.i64) (a:=((j:Nat):Int)) (b:=8) (.tmp rfl rfl) .const) ?_
 refine c_nil (n_then ?_)
 rcases Bool.eq_false_or_eq_true (decide ((((j:Nat):Int):Int) < 8)) with hc13 | hc13
 have hp13:(((j:Nat):Int):Int) < 8:=of_decide_eq_true hc13
 refine c_cond_t (t:=true) (.tmp rfl (congrArg Value.bool hc13)) rfl ?_
 refine c_skip (n_then (c_seq (c_block (c_seq (c_region (st (v:=.int .u32 ((d:Nat):Int)) (x_move (.tmp rfl hρ9)) ?_))))))
 have hb14:(d &&& 1) < 4294967296:=Nat.lt_of_le_of_lt Nat.and_le_left hd
 refine st (v:=.int .u32 (((d &&& 1):Nat):Int)) (x_and (k:=.u32) (m:=d) (n:=1) rfl (.tmp rfl rfl) .const (show _ < 2 ^ 32 from hd) (show _ < 2 ^ 32 from (by decide))) ?_
 refine st (v:=.slice A n c) (x_move (.tmp rfl hρ8)) ?_
 refine st (v:=.int .i64 ((i:Nat):Int)) (x_move (.tmp rfl hρ10)) ?_
 obtain ⟨b15,o16,hA17,hc18⟩:=hp.get (i:=i) (by omega)
 refine st (v:=.pointer (some ⟨b15,(o16 + i * 1),none⟩)) (ixo33 (.tmp rfl rfl) hA17 (i:=((i:Nat):Int)) (.tmp rfl rfl) (by omega) (by omega) rfl) ?_
 refine st (v:=.int .u8 ((bs.getD i 0:Nat):Int)) (ld5 (.tmp rfl rfl) (hc18 hs12)) ?_
 refine st (v:=.int .i64 ((j:Nat):Int)) (x_move (.tmp rfl hρ11)) ?_
 have hb19:((bs.getD i 0) / 2 ^ j) < 256:=Nat.lt_of_le_of_lt (Nat.div_le_self _ _) (hp.lt.getD _)
 refine st (v:=.int .u8 ((((bs.getD i 0) / 2 ^ j):Nat):Int)) (x_shr (k:=.u8) (m:=(bs.getD i 0)) (b:=((j:Nat):Int)) rfl (.tmp rfl rfl) (.tmp rfl rfl) (by omega) (show _ < 2 ^ 8 from (hp.lt.getD _))) ?_
 have hb20:((bs.getD i 0) / 2 ^ j) < 4294967296:=Nat.lt_of_lt_of_le hb19 (by decide)
 refine st (v:=.int .u32 ((((bs.getD i 0) / 2 ^ j):Nat):Int)) (x_conv (k:=.u8) (a:=((((bs.getD i 0) / 2 ^ j):Nat):Int)) Try.underlying5 Try.underlying45 (.tmp rfl rfl) (wU rfl rfl hb20)) ?_
 have hb21:(((bs.getD i 0) / 2 ^ j) &&& 1) < 4294967296:=Nat.lt_of_le_of_lt Nat.and_le_left hb20
 refine st (v:=.int .u32 (((((bs.getD i 0) / 2 ^ j) &&& 1):Nat):Int)) (x_and (k:=.u32) (m:=((bs.getD i 0) / 2 ^ j)) (n:=1) rfl (.tmp rfl rfl) .const (show _ < 2 ^ 32 from hb20) (show _ < 2 ^ 32 from (by decide))) ?_
 have hb22:((d &&& 1) ^^^ (((bs.getD i 0) / 2 ^ j) &&& 1)) < 4294967296:=Nat.xor_lt_two_pow (n:=32) hb14 hb21
 refine st (v:=.int .u32 ((((d &&& 1) ^^^ (((bs.getD i 0) / 2 ^ j) &&& 1)):Nat):Int)) (x_xor (k:=.u32) (m:=(d &&& 1)) (n:=(((bs.getD i 0) / 2 ^ j) &&& 1)) rfl (.tmp rfl rfl) (.tmp rfl rfl) (show _ < 2 ^ 32 from hb14) (show _ < 2 ^ 32 from hb21)) ?_
 refine st (v:=.int .u32 ((((d &&& 1) ^^^ (((bs.getD i 0) / 2 ^ j) &&& 1)):Nat):Int)) (x_assign (.tmp rfl rfl)) ?_
 refine c_nil (n_then (c_seq (c_region (st (v:=.int .u32 ((d:Nat):Int)) (x_move (.tmp rfl hρ9)) ?_))))
 have hb23:(d / 2 ^ 1) < 4294967296:=Nat.lt_of_le_of_lt (Nat.div_le_self _ _) hd
 refine st (v:=.int .u32 (((d / 2 ^ 1):Nat):Int)) (x_shr (k:=.u32) (m:=d) (b:=1) rfl (.tmp rfl rfl) .const (by omega) (show _ < 2 ^ 32 from hd)) ?_
 refine st (v:=.int .u32 (((d / 2 ^ 1):Nat):Int)) (x_assign (.tmp rfl rfl)) ?_
 refine c_nil (n_then (c_seq (c_region (st (v:=.int .u32 ((((d &&& 1) ^^^ (((bs.getD i 0) / 2 ^ j) &&& 1)):Nat):Int)) (x_move (.tmp rfl rfl)) ?_))))
 refine st (v:=.bool (decide ((((((d &&& 1) ^^^ (((bs.getD i 0) / 2 ^ j) &&& 1)):Nat):Int):Int) = 1))) (x_eql (k:=.u32) (a:=((((d &&& 1) ^^^ (((bs.getD i 0) / 2 ^ j) &&& 1)):Nat):Int)) (b:=1) (.tmp rfl rfl) .const) ?_
 refine c_nil (n_then ?_)
 rcases Bool.eq_false_or_eq_true (decide ((((((d &&& 1) ^^^ (((bs.getD i 0) / 2 ^ j) &&& 1)):Nat):Int):Int) = 1)) with hc24 | hc24
 have hp24:(((((d &&& 1) ^^^ (((bs.getD i 0) / 2 ^ j) &&& 1)):Nat):Int):Int) = 1:=of_decide_eq_true hc24
 refine c_cond_t (t:=true) (.tmp rfl (congrArg Value.bool hc24)) rfl ?_
 refine c_region (st (v:=.int .u32 (((d / 2 ^ 1):Nat):Int)) (x_move (.tmp rfl rfl)) ?_)
 have hb25:((d / 2 ^ 1) ^^^ 3988292384) < 4294967296:=Nat.xor_lt_two_pow (n:=32) hb23 (by decide)
 refine st (v:=.int .u32 ((((d / 2 ^ 1) ^^^ 3988292384):Nat):Int)) (x_xor (k:=.u32) (m:=(d / 2 ^ 1)) (n:=3988292384) rfl (.tmp rfl rfl) .const (show _ < 2 ^ 32 from hb23) (show _ < 2 ^ 32 from (by decide))) ?_
 refine st (v:=.int .u32 ((((d / 2 ^ 1) ^^^ 3988292384):Nat):Int)) (x_assign (.tmp rfl rfl)) ?_
 refine c_nil (n_block (n_then (c_region (st (v:=.int .i64 ((j:Nat):Int)) (x_move (.tmp rfl hρ11)) ?_))))
 refine st (v:=.int .i64 (((j:Nat):Int) + 1)) (x_add (k:=.i64) (a:=((j:Nat):Int)) (b:=1) (.tmp rfl rfl) .const (w64 (by omega) (by omega))) ?_
 refine st (v:=.int .i64 (((j:Nat):Int) + 1)) (x_assign (.tmp rfl rfl)) ?_
 refine c_nil ?_
 refine n_then ⟨_,_,rfl,?_,(j + 1),((d / 2 ^ 1) ^^^ 3988292384),hρ8,rfl,hρ10,rfl,(by omega),hb25,(by rw [feed,← he2]; exact ref_yes hp24),hs12,rfl⟩
 omega
 have hp24:¬ ((((((d &&& 1) ^^^ (((bs.getD i 0) / 2 ^ j) &&& 1)):Nat):Int):Int) = 1):=of_decide_eq_false hc24
 refine c_cond_f (t:=false) (.tmp rfl (congrArg Value.bool hc24)) rfl ?_
 refine c_skip (n_block (n_then (c_region (st (v:=.int .i64 ((j:Nat):Int)) (x_move (.tmp rfl hρ11)) ?_))))
 refine st (v:=.int .i64 (((j:Nat):Int) + 1)) (x_add (k:=.i64) (a:=((j:Nat):Int)) (b:=1) (.tmp rfl rfl) .const (w64 (by omega) (by omega))) ?_
 refine st (v:=.int .i64 (((j:Nat):Int) + 1)) (x_assign (.tmp rfl rfl)) ?_
 refine c_nil ?_
 refine n_then ⟨_,_,rfl,?_,(j + 1),(d / 2 ^ 1),hρ8,rfl,hρ10,rfl,(by omega),hb23,(by rw [feed,← he2]; exact ref_no hp24),hs12,rfl⟩
 omega
 have hp13:¬ ((((j:Nat):Int):Int) < 8):=of_decide_eq_false hc13
 refine c_cond_f (t:=false) (.tmp rfl (congrArg Value.bool hc13)) rfl ?_
 refine c_exit (x_then (x_then (x_here (n_block (n_then (c_region ?_))))))
 have hj8:j = 8:=by omega
 refine st (v:=.int .i64 ((i:Nat):Int)) (x_move (.tmp rfl hρ10)) ?_
 refine st (v:=.int .i64 (((i:Nat):Int) + 1)) (x_add (k:=.i64) (a:=((i:Nat):Int)) (b:=1) (.tmp rfl rfl) .const (w64 (by omega) (by omega))) ?_
 refine st (v:=.int .i64 (((i:Nat):Int) + 1)) (x_assign (.tmp rfl rfl)) ?_
 refine c_nil ?_
 refine n_then ⟨_,_,rfl,?_,(i + 1),d,hρ8,hρ9,rfl,(by omega),hd,(by rw [he2,hj8,crcR_take (by omega),← he]; exact (cbyte_feed cc (hp.lt.getD i)).symm),hs12,rfl⟩
 omega
 have hp6:¬ ((((i:Nat):Int):Int) < ((n:Nat):Int)):=of_decide_eq_false hc6
 refine c_cond_f (t:=false) (.tmp rfl (congrArg Value.bool hc6)) rfl ?_
 refine c_exit (x_then (x_then (x_here (n_then (c_seq (c_region (st (v:=.int .u32 ((cc:Nat):Int)) (x_move (.tmp rfl hρ3)) ?_)))))))
 have hb26:(4294967295 - cc) < 4294967296:=by omega
 refine st (v:=.int .u32 (((4294967295 - cc):Nat):Int)) (x_sub (k:=.u32) (a:=4294967295) (b:=((cc:Nat):Int)) .const (.tmp rfl rfl) (wU rfl (by omega) hb26)) ?_
 refine st (v:=.int .u32 (((4294967295 - cc):Nat):Int)) (x_assign (.tmp rfl rfl)) ?_
 refine c_nil (n_then (c_ret (leave_ret (res_one (v:=.int .u32 (((4294967295 - cc):Nat):Int)) rfl (.mk rfl rfl)) ?_)))
 have hi2:i = bs.length:=by omega
 rw [hi2,List.take_length] at he
 exact ⟨by rw [he]; rfl,hs5⟩
end Go.Proofs.Ytlfihfmmhhcigaa

set_option linter.unusedVariables false
set_option linter.unusedSimpArgs false
namespace Go.Proofs.Ytlfihfmmhhcigaa
open Go Go.FM Go.Proofs
attribute [local irreducible] wpList wpQuiet wpS Code.wp Calls
set_option maxHeartbeats 8000000 in
theorem four_spec {H:Hp} {w:World} {L:List Res} (hs:St H w L) (s:Nat) (b_s:s < 4294967296):Calls Try.prog 58 #[.int .u32 ((s:Nat):Int)] w (fun e w' => e = .returned (.agg #[.int .u8 ((s % 256:Nat):Int),.int .u8 ((s / 2 ^ 8 % 256:Nat):Int),.int .u8 ((s / 2 ^ 16 % 256:Nat):Int),.int .u8 ((s / 2 ^ 24 % 256:Nat):Int)])∧St H w' L):=by
 refine enter (args:=[.int .u32 ((s:Nat):Int)]) (N:=15) Try.func58 rfl rfl rfl ?_
 refine c_seq (c_region (st_m (al95 (cs:=[.int .u8 0,.int .u8 0,.int .u8 0,.int .u8 0]) hs rfl) ?_))
 rintro _ w2 ⟨g1,rfl,hs4⟩
 refine c_nil (n_then (c_seq (c_region (st (v:=.int .u32 ((s:Nat):Int)) (x_move (.tmp rfl rfl)) ?_))))
 refine st (v:=.int .u8 (((s % 256):Nat):Int)) (x_conv (k:=.u32) (a:=((s:Nat):Int)) Try.underlying45 Try.underlying5 (.tmp rfl rfl) (wrapN _ rfl _)) ?_
 refine st (v:=.int .u32 ((s:Nat):Int)) (x_move (.tmp rfl rfl)) ?_
 have hb5:(s / 2 ^ 8) < 4294967296:=Nat.lt_of_le_of_lt (Nat.div_le_self _ _) b_s
 refine st (v:=.int .u32 (((s / 2 ^ 8):Nat):Int)) (x_shr (k:=.u32) (m:=s) (b:=8) rfl (.tmp rfl rfl) .const (by omega) (show _ < 2 ^ 32 from b_s)) ?_
 refine st (v:=.int .u8 ((((s / 2 ^ 8) % 256):Nat):Int)) (x_conv (k:=.u32) (a:=(((s / 2 ^ 8):Nat):Int)) Try.underlying45 Try.underlying5 (.tmp rfl rfl) (wrapN _ rfl _)) ?_
 refine st (v:=.int .u32 ((s:Nat):Int)) (x_move (.tmp rfl rfl)) ?_
 have hb6:(s / 2 ^ 16) < 4294967296:=Nat.lt_of_le_of_lt (Nat.div_le_self _ _) b_s
 refine st (v:=.int .u32 (((s / 2 ^ 16):Nat):Int)) (x_shr (k:=.u32) (m:=s) (b:=16) rfl (.tmp rfl rfl) .const (by omega) (show _ < 2 ^ 32 from b_s)) ?_
 refine st (v:=.int .u8 ((((s / 2 ^ 16) % 256):Nat):Int)) (x_conv (k:=.u32) (a:=(((s / 2 ^ 16):Nat):Int)) Try.underlying45 Try.underlying5 (.tmp rfl rfl) (wrapN _ rfl _)) ?_
 refine st (v:=.int .u32 ((s:Nat):Int)) (x_move (.tmp rfl rfl)) ?_
 have hb7:(s / 2 ^ 24) < 4294967296:=Nat.lt_of_le_of_lt (Nat.div_le_self _ _) b_s
 refine st (v:=.int .u32 (((s / 2 ^ 24):Nat):Int)) (x_shr (k:=.u32) (m:=s) (b:=24) rfl (.tmp rfl rfl) .const (by omega) (show _ < 2 ^ 32 from b_s)) ?_
 refine st (v:=.int .u8 ((((s / 2 ^ 24) % 256):Nat):Int)) (x_conv (k:=.u32) (a:=(((s / 2 ^ 24):Nat):Int)) Try.underlying45 Try.underlying5 (.tmp rfl rfl) (wrapN _ rfl _)) ?_
 refine st (v:=.agg #[.int .u8 (((s % 256):Nat):Int),.int .u8 ((((s / 2 ^ 8) % 256):Nat):Int),.int .u8 ((((s / 2 ^ 16) % 256):Nat):Int),.int .u8 ((((s / 2 ^ 24) % 256):Nat):Int)]) (x_bldArr (ps:=[(0,.int .u8 (((s % 256):Nat):Int)),(1,.int .u8 ((((s / 2 ^ 8) % 256):Nat):Int)),(2,.int .u8 ((((s / 2 ^ 16) % 256):Nat):Int)),(3,.int .u8 ((((s / 2 ^ 24) % 256):Nat):Int))]) Try.underlying95 inf95 inf5 (.cons (.tmp rfl rfl) (.cons (.tmp rfl rfl) (.cons (.tmp rfl rfl) (.cons (.tmp rfl rfl) Evp.nil)))) rfl) ?_
 refine st_m0 (sto95 (cs':=[.int .u8 (((s % 256):Nat):Int),.int .u8 ((((s / 2 ^ 8) % 256):Nat):Int),.int .u8 ((((s / 2 ^ 16) % 256):Nat):Int),.int .u8 ((((s / 2 ^ 24) % 256):Nat):Int)]) (i:=0) hs4 (v:=.agg #[.int .u8 (((s % 256):Nat):Int),.int .u8 ((((s / 2 ^ 8) % 256):Nat):Int),.int .u8 ((((s / 2 ^ 16) % 256):Nat):Int),.int .u8 ((((s / 2 ^ 24) % 256):Nat):Int)]) (.tmp rfl rfl) (.tmp rfl rfl) rfl (Nat.le_of_ble_eq_true rfl) (oneA rfl) rfl) ?_
 rintro w8 hs10
 refine c_nil (n_then (c_ret (leave_ret (res_one (v:=.agg #[.int .u8 (((s % 256):Nat):Int),.int .u8 ((((s / 2 ^ 8) % 256):Nat):Int),.int .u8 ((((s / 2 ^ 16) % 256):Nat):Int),.int .u8 ((((s / 2 ^ 24) % 256):Nat):Int)]) rfl (.mkCell rfl rfl (lv95 (cs:=[.int .u8 (((s % 256):Nat):Int),.int .u8 ((((s / 2 ^ 8) % 256):Nat):Int),.int .u8 ((((s / 2 ^ 16) % 256):Nat):Int),.int .u8 ((((s / 2 ^ 24) % 256):Nat):Int)]) (hs10.at_ 0 rfl 0 rfl) rfl))) ?_)))
 exact ⟨rfl,hs10.drop⟩
set_option maxHeartbeats 8000000 in
theorem seal_spec {H:Hp} {w:World} {L:List Res} (hs:St H w L) {A:Option Addr} {n c:Nat} {bs:List Nat} (hp:Bs H A n c bs) (hn:n ≤ 140737488355320):Calls Try.prog 28 #[.slice A n c] w (fun e w' => ∃ v,e = .returned v∧RowOk 1 v (n + 4) ((seal_ bs).map encB)∧St H w' (row 5 1 v (n + 4) ((seal_ bs).map encB)::L)):=by
 refine enter (args:=[.slice A n c]) (N:=11) Try.func28 rfl rfl rfl ?_
 have hle:=hp.le
 have hlen:=hp.len
 refine c_seq (c_region (st (v:=.slice none 0 0) (x_assign .const) ?_))
 refine c_nil (n_then (c_seq (c_region (st (v:=.slice A n c) (x_move (.tmp rfl rfl)) ?_))))
 refine st_c cb59 .func (evs1 (.tmp rfl rfl)) (sum_spec hs hp (by omega)) ?_
 rintro e w1 ⟨rfl,hs2⟩
 refine ⟨_,rfl,?_⟩
 refine st_c cb58 .func (evs1 (.tmp rfl rfl)) (four_spec hs2 (crc bs) (crc_lt _)) ?_
 rintro e w3 ⟨rfl,hs4⟩
 refine ⟨_,rfl,?_⟩
 refine st_m (al95 (cs:=[.int .u8 0,.int .u8 0,.int .u8 0,.int .u8 0]) hs4 rfl) ?_
 rintro _ w6 ⟨g5,rfl,hs8⟩
 refine st_m0 (sto95 (cs':=[.int .u8 (((crc bs) % 256:Nat):Int),.int .u8 (((crc bs) / 2 ^ 8 % 256:Nat):Int),.int .u8 (((crc bs) / 2 ^ 16 % 256:Nat):Int),.int .u8 (((crc bs) / 2 ^ 24 % 256:Nat):Int)]) (i:=0) hs8 (v:=.agg #[.int .u8 (((crc bs) % 256:Nat):Int),.int .u8 (((crc bs) / 2 ^ 8 % 256:Nat):Int),.int .u8 (((crc bs) / 2 ^ 16 % 256:Nat):Int),.int .u8 (((crc bs) / 2 ^ 24 % 256:Nat):Int)]) (.tmp rfl rfl) (.tmp rfl rfl) rfl (Nat.le_of_ble_eq_true rfl) (oneA rfl) rfl) ?_
 rintro w9 hs11
 refine c_nil (n_then (c_seq (s_region (L:=obj g5 95 [.int .u8 (((crc bs) % 256:Nat):Int),.int .u8 (((crc bs) / 2 ^ 8 % 256:Nat):Int),.int .u8 (((crc bs) / 2 ^ 16 % 256:Nat):Int),.int .u8 (((crc bs) / 2 ^ 24 % 256:Nat):Int)]::L) (L':=obj g5 95 [.int .u8 (((crc bs) % 256:Nat):Int),.int .u8 (((crc bs) / 2 ^ 8 % 256:Nat):Int),.int .u8 (((crc bs) / 2 ^ 16 % 256:Nat):Int),.int .u8 (((crc bs) / 2 ^ 24 % 256:Nat):Int)]::L) none [(0,true),(2,true),(1,false),(3,false),(4,true)] mixed hs11 (fun u hu => hu) (by kernel_rfl) ?_)))
 intro w12 hs13
 refine s_st (k:=0) (v:=.slice A n c) rfl (fun w hs => (x_move (.tmp rfl rfl))) ?_
 refine s_st (k:=2) (v:=.slice (some ⟨g5,0,none⟩) 4 4) rfl (fun w hs => (x_sliceArr Try.underlying95 inf5 (.tmp rfl rfl))) ?_
 refine s_eff (k:=1) rfl ?_
 refine st_m (m_appNil Try.underlying33 inf5 hs13 .const (.tmp rfl rfl) hp (by omega)) ?_
 rintro v14 w15 ⟨ok16,hs17⟩
 refine s_on (S':=fun u => St H u (obj g5 95 [.int .u8 (((crc bs) % 256:Nat):Int),.int .u8 (((crc bs) / 2 ^ 8 % 256:Nat):Int),.int .u8 (((crc bs) / 2 ^ 16 % 256:Nat):Int),.int .u8 (((crc bs) / 2 ^ 24 % 256:Nat):Int)]::L)) (fun u hu => hu) hs17.drop ?_
 refine s_eff (k:=3) rfl ?_
 refine st_m (m_appAt (bs:=[((crc bs) % 256),((crc bs) / 2 ^ 8 % 256),((crc bs) / 2 ^ 16 % 256),((crc bs) / 2 ^ 24 % 256)]) Try.underlying33 inf5 hs17 ok16 (.tmp rfl rfl) (.tmp rfl rfl) rfl (hs17.at_ 1 rfl 0 rfl) (by omega)) ?_
 rintro v19 w20 ⟨ok21,hs22⟩
 refine s_on (S':=fun u => St H u (obj g5 95 [.int .u8 (((crc bs) % 256:Nat):Int),.int .u8 (((crc bs) / 2 ^ 8 % 256:Nat):Int),.int .u8 (((crc bs) / 2 ^ 16 % 256:Nat):Int),.int .u8 (((crc bs) / 2 ^ 24 % 256:Nat):Int)]::L)) (fun u hu => hu) hs22.drop ?_
 refine s_st (k:=4) (v:=v19) rfl (fun w hs => (x_assign (.tmp rfl rfl))) ?_
 refine s_nil ?_
 refine n_then (c_ret (leave_ret (res_one (v:=v19) rfl (.mk rfl rfl)) ?_))
 exact ⟨_,rfl,ok21,(hs22.p1).drop⟩
set_option maxHeartbeats 8000000 in
theorem rseal_spec {H:Hp} {w:World} {L:List Res} (hs:St H w L) {A:Option Addr} {n c:Nat} {bs:List Nat} (hp:Bs H A n c bs) (hn:n ≤ 140737488355320):Calls Try.prog 17 #[.slice A n c] w (fun e w' => ∃ v,e = .returned v∧RowOk 1 v (n + 4) ((seal_ bs).map encB)∧St H w' (row 5 1 v (n + 4) ((seal_ bs).map encB)::L)):=by
 refine enter (args:=[.slice A n c]) (N:=24) Try.func17 rfl rfl rfl ?_
 have hle:=hp.le
 have hlen:=hp.len
 refine c_seq (c_region (st (v:=.slice none 0 0) (x_assign .const) ?_))
 refine c_nil (n_then (c_seq (c_region (st (v:=.slice none 0 0) (x_assign .const) ?_))))
 refine c_nil (n_then (c_seq (c_region (st (v:=.slice none 0 0) (x_move (.tmp rfl rfl)) ?_))))
 refine st (v:=.slice A n c) (x_move (.tmp rfl rfl)) ?_
 refine st_m (m_appNil Try.underlying33 inf5 hs (.tmp rfl rfl) (.tmp rfl rfl) hp (by omega)) ?_
 rintro v1 w2 ⟨ok3,hs4⟩
 refine st (v:=v1) (x_assign (.tmp rfl rfl)) ?_
 refine c_nil (n_then (c_seq (c_region (st (v:=.slice A n c) (x_move (.tmp rfl rfl)) ?_))))
 refine st_c cb46 .func (evs1 (.tmp rfl rfl)) (rsum_spec hs4 hp (by omega)) ?_
 rintro e w6 ⟨rfl,hs7⟩
 refine ⟨_,rfl,?_⟩
 refine st (v:=.int .u32 ((crc bs:Nat):Int)) (x_assign (.tmp rfl rfl)) ?_
 refine c_nil (n_then (c_seq (c_seq (c_region (st (v:=.int .i64 0) (x_assign .const) ?_)))))
 refine c_nil (n_then (c_block (c_loop (fun ρ w mm => ∃ (j:Nat) (v:Value),ρ 3 = v∧ρ 4 = .int .u32 ((crc bs:Nat):Int)∧ρ 5 = .int .i64 ((j:Nat):Int)∧(j ≤ 4)∧(RowOk 1 v (n + j) ((bs ++ (four (crc bs)).take j).map encB))∧St H w (row 5 1 v (n + j) ((bs ++ (four (crc bs)).take j).map encB)::L)∧mm = 4 - j) _ ⟨0,v1,rfl,rfl,rfl,(by omega),(by simpa using ok3),(by simpa using hs7),rfl⟩ ?_)))
 rintro ρ w mm ⟨j,v,hρ9,hρ10,hρ11,hj,ok,hs12,rfl⟩
 refine c_seq (c_seq (c_region (st (v:=.int .i64 ((j:Nat):Int)) (x_move (.tmp rfl hρ11)) ?_)))
 refine st (v:=.bool (decide ((((j:Nat):Int):Int) < 4))) (x_lss (k:=.i64) (a:=((j:Nat):Int)) (b:=4) (.tmp rfl rfl) .const) ?_
 refine c_nil (n_then ?_)
 rcases Bool.eq_false_or_eq_true (decide ((((j:Nat):Int):Int) < 4)) with hc13 | hc13
 have hp13:(((j:Nat):Int):Int) < 4:=of_decide_eq_true hc13
 refine c_cond_t (t:=true) (.tmp rfl (congrArg Value.bool hc13)) rfl ?_
 refine c_skip (n_then (c_seq (c_block (c_region ?_))))
 have hj4:j < 4:=by omega
 refine st (v:=v) (x_move (.tmp rfl hρ9)) ?_
 refine st (v:=.int .u32 ((crc bs:Nat):Int)) (x_move (.tmp rfl hρ10)) ?_
 refine st (v:=.int .i64 ((j:Nat):Int)) (x_move (.tmp rfl hρ11)) ?_
 refine st (v:=.int .i64 (8 * ((j:Nat):Int))) (x_mul (k:=.i64) (a:=8) (b:=((j:Nat):Int)) .const (.tmp rfl rfl) (w64 (by omega) (by omega))) ?_
 have hb14:((crc bs) / 2 ^ (8 * ((j:Nat):Int)).toNat) < 4294967296:=Nat.lt_of_le_of_lt (Nat.div_le_self _ _) (crc_lt _)
 refine st (v:=.int .u32 ((((crc bs) / 2 ^ (8 * ((j:Nat):Int)).toNat):Nat):Int)) (x_shr (k:=.u32) (m:=(crc bs)) (b:=(8 * ((j:Nat):Int))) rfl (.tmp rfl rfl) (.tmp rfl rfl) (by omega) (show _ < 2 ^ 32 from (crc_lt _))) ?_
 refine st (v:=.int .u8 (((((crc bs) / 2 ^ (8 * ((j:Nat):Int)).toNat) % 256):Nat):Int)) (x_conv (k:=.u32) (a:=((((crc bs) / 2 ^ (8 * ((j:Nat):Int)).toNat):Nat):Int)) Try.underlying45 Try.underlying5 (.tmp rfl rfl) (wrapN _ rfl _)) ?_
 refine st_m (m_lit (n:=1) (ps:=[(0,.int .u8 (((((crc bs) / 2 ^ (8 * ((j:Nat):Int)).toNat) % 256):Nat):Int))]) (cs:=[.int .u8 (((((crc bs) / 2 ^ (8 * ((j:Nat):Int)).toNat) % 256):Nat):Int)]) Try.underlying33 inf5 (.cons (.tmp rfl rfl) Evp.nil) (by decide) (by decide) rfl rfl hs12) ?_
 rintro _ w16 ⟨g15,rfl,hs18⟩
 have hs19:=hs18.p1
 refine st_m (m_appAt (bs:=[(((crc bs) / 2 ^ (8 * ((j:Nat):Int)).toNat) % 256)]) Try.underlying33 inf5 hs19 ok (.tmp rfl rfl) (.tmp rfl rfl) rfl (hs19.at_ 1 rfl 0 rfl) (by omega)) ?_
 rintro v20 w21 ⟨ok22,hs23⟩
 refine st (v:=v20) (x_assign (.tmp rfl rfl)) ?_
 refine c_nil (n_block (n_then (c_region (st (v:=.int .i64 ((j:Nat):Int)) (x_move (.tmp rfl hρ11)) ?_))))
 refine st (v:=.int .i64 (((j:Nat):Int) + 1)) (x_add (k:=.i64) (a:=((j:Nat):Int)) (b:=1) (.tmp rfl rfl) .const (w64 (by omega) (by omega))) ?_
 refine st (v:=.int .i64 (((j:Nat):Int) + 1)) (x_assign (.tmp rfl rfl)) ?_
 refine c_nil ?_
 refine n_then ⟨_,_,rfl,?_,(j + 1),v20,rfl,hρ10,rfl,(by omega),(four_next bs hj4 ok22),(four_nextS bs hj4 (hs23.p1).drop),rfl⟩
 omega
 have hp13:¬ ((((j:Nat):Int):Int) < 4):=of_decide_eq_false hc13
 refine c_cond_f (t:=false) (.tmp rfl (congrArg Value.bool hc13)) rfl ?_
 refine c_exit (x_then (x_then (x_here (n_then (c_seq (c_region (st (v:=v) (x_move (.tmp rfl hρ9)) ?_)))))))
 refine st (v:=v) (x_assign (.tmp rfl rfl)) ?_
 refine c_nil (n_then (c_ret (leave_ret (res_one (v:=v) rfl (.mk rfl rfl)) ?_)))
 obtain rfl:j = 4:=by omega
 exact ⟨_,rfl,ok,hs12⟩
set_option maxHeartbeats 8000000 in
theorem open_spec {H:Hp} {w:World} {L:List Res} (hs:St H w L) {A:Option Addr} {n c:Nat} {bs:List Nat} (hp:Bs H A n c bs) (hn:n ≤ 140737488355320):Calls Try.prog 31 #[.slice A n c] w (fun e w' => ∃ v,e = .returned (.tuple #[v,.int .i64 (openL bs).2])∧RowOk 1 v (openL bs).1.length ((openL bs).1.map encB)∧St H w' (row 5 1 v (openL bs).1.length ((openL bs).1.map encB)::L)):=by
 obtain rfl:=hp.len
 refine enter (args:=[.slice A bs.length c]) (N:=25) Try.func31 rfl rfl rfl ?_
 have hle:=hp.le
 refine c_seq (c_region (st (v:=.slice none 0 0) (x_assign .const) ?_))
 refine st (v:=.int .i64 0) (x_assign .const) ?_
 refine c_nil (n_then (c_seq (c_region (st (v:=.slice A bs.length c) (x_move (.tmp rfl rfl)) ?_))))
 refine st (v:=.int .i64 ((bs.length:Nat):Int)) (x_len (n:=bs.length) Try.underlying33 (.tmp rfl rfl)) ?_
 refine st (v:=.int .i64 (((bs.length:Nat):Int) - 4)) (x_sub (k:=.i64) (a:=((bs.length:Nat):Int)) (b:=4) (.tmp rfl rfl) .const (w64 (by omega) (by omega))) ?_
 refine st (v:=.int .i64 (((bs.length:Nat):Int) - 4)) (x_assign (.tmp rfl rfl)) ?_
 refine c_nil (n_then (c_seq (c_seq (c_region (st (v:=.int .i64 (((bs.length:Nat):Int) - 4)) (x_move (.tmp rfl rfl)) ?_)))))
 refine st (v:=.bool (decide (((((bs.length:Nat):Int) - 4):Int) < 0))) (x_lss (k:=.i64) (a:=(((bs.length:Nat):Int) - 4)) (b:=0) (.tmp rfl rfl) .const) ?_
 refine c_nil (n_then ?_)
 rcases Bool.eq_false_or_eq_true (decide (((((bs.length:Nat):Int) - 4):Int) < 0)) with hc1 | hc1
 have hp1:((((bs.length:Nat):Int) - 4):Int) < 0:=of_decide_eq_true hc1
 refine c_cond_t (t:=true) (.tmp rfl (congrArg Value.bool hc1)) rfl ?_
 refine c_seq (c_region (st (v:=.slice none 0 0) (x_assign .const) ?_))
 refine st (v:=.int .i64 3) (x_assign .const) ?_
 refine c_nil (n_then (c_ret (r_then (leave_ret (res_two (v:=.slice none 0 0) (u:=.int .i64 3) rfl (.mk rfl rfl) (.mk rfl rfl)) ?_))))
 rw [openL_short (by omega)]
 exact ⟨_,rfl,RowOk.nil 1,(hs).rowNil 5 1⟩
 have hp1:¬ (((((bs.length:Nat):Int) - 4):Int) < 0):=of_decide_eq_false hc1
 refine c_cond_f (t:=false) (.tmp rfl (congrArg Value.bool hc1)) rfl ?_
 refine c_skip (n_then (c_seq (c_seq (s_region (L:=L) (L':=L) none [(0,true),(1,true),(2,true),(3,true),(4,true),(5,true),(6,true),(7,true),(8,false),(9,false),(10,true)] mixed hs (fun u hu => hu) (by kernel_rfl) ?_))))
 intro w2 hs3
 refine s_st (k:=0) (v:=.slice A bs.length c) rfl (fun w hs => (x_move (.tmp rfl rfl))) ?_
 refine s_st (k:=1) (v:=.int .i64 (((bs.length:Nat):Int) - 4)) rfl (fun w hs => (x_move (.tmp rfl rfl))) ?_
 have:=hp.le
 refine s_st (k:=2) (v:=.slice (cutA A c ((((bs.length:Nat):Int) - 4).toNat) 1) (bs.length - (((bs.length:Nat):Int) - 4).toNat) (c - (((bs.length:Nat):Int) - 4).toNat)) rfl (fun w hs => (bs_l Try.underlying33 inf5 (a:=(((bs.length:Nat):Int) - 4)) (.tmp rfl rfl) (.tmp rfl rfl) (by omega) (by omega) (by omega))) ?_
 obtain ⟨b4,o5,hA6,hat7⟩:=(hp.drop (k:=(((bs.length:Nat):Int) - 4).toNat) (by omega)).first (by omega)
 refine s_st (k:=3) (v:=.pointer (cutA A c ((((bs.length:Nat):Int) - 4).toNat) 1)) rfl (fun w hs => (x_toArray Try.underlying95 (.tmp rfl rfl) (by omega))) ?_
 refine s_st (k:=4) (v:=.agg #[.int .u8 (((bs.drop ((((bs.length:Nat):Int) - 4).toNat)).getD 0 0:Nat):Int),.int .u8 (((bs.drop ((((bs.length:Nat):Int) - 4).toNat)).getD 1 0:Nat):Int),.int .u8 (((bs.drop ((((bs.length:Nat):Int) - 4).toNat)).getD 2 0:Nat):Int),.int .u8 (((bs.drop ((((bs.length:Nat):Int) - 4).toNat)).getD 3 0:Nat):Int)]) rfl (fun w hs => (ld95 (cs:=[.int .u8 (((bs.drop ((((bs.length:Nat):Int) - 4).toNat)).getD 0 0:Nat):Int),.int .u8 (((bs.drop ((((bs.length:Nat):Int) - 4).toNat)).getD 1 0:Nat):Int),.int .u8 (((bs.drop ((((bs.length:Nat):Int) - 4).toNat)).getD 2 0:Nat):Int),.int .u8 (((bs.drop ((((bs.length:Nat):Int) - 4).toNat)).getD 3 0:Nat):Int)]) (.tmp rfl (congrArg Value.pointer hA6)) ((hat7 hs).sub 0 rfl) rfl)) ?_
 refine s_st (k:=5) (v:=.slice A bs.length c) rfl (fun w hs => (x_move (.tmp rfl rfl))) ?_
 refine s_st (k:=6) (v:=.int .i64 (((bs.length:Nat):Int) - 4)) rfl (fun w hs => (x_move (.tmp rfl rfl))) ?_
 have:=hp.le
 refine s_st (k:=7) (v:=.slice A ((((bs.length:Nat):Int) - 4).toNat) c) rfl (fun w hs => (bs_h Try.underlying33 inf5 (a:=(((bs.length:Nat):Int) - 4)) (.tmp rfl rfl) (.tmp rfl rfl) (by omega) (by omega))) ?_
 refine s_eff (k:=8) rfl ?_
 refine st_c cb59 .func (evs1 (.tmp rfl rfl)) (sum_spec hs3 (hp.take (k:=(((bs.length:Nat):Int) - 4).toNat) (by omega)) (by omega)) ?_
 rintro e w8 ⟨rfl,hs9⟩
 refine ⟨_,rfl,?_⟩
 refine s_on (S':=fun u => St H u (L)) (fun u hu => hu) hs9 ?_
 refine s_eff (k:=9) rfl ?_
 refine st_c cb58 .func (evs1 (.tmp rfl rfl)) (four_spec hs9 (crc (bs.take ((((bs.length:Nat):Int) - 4).toNat))) (crc_lt _)) ?_
 rintro e w10 ⟨rfl,hs11⟩
 refine ⟨_,rfl,?_⟩
 refine s_on (S':=fun u => St H u (L)) (fun u hu => hu) hs11 ?_
 refine s_st (k:=10) (v:=.bool (!((((bs.drop ((((bs.length:Nat):Int) - 4).toNat)).getD 0 0:Nat):Int) == (((crc (bs.take ((((bs.length:Nat):Int) - 4).toNat))) % 256:Nat):Int) && ((((bs.drop ((((bs.length:Nat):Int) - 4).toNat)).getD 1 0:Nat):Int) == (((crc (bs.take ((((bs.length:Nat):Int) - 4).toNat))) / 2 ^ 8 % 256:Nat):Int) && ((((bs.drop ((((bs.length:Nat):Int) - 4).toNat)).getD 2 0:Nat):Int) == (((crc (bs.take ((((bs.length:Nat):Int) - 4).toNat))) / 2 ^ 16 % 256:Nat):Int) && (((bs.drop ((((bs.length:Nat):Int) - 4).toNat)).getD 3 0:Nat):Int) == (((crc (bs.take ((((bs.length:Nat):Int) - 4).toNat))) / 2 ^ 24 % 256:Nat):Int)))))) rfl (fun w hs => (x_neqA eqg95 (.tmp rfl rfl) (.tmp rfl rfl) (fun d => run_eqArr4 (d + 98) Try.underlying95 Try.underlying5 sc5 inf5 _ _ _ _ _ _ _ _))) ?_
 refine s_nil ?_
 refine n_then ?_
 rcases Bool.eq_false_or_eq_true ((((bs.drop ((((bs.length:Nat):Int) - 4).toNat)).getD 0 0:Nat):Int) == (((crc (bs.take ((((bs.length:Nat):Int) - 4).toNat))) % 256:Nat):Int) && ((((bs.drop ((((bs.length:Nat):Int) - 4).toNat)).getD 1 0:Nat):Int) == (((crc (bs.take ((((bs.length:Nat):Int) - 4).toNat))) / 2 ^ 8 % 256:Nat):Int) && ((((bs.drop ((((bs.length:Nat):Int) - 4).toNat)).getD 2 0:Nat):Int) == (((crc (bs.take ((((bs.length:Nat):Int) - 4).toNat))) / 2 ^ 16 % 256:Nat):Int) && (((bs.drop ((((bs.length:Nat):Int) - 4).toNat)).getD 3 0:Nat):Int) == (((crc (bs.take ((((bs.length:Nat):Int) - 4).toNat))) / 2 ^ 24 % 256:Nat):Int)))) with hc12 | hc12
 refine c_cond_f (t:=false) (.tmp rfl (congrArg Value.bool (by rw [hc12]; rfl))) rfl ?_
 refine c_skip (n_then (c_seq (c_region (st (v:=.slice A bs.length c) (x_move (.tmp rfl rfl)) ?_))))
 refine st (v:=.int .i64 (((bs.length:Nat):Int) - 4)) (x_move (.tmp rfl rfl)) ?_
 have:=hp.le
 refine st (v:=.slice A ((((bs.length:Nat):Int) - 4).toNat) c) (bs_h Try.underlying33 inf5 (a:=(((bs.length:Nat):Int) - 4)) (.tmp rfl rfl) (.tmp rfl rfl) (by omega) (by omega)) ?_
 refine st_m (m_appNil Try.underlying33 inf5 hs11 .const (.tmp rfl rfl) (hp.take (k:=(((bs.length:Nat):Int) - 4).toNat) (by omega)) (by omega)) ?_
 rintro v13 w14 ⟨ok15,hs16⟩
 refine st (v:=v13) (x_assign (.tmp rfl rfl)) ?_
 refine st (v:=.int .i64 0) (x_assign .const) ?_
 refine c_nil (n_then (c_ret (leave_ret (res_two (v:=v13) (u:=.int .i64 0) rfl (.mk rfl rfl) (.mk rfl rfl)) ?_)))
 have e4:((bs.length:Int) - 4).toNat = bs.length - 4:=by omega
 rw [e4,four_eq (by omega)] at hc12
 rw [openL_good (by omega) (of_decide_eq_true hc12)]
 have hk:(bs.take (bs.length - 4)).length = bs.length - 4:=by simp
 rw [hk,← e4]
 exact ⟨_,rfl,ok15,hs16⟩
 refine c_cond_t (t:=true) (.tmp rfl (congrArg Value.bool (by rw [hc12]; rfl))) rfl ?_
 refine c_seq (c_region (st (v:=.slice none 0 0) (x_assign .const) ?_))
 refine st (v:=.int .i64 5) (x_assign .const) ?_
 refine c_nil (n_then (c_ret (r_then (leave_ret (res_two (v:=.slice none 0 0) (u:=.int .i64 5) rfl (.mk rfl rfl) (.mk rfl rfl)) ?_))))
 have e4:((bs.length:Int) - 4).toNat = bs.length - 4:=by omega
 rw [e4,four_eq (by omega)] at hc12
 rw [openL_bad (by omega) (of_decide_eq_false hc12)]
 exact ⟨_,rfl,RowOk.nil 1,(hs11).rowNil 5 1⟩
set_option maxHeartbeats 8000000 in
theorem ropen_spec {H:Hp} {w:World} {L:List Res} (hs:St H w L) {A:Option Addr} {n c:Nat} {bs:List Nat} (hp:Bs H A n c bs) (hn:n ≤ 140737488355320):Calls Try.prog 47 #[.slice A n c] w (fun e w' => ∃ A' n' c',e = .returned (.tuple #[.slice A' n' c',.int .i64 (openL bs).2])∧Bs H A' n' c' (openL bs).1∧St H w' L):=by
 obtain rfl:=hp.len
 refine enter (args:=[.slice A bs.length c]) (N:=22) Try.func47 rfl rfl rfl ?_
 have hle:=hp.le
 refine c_seq (c_region (st (v:=.slice none 0 0) (x_assign .const) ?_))
 refine st (v:=.int .i64 0) (x_assign .const) ?_
 refine c_nil (n_then (c_seq (c_seq (c_region (st (v:=.slice A bs.length c) (x_move (.tmp rfl rfl)) ?_)))))
 refine st (v:=.int .i64 ((bs.length:Nat):Int)) (x_len (n:=bs.length) Try.underlying33 (.tmp rfl rfl)) ?_
 refine st (v:=.bool (decide ((((bs.length:Nat):Int):Int) < 4))) (x_lss (k:=.i64) (a:=((bs.length:Nat):Int)) (b:=4) (.tmp rfl rfl) .const) ?_
 refine c_nil (n_then ?_)
 rcases Bool.eq_false_or_eq_true (decide ((((bs.length:Nat):Int):Int) < 4)) with hc1 | hc1
 have hp1:(((bs.length:Nat):Int):Int) < 4:=of_decide_eq_true hc1
 refine c_cond_t (t:=true) (.tmp rfl (congrArg Value.bool hc1)) rfl ?_
 refine c_seq (c_region (st (v:=.slice none 0 0) (x_assign .const) ?_))
 refine st (v:=.int .i64 3) (x_assign .const) ?_
 refine c_nil (n_then (c_ret (r_then (leave_ret (res_two (v:=.slice none 0 0) (u:=.int .i64 3) rfl (.mk rfl rfl) (.mk rfl rfl)) ?_))))
 rw [openL_short (by omega)]
 exact ⟨_,_,_,rfl,Bs.nil H none,hs⟩
 have hp1:¬ ((((bs.length:Nat):Int):Int) < 4):=of_decide_eq_false hc1
 refine c_cond_f (t:=false) (.tmp rfl (congrArg Value.bool hc1)) rfl ?_
 refine c_skip (n_then (c_seq (c_region (st (v:=.slice A bs.length c) (x_move (.tmp rfl rfl)) ?_))))
 refine st (v:=.int .i64 ((bs.length:Nat):Int)) (x_len (n:=bs.length) Try.underlying33 (.tmp rfl rfl)) ?_
 refine st (v:=.int .i64 (((bs.length:Nat):Int) - 4)) (x_sub (k:=.i64) (a:=((bs.length:Nat):Int)) (b:=4) (.tmp rfl rfl) .const (w64 (by omega) (by omega))) ?_
 refine st (v:=.int .i64 (((bs.length:Nat):Int) - 4)) (x_assign (.tmp rfl rfl)) ?_
 refine c_nil (n_then (c_seq (c_seq (s_region (L:=L) (L':=L) none [(0,true),(1,true),(2,true),(5,true),(6,true),(3,false),(4,true),(7,true)] mixed hs (fun u hu => hu) (by kernel_rfl) ?_))))
 intro w2 hs3
 refine s_st (k:=0) (v:=.slice A bs.length c) rfl (fun w hs => (x_move (.tmp rfl rfl))) ?_
 refine s_st (k:=1) (v:=.int .i64 (((bs.length:Nat):Int) - 4)) rfl (fun w hs => (x_move (.tmp rfl rfl))) ?_
 have:=hp.le
 refine s_st (k:=2) (v:=.slice A ((((bs.length:Nat):Int) - 4).toNat) c) rfl (fun w hs => (bs_h Try.underlying33 inf5 (a:=(((bs.length:Nat):Int) - 4)) (.tmp rfl rfl) (.tmp rfl rfl) (by omega) (by omega))) ?_
 refine s_st (k:=5) (v:=.slice A bs.length c) rfl (fun w hs => (x_move (.tmp rfl rfl))) ?_
 refine s_st (k:=6) (v:=.string (bstr bs)) rfl (fun w hs => (hp.str Try.underlying33 Try.underlying5 Try.underlying9 hs (.tmp rfl rfl))) ?_
 refine s_eff (k:=3) rfl ?_
 refine st_c cb17 .func (evs1 (.tmp rfl rfl)) (rseal_spec hs3 (hp.take (k:=(((bs.length:Nat):Int) - 4).toNat) (by omega)) (by omega)) ?_
 rintro e w5 ⟨v4,rfl,ok6,hs7⟩
 refine ⟨_,rfl,?_⟩
 refine s_on (S':=fun u => St H u (row 5 1 v4 (((((bs.length:Nat):Int) - 4).toNat) + 4) ((seal_ (bs.take ((((bs.length:Nat):Int) - 4).toNat))).map encB)::L)) (fun u hu => hu.drop) hs7 ?_
 refine s_st (k:=4) (v:=.string (bstr (seal_ (bs.take ((((bs.length:Nat):Int) - 4).toNat))))) rfl (fun w hs => (hs.rowStr Try.underlying33 Try.underlying5 Try.underlying9 0 rfl ok6 (.tmp rfl rfl))) ?_
 refine s_st (k:=7) (v:=.bool (!decide ((bstr (seal_ (bs.take ((((bs.length:Nat):Int) - 4).toNat)))) = (bstr bs)))) rfl (fun w hs => (x_neqS (.tmp rfl rfl) (.tmp rfl rfl))) ?_
 refine s_nil ?_
 refine n_then ?_
 rcases Bool.eq_false_or_eq_true (decide ((bstr (seal_ (bs.take ((((bs.length:Nat):Int) - 4).toNat)))) = (bstr bs))) with hc9 | hc9
 have hp9:(bstr (seal_ (bs.take ((((bs.length:Nat):Int) - 4).toNat)))) = (bstr bs):=of_decide_eq_true hc9
 refine c_cond_f (t:=false) (.tmp rfl (congrArg Value.bool (by rw [hc9]; rfl))) rfl ?_
 refine c_skip (n_then (c_seq (c_region (st (v:=.slice A bs.length c) (x_move (.tmp rfl rfl)) ?_))))
 refine st (v:=.int .i64 (((bs.length:Nat):Int) - 4)) (x_move (.tmp rfl rfl)) ?_
 have:=hp.le
 refine st (v:=.slice A ((((bs.length:Nat):Int) - 4).toNat) c) (bs_h Try.underlying33 inf5 (a:=(((bs.length:Nat):Int) - 4)) (.tmp rfl rfl) (.tmp rfl rfl) (by omega) (by omega)) ?_
 refine st (v:=.slice A ((((bs.length:Nat):Int) - 4).toNat) c) (x_assign (.tmp rfl rfl)) ?_
 refine st (v:=.int .i64 0) (x_assign .const) ?_
 refine c_nil (n_then (c_ret (leave_ret (res_two (v:=.slice A ((((bs.length:Nat):Int) - 4).toNat) c) (u:=.int .i64 0) rfl (.mk rfl rfl) (.mk rfl rfl)) ?_)))
 have e4:((bs.length:Int) - 4).toNat = bs.length - 4:=by omega
 rw [e4] at hc9
 rw [openL_good (by omega) ((bstr_inj (seal_small (hp.lt.take _)) hp.lt).1 (of_decide_eq_true hc9)).symm,← e4]
 exact ⟨_,_,_,rfl,(hp.take (k:=(((bs.length:Nat):Int) - 4).toNat) (by omega)),hs7.drop⟩
 have hp9:¬ ((bstr (seal_ (bs.take ((((bs.length:Nat):Int) - 4).toNat)))) = (bstr bs)):=of_decide_eq_false hc9
 refine c_cond_t (t:=true) (.tmp rfl (congrArg Value.bool (by rw [hc9]; rfl))) rfl ?_
 refine c_seq (c_region (st (v:=.slice none 0 0) (x_assign .const) ?_))
 refine st (v:=.int .i64 5) (x_assign .const) ?_
 refine c_nil (n_then (c_ret (r_then (leave_ret (res_two (v:=.slice none 0 0) (u:=.int .i64 5) rfl (.mk rfl rfl) (.mk rfl rfl)) ?_))))
 have e4:((bs.length:Int) - 4).toNat = bs.length - 4:=by omega
 rw [e4] at hc9
 rw [openL_bad (by omega) (fun e => of_decide_eq_false hc9 ((bstr_inj (seal_small (hp.lt.take _)) hp.lt).2 e.symm))]
 exact ⟨_,_,_,rfl,Bs.nil H none,hs7.drop⟩
end Go.Proofs.Ytlfihfmmhhcigaa

set_option linter.unusedVariables false
set_option linter.unusedSimpArgs false
namespace Go.Proofs.Ytlfihfmmhhcigaa
open Go Go.FM Go.Proofs
attribute [local irreducible] wpList wpQuiet wpS Code.wp Calls
set_option maxHeartbeats 8000000 in
theorem uint_spec {H:Hp} {w:World} {L:List Res} {v:Value} {n:Nat} {l:List Nat} (hs:St H w (row 5 1 v n (l.map encB)::L)) (ok:RowOk 1 v n (l.map encB)) (hsm:Small l) (m:Nat) (hn:n ≤ 140737488355310) (b_m:m < 18446744073709551616):Calls Try.prog 56 #[v,.int .u64 ((m:Nat):Int)] w (fun e w' => ∃ v',e = .returned v'∧RowOk 1 v' (n + (uenc m).length) ((l ++ uenc m).map encB)∧St H w' (row 5 1 v' (n + (uenc m).length) ((l ++ uenc m).map encB)::L)):=by
 refine enter (args:=[v,.int .u64 ((m:Nat):Int)]) (N:=20) Try.func56 rfl rfl rfl ?_
 have h10:=uenc_len10 b_m
 refine c_seq (c_region (st (v:=.slice none 0 0) (x_assign .const) ?_))
 refine c_nil (n_then (c_seq (c_block (c_loop (fun ρ w mm => ∃ (r:Nat) (u:Value) (k:Nat) (q:List Nat),ρ 0 = u∧ρ 1 = .int .u64 ((r:Nat):Int)∧(r < 18446744073709551616)∧(l ++ uenc m = q ++ uenc r)∧(k + (uenc r).length = n + (uenc m).length)∧(Small q)∧(RowOk 1 u k (q.map encB))∧St H w (row 5 1 u k (q.map encB)::L)∧mm = r + 1) _ ⟨m,v,n,l,rfl,rfl,b_m,rfl,rfl,hsm,ok,hs,rfl⟩ ?_))))
 rintro ρ w mm ⟨r,u,k,q,hρ2,hρ3,hr,hm,hk,hq,ok2,hs4,rfl⟩
 refine c_seq (c_seq (c_region (st (v:=.int .u64 ((r:Nat):Int)) (x_move (.tmp rfl hρ3)) ?_)))
 refine st (v:=.bool (decide ((128:Int) ≤ ((r:Nat):Int)))) (x_geq (k:=.u64) (a:=((r:Nat):Int)) (b:=128) (.tmp rfl rfl) .const) ?_
 refine c_nil (n_then ?_)
 rcases Bool.eq_false_or_eq_true (decide ((128:Int) ≤ ((r:Nat):Int))) with hc5 | hc5
 have hp5:(128:Int) ≤ ((r:Nat):Int):=of_decide_eq_true hc5
 refine c_cond_t (t:=true) (.tmp rfl (congrArg Value.bool hc5)) rfl ?_
 refine c_skip (n_then (c_block (c_seq (c_region ?_))))
 have hb1:¬ r < 128:=by omega
 have hk1:(uenc r).length = (uenc (r / 2 ^ 7)).length + 1:=by rw [uenc_big hb1]; rfl
 have hb2:r / 2 ^ 7 < r:=by omega
 refine st (v:=u) (x_move (.tmp rfl hρ2)) ?_
 refine st (v:=.int .u64 ((r:Nat):Int)) (x_move (.tmp rfl hρ3)) ?_
 refine st (v:=.int .u8 (((r % 256):Nat):Int)) (x_conv (k:=.u64) (a:=((r:Nat):Int)) Try.underlying22 Try.underlying5 (.tmp rfl rfl) (wrapN _ rfl _)) ?_
 have hb6:((r % 256) ||| 128) < 256:=Nat.or_lt_two_pow (n:=8) (Nat.mod_lt _ (by decide)) (by decide)
 refine st (v:=.int .u8 ((((r % 256) ||| 128):Nat):Int)) (x_or (k:=.u8) (m:=(r % 256)) (n:=128) rfl (.tmp rfl rfl) .const (show _ < 2 ^ 8 from (Nat.mod_lt _ (by decide))) (show _ < 2 ^ 8 from (by decide))) ?_
 refine st_m (m_lit (n:=1) (ps:=[(0,.int .u8 ((((r % 256) ||| 128):Nat):Int))]) (cs:=[.int .u8 ((((r % 256) ||| 128):Nat):Int)]) Try.underlying33 inf5 (.cons (.tmp rfl rfl) Evp.nil) (by decide) (by decide) rfl rfl hs4) ?_
 rintro _ w8 ⟨g7,rfl,hs10⟩
 have hs11:=hs10.p1
 refine st_m (m_appAt (bs:=[((r % 256) ||| 128)]) Try.underlying33 inf5 hs11 ok2 (.tmp rfl rfl) (.tmp rfl rfl) rfl (hs11.at_ 1 rfl 0 rfl) (by omega)) ?_
 rintro v12 w13 ⟨ok14,hs15⟩
 refine st (v:=v12) (x_assign (.tmp rfl rfl)) ?_
 refine c_nil (n_then (c_region (st (v:=.int .u64 ((r:Nat):Int)) (x_move (.tmp rfl hρ3)) ?_)))
 have hb16:(r / 2 ^ 7) < 18446744073709551616:=Nat.lt_of_le_of_lt (Nat.div_le_self _ _) hr
 refine st (v:=.int .u64 (((r / 2 ^ 7):Nat):Int)) (x_shr (k:=.u64) (m:=r) (b:=7) rfl (.tmp rfl rfl) .const (by omega) (show _ < 2 ^ 64 from hr)) ?_
 refine st (v:=.int .u64 (((r / 2 ^ 7):Nat):Int)) (x_assign (.tmp rfl rfl)) ?_
 refine c_nil (n_block ?_)
 refine n_then ⟨_,_,rfl,?_,(r / 2 ^ 7),v12,(k + 1),(q ++ [((r % 256) ||| 128)]),rfl,rfl,hb16,(by rw [uenc_big hb1] at hm; rw [hm,or128]; simp),(by have:=hk1; omega),(hq.append (Small.cons hb6 Small.nil)),ok14,(hs15.p1).drop,rfl⟩
 exact Nat.succ_lt_succ hb2
 have hp5:¬ ((128:Int) ≤ ((r:Nat):Int)):=of_decide_eq_false hc5
 refine c_cond_f (t:=false) (.tmp rfl (congrArg Value.bool hc5)) rfl ?_
 refine c_exit (x_then (x_then (x_here (n_then (c_seq (c_region ?_))))))
 have hb1:r < 128:=by omega
 have hk1:(uenc r).length = 1:=by rw [uenc_one hb1]; rfl
 refine st (v:=u) (x_move (.tmp rfl hρ2)) ?_
 refine st (v:=.int .u64 ((r:Nat):Int)) (x_move (.tmp rfl hρ3)) ?_
 refine st (v:=.int .u8 (((r % 256):Nat):Int)) (x_conv (k:=.u64) (a:=((r:Nat):Int)) Try.underlying22 Try.underlying5 (.tmp rfl rfl) (wrapN _ rfl _)) ?_
 refine st_m (m_lit (n:=1) (ps:=[(0,.int .u8 (((r % 256):Nat):Int))]) (cs:=[.int .u8 (((r % 256):Nat):Int)]) Try.underlying33 inf5 (.cons (.tmp rfl rfl) Evp.nil) (by decide) (by decide) rfl rfl hs4) ?_
 rintro _ w18 ⟨g17,rfl,hs20⟩
 have hs21:=hs20.p1
 refine st_m (m_appAt (bs:=[(r % 256)]) Try.underlying33 inf5 hs21 ok2 (.tmp rfl rfl) (.tmp rfl rfl) rfl (hs21.at_ 1 rfl 0 rfl) (by omega)) ?_
 rintro v22 w23 ⟨ok24,hs25⟩
 refine st (v:=v22) (x_assign (.tmp rfl rfl)) ?_
 refine c_nil (n_then (c_ret (leave_ret (res_one (v:=v22) rfl (.mk rfl rfl)) ?_)))
 have hmod:r % 256 = r:=by omega
 have e1:l ++ uenc m = q ++ [r % 256]:=by rw [hm,uenc_one hb1,hmod]
 have e2:n + (uenc m).length = k + 1:=by omega
 rw [e1,e2]
 exact ⟨_,rfl,ok24,(hs25.p1).drop⟩
end Go.Proofs.Ytlfihfmmhhcigaa

set_option linter.unusedVariables false
set_option linter.unusedSimpArgs false
namespace Go.Proofs.Ytlfihfmmhhcigaa
open Go Go.FM Go.Proofs
attribute [local irreducible] wpList wpQuiet wpS Code.wp Calls
set_option maxHeartbeats 8000000 in
theorem newReader_spec {H:Hp} {w:World} {L:List Res} (hs:St H w L) {A:Option Addr} {n c:Nat}:Calls Try.prog 32 #[.slice A n c] w (fun e w' => ∃ g,e = .returned (.pointer (some ⟨g,0,none⟩))∧St H w' (obj g 98 [.slice A n c,.bool false]::L)):=by
 refine enter (args:=[.slice A n c]) (N:=6) Try.func32 rfl rfl rfl ?_
 refine c_seq (c_region (st (v:=.pointer none) (x_assign .const) ?_))
 refine c_nil (n_then (c_seq (c_region (st (v:=.slice A n c) (x_move (.tmp rfl rfl)) ?_))))
 refine st (v:=.agg #[.slice A n c,.bool false]) (bl98 (ps:=[(0,.slice A n c)]) (.cons (.tmp rfl rfl) Evp.nil) rfl) ?_
 refine st_m (m_box (cs:=[.slice A n c,.bool false]) hs (v:=.agg #[.slice A n c,.bool false]) (.tmp rfl rfl) rfl) ?_
 rintro _ w2 ⟨g1,rfl,hs4⟩
 refine st (v:=.pointer (some ⟨g1,0,none⟩)) (x_assign (.tmp rfl rfl)) ?_
 refine c_nil (n_then (c_ret (leave_ret (res_one (v:=.pointer (some ⟨g1,0,none⟩)) rfl (.mk rfl rfl)) ?_)))
 exact ⟨_,rfl,hs4⟩
set_option maxHeartbeats 8000000 in
theorem bad_own {H:Hp} {w:World} {L:List Res} {g:Nat} {A:Option Addr} {n c:Nat} {b:Bool} (hs:St H w (obj g 98 [.slice A n c,.bool b]::L)):Calls Try.prog 37 #[.pointer (some ⟨g,0,none⟩)] w (fun e w' => e = .returned (.bool b)∧St H w' (obj g 98 [.slice A n c,.bool b]::L)):=by
 refine enter (args:=[.pointer (some ⟨g,0,none⟩)]) (N:=11) Try.func37 rfl rfl rfl ?_
 refine c_seq (c_region (st (v:=.bool false) (x_assign .const) ?_))
 refine c_nil (n_then (c_seq (c_region (st (v:=.pointer (some ⟨g,0,none⟩)) (x_move (.tmp rfl rfl)) ?_))))
 refine st (v:=.bool false) (x_eqlP Try.underlying67 (.tmp rfl rfl) .const rfl) ?_
 refine st (v:=.bool false) (x_move (.tmp rfl rfl)) ?_
 refine g_yes (yl (dj:=5) (b:=false) rfl rfl rfl) ?_
 refine st (v:=.pointer (some ⟨g,0,none⟩)) (x_move (.tmp rfl rfl)) ?_
 refine g_yes (yl (dj:=5) (b:=false) rfl rfl rfl) ?_
 refine st (v:=.pointer (some ⟨g,0,none⟩)) (x_nilCheck (.tmp rfl rfl)) ?_
 refine g_yes (yl (dj:=5) (b:=false) rfl rfl rfl) ?_
 refine st (v:=.pointer (some ⟨g,0 + 1,none⟩)) (fa98_1 (.tmp rfl rfl)) ?_
 refine g_yes (yl (dj:=5) (b:=false) rfl rfl rfl) ?_
 refine st (v:=.bool b) (ld4 (.tmp rfl rfl) (hs.cell 0 rfl (0 + 1) rfl)) ?_
 refine st (v:=.bool b) (x_pick_f (.tmp rfl rfl) (.tmp rfl rfl)) ?_
 refine st (v:=.bool b) (x_assign (.tmp rfl rfl)) ?_
 refine c_nil (n_then (c_ret (leave_ret (res_one (v:=.bool b) rfl (.mk rfl rfl)) ?_)))
 exact ⟨rfl,hs⟩
set_option maxHeartbeats 8000000 in
theorem left_own {H:Hp} {w:World} {L:List Res} {g:Nat} {A:Option Addr} {n c:Nat} {b:Bool} (hs:St H w (obj g 98 [.slice A n c,.bool b]::L)):Calls Try.prog 40 #[.pointer (some ⟨g,0,none⟩)] w (fun e w' => e = .returned (.int .i64 (if b = true then 0 else ((n:Nat):Int)))∧St H w' (obj g 98 [.slice A n c,.bool b]::L)):=by
 refine enter (args:=[.pointer (some ⟨g,0,none⟩)]) (N:=16) Try.func40 rfl rfl rfl ?_
 refine c_seq (c_region (st (v:=.int .i64 0) (x_assign .const) ?_))
 refine c_nil (n_then (c_seq (c_seq (c_region (st (v:=.pointer (some ⟨g,0,none⟩)) (x_move (.tmp rfl rfl)) ?_)))))
 refine st (v:=.bool false) (x_eqlP Try.underlying67 (.tmp rfl rfl) .const rfl) ?_
 refine st (v:=.bool false) (x_move (.tmp rfl rfl)) ?_
 refine g_yes (yl (dj:=5) (b:=false) rfl rfl rfl) ?_
 refine st (v:=.pointer (some ⟨g,0,none⟩)) (x_move (.tmp rfl rfl)) ?_
 refine g_yes (yl (dj:=5) (b:=false) rfl rfl rfl) ?_
 refine st (v:=.pointer (some ⟨g,0,none⟩)) (x_nilCheck (.tmp rfl rfl)) ?_
 refine g_yes (yl (dj:=5) (b:=false) rfl rfl rfl) ?_
 refine st (v:=.pointer (some ⟨g,0 + 1,none⟩)) (fa98_1 (.tmp rfl rfl)) ?_
 refine g_yes (yl (dj:=5) (b:=false) rfl rfl rfl) ?_
 refine st (v:=.bool b) (ld4 (.tmp rfl rfl) (hs.cell 0 rfl (0 + 1) rfl)) ?_
 refine st (v:=.bool b) (x_pick_f (.tmp rfl rfl) (.tmp rfl rfl)) ?_
 refine c_nil (n_then ?_)
 rcases Bool.eq_false_or_eq_true b with hc1 | hc1
 refine c_cond_t (t:=true) (.tmp rfl (congrArg Value.bool hc1)) rfl ?_
 refine c_seq (c_region (st (v:=.int .i64 0) (x_assign .const) ?_))
 refine c_nil (n_then (c_ret (r_then (leave_ret (res_one (v:=.int .i64 0) rfl (.mk rfl rfl)) ?_))))
 exact ⟨by rw [hc1]; rfl,hs⟩
 refine c_cond_f (t:=false) (.tmp rfl (congrArg Value.bool hc1)) rfl ?_
 refine c_skip (n_then (c_seq (c_region (st (v:=.pointer (some ⟨g,0,none⟩)) (x_move (.tmp rfl rfl)) ?_))))
 refine st (v:=.pointer (some ⟨g,0,none⟩)) (x_nilCheck (.tmp rfl rfl)) ?_
 refine st (v:=.pointer (some ⟨g,0 + 0,none⟩)) (fa98_0 (.tmp rfl rfl)) ?_
 refine st (v:=.slice A n c) (ld33 (.tmp rfl rfl) (hs.cell 0 rfl (0 + 0) rfl)) ?_
 refine st (v:=.int .i64 ((n:Nat):Int)) (x_len (n:=n) Try.underlying33 (.tmp rfl rfl)) ?_
 refine st (v:=.int .i64 ((n:Nat):Int)) (x_assign (.tmp rfl rfl)) ?_
 refine c_nil (n_then (c_ret (leave_ret (res_one (v:=.int .i64 ((n:Nat):Int)) rfl (.mk rfl rfl)) ?_)))
 exact ⟨by rw [hc1]; rfl,hs⟩
set_option maxHeartbeats 8000000 in
theorem uint_true {H:Hp} {w:World} {L:List Res} {g:Nat} {A:Option Addr} {n c:Nat} {bs:List Nat} (hp:Bs H A n c bs) (hs:St H w (obj g 98 [.slice A n c,.bool true]::L)):Calls Try.prog 36 #[.pointer (some ⟨g,0,none⟩)] w (fun e w' => ∃ A' n' c',e = .returned (.int .u64 (((rdU bs true).1:Nat):Int))∧Bs H A' n' c' (rdU bs true).2.1∧St H w' (obj g 98 [.slice A' n' c',.bool (rdU bs true).2.2]::L)):=by
 refine enter (args:=[.pointer (some ⟨g,0,none⟩)]) (N:=68) Try.func36 rfl rfl rfl ?_
 refine c_seq (c_region (st (v:=.int .u64 0) (x_assign .const) ?_))
 refine c_nil (n_then (c_seq (c_seq (c_region (st (v:=.pointer (some ⟨g,0,none⟩)) (x_move (.tmp rfl rfl)) ?_)))))
 refine st (v:=.bool false) (x_eqlP Try.underlying67 (.tmp rfl rfl) .const rfl) ?_
 refine st (v:=.bool false) (x_move (.tmp rfl rfl)) ?_
 refine g_yes (yl (dj:=8) (b:=false) rfl rfl rfl) ?_
 refine st (v:=.pointer (some ⟨g,0,none⟩)) (x_move (.tmp rfl rfl)) ?_
 refine g_yes (yl (dj:=8) (b:=false) rfl rfl rfl) ?_
 refine st (v:=.pointer (some ⟨g,0,none⟩)) (x_nilCheck (.tmp rfl rfl)) ?_
 refine g_yes (yl (dj:=8) (b:=false) rfl rfl rfl) ?_
 refine st (v:=.pointer (some ⟨g,0 + 1,none⟩)) (fa98_1 (.tmp rfl rfl)) ?_
 refine g_yes (yl (dj:=8) (b:=false) rfl rfl rfl) ?_
 refine st (v:=.bool true) (ld4 (.tmp rfl rfl) (hs.cell 0 rfl (0 + 1) rfl)) ?_
 refine st (v:=.bool true) (x_pick_f (.tmp rfl rfl) (.tmp rfl rfl)) ?_
 refine c_nil (n_then (c_cond_t (t:=true) (.tmp rfl rfl) rfl ?_))
 refine c_seq (c_region (st (v:=.int .u64 0) (x_assign .const) ?_))
 refine c_nil (n_then (c_ret (r_then (leave_ret (res_one (v:=.int .u64 0) rfl (.mk rfl rfl)) ?_))))
 exact ⟨_,_,_,rfl,hp,hs⟩
set_option maxHeartbeats 8000000 in
theorem uint_false {H:Hp} {w:World} {L:List Res} {g:Nat} {A:Option Addr} {n c:Nat} {bs:List Nat} (hp:Bs H A n c bs) (hs:St H w (obj g 98 [.slice A n c,.bool false]::L)):Calls Try.prog 36 #[.pointer (some ⟨g,0,none⟩)] w (fun e w' => ∃ A' n' c',e = .returned (.int .u64 (((rdU bs false).1:Nat):Int))∧Bs H A' n' c' (rdU bs false).2.1∧St H w' (obj g 98 [.slice A' n' c',.bool (rdU bs false).2.2]::L)):=by
 refine enter (args:=[.pointer (some ⟨g,0,none⟩)]) (N:=68) Try.func36 rfl rfl rfl ?_
 have hle:=hp.le
 have hlen:=hp.len
 have hmx:c ≤ 9223372036854775807:=hp.max
 refine c_seq (c_region (st (v:=.int .u64 0) (x_assign .const) ?_))
 refine c_nil (n_then (c_seq (c_seq (c_region (st (v:=.pointer (some ⟨g,0,none⟩)) (x_move (.tmp rfl rfl)) ?_)))))
 refine st (v:=.bool false) (x_eqlP Try.underlying67 (.tmp rfl rfl) .const rfl) ?_
 refine st (v:=.bool false) (x_move (.tmp rfl rfl)) ?_
 refine g_yes (yl (dj:=8) (b:=false) rfl rfl rfl) ?_
 refine st (v:=.pointer (some ⟨g,0,none⟩)) (x_move (.tmp rfl rfl)) ?_
 refine g_yes (yl (dj:=8) (b:=false) rfl rfl rfl) ?_
 refine st (v:=.pointer (some ⟨g,0,none⟩)) (x_nilCheck (.tmp rfl rfl)) ?_
 refine g_yes (yl (dj:=8) (b:=false) rfl rfl rfl) ?_
 refine st (v:=.pointer (some ⟨g,0 + 1,none⟩)) (fa98_1 (.tmp rfl rfl)) ?_
 refine g_yes (yl (dj:=8) (b:=false) rfl rfl rfl) ?_
 refine st (v:=.bool false) (ld4 (.tmp rfl rfl) (hs.cell 0 rfl (0 + 1) rfl)) ?_
 refine st (v:=.bool false) (x_pick_f (.tmp rfl rfl) (.tmp rfl rfl)) ?_
 refine c_nil (n_then (c_cond_f (t:=false) (.tmp rfl rfl) rfl ?_))
 refine c_skip (n_then (c_seq (c_region (st (v:=.int .u64 0) (x_assign .const) ?_))))
 refine c_nil (n_then (c_seq (c_seq (c_region (st (v:=.pointer (some ⟨g,0,none⟩)) (x_move (.tmp rfl rfl)) ?_)))))
 refine st (v:=.pointer (some ⟨g,0,none⟩)) (x_nilCheck (.tmp rfl rfl)) ?_
 refine st (v:=.pointer (some ⟨g,0 + 0,none⟩)) (fa98_0 (.tmp rfl rfl)) ?_
 refine st (v:=.slice A n c) (ld33 (.tmp rfl rfl) (hs.cell 0 rfl (0 + 0) rfl)) ?_
 refine st (v:=.int .i64 ((n:Nat):Int)) (x_len (n:=n) Try.underlying33 (.tmp rfl rfl)) ?_
 refine st (v:=.int .i64 0) (x_move .const) ?_
 refine c_nil (n_then (c_block (c_loop (fun ρ w mm => ∃ (i:Nat) (a:Nat),ρ 0 = .pointer (some ⟨g,0,none⟩)∧ρ 3 = .int .u64 ((a:Nat):Int)∧ρ 18 = .int .i64 ((n:Nat):Int)∧ρ 19 = .int .i64 ((i:Nat):Int)∧(i ≤ n)∧(i ≤ 9)∧(a < 18446744073709551616)∧(uscan 0 0 bs = uscan i a (bs.drop i))∧St H w (obj g 98 [.slice A n c,.bool false]::L)∧mm = n - i) _ ⟨0,0,rfl,rfl,rfl,rfl,(by omega),(by omega),(by decide),rfl,hs,rfl⟩ ?_)))
 rintro ρ w mm ⟨i,a,hρ2,hρ3,hρ4,hρ5,hi,h9,ha,hu,hs6,rfl⟩
 refine c_seq (c_region (st (v:=.bool (decide ((((i:Nat):Int):Int) < ((n:Nat):Int)))) (x_lss (k:=.i64) (a:=((i:Nat):Int)) (b:=((n:Nat):Int)) (.tmp rfl hρ5) (.tmp rfl hρ4)) ?_))
 refine c_nil (n_then (c_seq ?_))
 rcases Bool.eq_false_or_eq_true (decide ((((i:Nat):Int):Int) < ((n:Nat):Int))) with hc7 | hc7
 have hp7:(((i:Nat):Int):Int) < ((n:Nat):Int):=of_decide_eq_true hc7
 refine c_cond_t (t:=true) (.tmp rfl (congrArg Value.bool hc7)) rfl ?_
 refine c_skip (n_then (c_seq (c_block (c_seq (c_region (st (v:=.int .i64 ((i:Nat):Int)) (x_move (.tmp rfl hρ5)) ?_))))))
 refine st (v:=.int .i64 ((i:Nat):Int)) (x_assign (.tmp rfl rfl)) ?_
 refine c_nil (n_then (c_seq (c_region (st (v:=.pointer (some ⟨g,0,none⟩)) (x_move (.tmp rfl hρ2)) ?_))))
 refine st (v:=.pointer (some ⟨g,0,none⟩)) (x_nilCheck (.tmp rfl rfl)) ?_
 refine st (v:=.pointer (some ⟨g,0 + 0,none⟩)) (fa98_0 (.tmp rfl rfl)) ?_
 refine st (v:=.slice A n c) (ld33 (.tmp rfl rfl) (hs6.cell 0 rfl (0 + 0) rfl)) ?_
 refine st (v:=.int .i64 ((i:Nat):Int)) (x_move (.tmp rfl rfl)) ?_
 obtain ⟨b8,o9,hA10,hc11⟩:=hp.get (i:=i) (by omega)
 refine st (v:=.pointer (some ⟨b8,(o9 + i * 1),none⟩)) (ixo33 (.tmp rfl rfl) hA10 (i:=((i:Nat):Int)) (.tmp rfl rfl) (by omega) (by omega) rfl) ?_
 refine st (v:=.int .u8 ((bs.getD i 0:Nat):Int)) (ld5 (.tmp rfl rfl) (hc11 hs6)) ?_
 refine st (v:=.int .u8 ((bs.getD i 0:Nat):Int)) (x_assign (.tmp rfl rfl)) ?_
 refine c_nil (n_then (c_seq (c_seq (c_region (st (v:=.int .i64 ((i:Nat):Int)) (x_move (.tmp rfl rfl)) ?_)))))
 refine st (v:=.bool (decide ((((i:Nat):Int):Int) = 9))) (x_eql (k:=.i64) (a:=((i:Nat):Int)) (b:=9) (.tmp rfl rfl) .const) ?_
 refine st (v:=.bool (decide ((((i:Nat):Int):Int) = 9))) (x_move (.tmp rfl rfl)) ?_
 rcases Bool.eq_false_or_eq_true (decide ((((i:Nat):Int):Int) = 9)) with hc12 | hc12
 have hp12:(((i:Nat):Int):Int) = 9:=of_decide_eq_true hc12
 refine g_yes (yk 31 true rfl rfl hc12) ?_
 refine st (v:=.int .u8 ((bs.getD i 0:Nat):Int)) (x_move (.tmp rfl rfl)) ?_
 refine g_yes (yk 31 true rfl rfl hc12) ?_
 refine st (v:=.bool (decide ((1:Int) < ((bs.getD i 0:Nat):Int)))) (x_gtr (k:=.u8) (a:=((bs.getD i 0:Nat):Int)) (b:=1) (.tmp rfl rfl) .const) ?_
 refine st (v:=.bool (decide ((1:Int) < ((bs.getD i 0:Nat):Int)))) (x_pick_t (.tmp rfl (congrArg Value.bool hc12)) (.tmp rfl rfl)) ?_
 refine st (v:=.bool (decide ((1:Int) < ((bs.getD i 0:Nat):Int)))) (x_move (.tmp rfl rfl)) ?_
 rcases Bool.eq_false_or_eq_true (decide ((1:Int) < ((bs.getD i 0:Nat):Int))) with hc13 | hc13
 have hp13:(1:Int) < ((bs.getD i 0:Nat):Int):=of_decide_eq_true hc13
 refine g_no (yk 35 true rfl rfl hc13) rfl ?_
 refine g_no (yk 35 true rfl rfl hc13) rfl ?_
 refine g_no (yk 35 true rfl rfl hc13) rfl ?_
 refine g_no0 (yn (dj:=38) rfl rfl) ?_
 refine g_no0 (yn (dj:=38) rfl rfl) ?_
 refine g_no (yk 35 true rfl rfl hc13) rfl ?_
 refine st (v:=.bool true) (x_pick_t (.tmp rfl (congrArg Value.bool hc13)) .const) ?_
 refine c_nil (n_then (c_cond_t (t:=true) (.tmp rfl rfl) rfl ?_))
 refine c_exit (x_then (x_block rfl (x_then (x_then (x_here (n_then (c_seq (c_region (st (v:=.pointer (some ⟨g,0,none⟩)) (x_move (.tmp rfl hρ2)) ?_)))))))))
 refine st (v:=.pointer (some ⟨g,0,none⟩)) (x_nilCheck (.tmp rfl rfl)) ?_
 refine st (v:=.pointer (some ⟨g,0 + 1,none⟩)) (fa98_1 (.tmp rfl rfl)) ?_
 refine st_m0 (sto4 (cs':=[.slice A n c,.bool true]) (i:=0 + 1) hs6 (v:=.bool true) (.tmp rfl rfl) .const rfl (Nat.le_of_ble_eq_true rfl) one1 rfl) ?_
 rintro w14 hs16
 refine c_nil (n_then (c_seq (c_region (st (v:=.int .u64 0) (x_assign .const) ?_))))
 refine c_nil (n_then (c_ret (leave_ret (res_one (v:=.int .u64 0) rfl (.mk rfl rfl)) ?_)))
 have hf:uscan 0 0 bs = none:=hu.trans (by first | (rw [uscan_get (by omega),if_pos (by omega)]) | (rw [List.drop_eq_nil_of_le (by omega)]; rfl))
 rw [rdU_none hf]
 exact ⟨_,_,_,rfl,hp,hs16⟩
 have hp13:¬ ((1:Int) < ((bs.getD i 0:Nat):Int)):=of_decide_eq_false hc13
 refine g_yes (yk 35 false rfl rfl hc13) ?_
 refine st (v:=.int .i64 ((i:Nat):Int)) (x_move (.tmp rfl rfl)) ?_
 refine g_yes (yk 35 false rfl rfl hc13) ?_
 refine st (v:=.bool (decide ((0:Int) < ((i:Nat):Int)))) (x_gtr (k:=.i64) (a:=((i:Nat):Int)) (b:=0) (.tmp rfl rfl) .const) ?_
 refine g_yes (yk 35 false rfl rfl hc13) ?_
 refine st (v:=.bool (decide ((0:Int) < ((i:Nat):Int)))) (x_move (.tmp rfl rfl)) ?_
 rcases Bool.eq_false_or_eq_true (decide ((0:Int) < ((i:Nat):Int))) with hc17 | hc17
 have hp17:(0:Int) < ((i:Nat):Int):=of_decide_eq_true hc17
 refine g_yes (yk 38 true rfl rfl hc17) ?_
 refine st (v:=.int .u8 ((bs.getD i 0:Nat):Int)) (x_move (.tmp rfl rfl)) ?_
 refine g_yes (yk 38 true rfl rfl hc17) ?_
 refine st (v:=.bool (decide ((((bs.getD i 0:Nat):Int):Int) = 0))) (x_eql (k:=.u8) (a:=((bs.getD i 0:Nat):Int)) (b:=0) (.tmp rfl rfl) .const) ?_
 refine g_yes (yk 35 false rfl rfl hc13) ?_
 refine st (v:=.bool (decide ((((bs.getD i 0:Nat):Int):Int) = 0))) (x_pick_t (.tmp rfl (congrArg Value.bool hc17)) (.tmp rfl rfl)) ?_
 refine st (v:=.bool (decide ((((bs.getD i 0:Nat):Int):Int) = 0))) (x_pick_f (.tmp rfl (congrArg Value.bool hc13)) (.tmp rfl rfl)) ?_
 refine c_nil (n_then ?_)
 rcases Bool.eq_false_or_eq_true (decide ((((bs.getD i 0:Nat):Int):Int) = 0)) with hc18 | hc18
 have hp18:(((bs.getD i 0:Nat):Int):Int) = 0:=of_decide_eq_true hc18
 refine c_cond_t (t:=true) (.tmp rfl (congrArg Value.bool hc18)) rfl ?_
 refine c_exit (x_then (x_block rfl (x_then (x_then (x_here (n_then (c_seq (c_region (st (v:=.pointer (some ⟨g,0,none⟩)) (x_move (.tmp rfl hρ2)) ?_)))))))))
 refine st (v:=.pointer (some ⟨g,0,none⟩)) (x_nilCheck (.tmp rfl rfl)) ?_
 refine st (v:=.pointer (some ⟨g,0 + 1,none⟩)) (fa98_1 (.tmp rfl rfl)) ?_
 refine st_m0 (sto4 (cs':=[.slice A n c,.bool true]) (i:=0 + 1) hs6 (v:=.bool true) (.tmp rfl rfl) .const rfl (Nat.le_of_ble_eq_true rfl) one1 rfl) ?_
 rintro w19 hs21
 refine c_nil (n_then (c_seq (c_region (st (v:=.int .u64 0) (x_assign .const) ?_))))
 refine c_nil (n_then (c_ret (leave_ret (res_one (v:=.int .u64 0) rfl (.mk rfl rfl)) ?_)))
 have hf:uscan 0 0 bs = none:=hu.trans (by first | (rw [uscan_get (by omega),if_pos (by omega)]) | (rw [List.drop_eq_nil_of_le (by omega)]; rfl))
 rw [rdU_none hf]
 exact ⟨_,_,_,rfl,hp,hs21⟩
 have hp18:¬ ((((bs.getD i 0:Nat):Int):Int) = 0):=of_decide_eq_false hc18
 refine c_cond_f (t:=false) (.tmp rfl (congrArg Value.bool hc18)) rfl ?_
 refine c_skip (n_then (c_seq (c_region (st (v:=.int .u64 ((a:Nat):Int)) (x_move (.tmp rfl hρ3)) ?_))))
 refine st (v:=.int .u8 ((bs.getD i 0:Nat):Int)) (x_move (.tmp rfl rfl)) ?_
 have hb22:((bs.getD i 0) &&& 127) < 256:=Nat.lt_of_le_of_lt Nat.and_le_left (hp.lt.getD _)
 refine st (v:=.int .u8 ((((bs.getD i 0) &&& 127):Nat):Int)) (x_and (k:=.u8) (m:=(bs.getD i 0)) (n:=127) rfl (.tmp rfl rfl) .const (show _ < 2 ^ 8 from (hp.lt.getD _)) (show _ < 2 ^ 8 from (by decide))) ?_
 have hb23:((bs.getD i 0) &&& 127) < 18446744073709551616:=Nat.lt_of_lt_of_le hb22 (by decide)
 refine st (v:=.int .u64 ((((bs.getD i 0) &&& 127):Nat):Int)) (x_conv (k:=.u8) (a:=((((bs.getD i 0) &&& 127):Nat):Int)) Try.underlying5 Try.underlying22 (.tmp rfl rfl) (wU rfl rfl hb23)) ?_
 refine st (v:=.int .i64 ((i:Nat):Int)) (x_move (.tmp rfl rfl)) ?_
 refine st (v:=.int .i64 (((7 * i):Nat):Int)) (x_mul (k:=.i64) (a:=7) (b:=((i:Nat):Int)) .const (.tmp rfl rfl) ((w64 (by omega) (by omega)).trans (by omega))) ?_
 have hb24:(((bs.getD i 0) &&& 127) * 2 ^ (7 * i) % 18446744073709551616) < 18446744073709551616:=Nat.mod_lt _ (by decide)
 refine st (v:=.int .u64 (((((bs.getD i 0) &&& 127) * 2 ^ (7 * i) % 18446744073709551616):Nat):Int)) (x_shl (k:=.u64) (m:=((bs.getD i 0) &&& 127)) (b:=(((7 * i):Nat):Int)) rfl (.tmp rfl rfl) (.tmp rfl rfl) (by omega)) ?_
 have hb25:(a ||| (((bs.getD i 0) &&& 127) * 2 ^ (7 * i) % 18446744073709551616)) < 18446744073709551616:=Nat.or_lt_two_pow (n:=64) ha hb24
 refine st (v:=.int .u64 (((a ||| (((bs.getD i 0) &&& 127) * 2 ^ (7 * i) % 18446744073709551616)):Nat):Int)) (x_or (k:=.u64) (m:=a) (n:=(((bs.getD i 0) &&& 127) * 2 ^ (7 * i) % 18446744073709551616)) rfl (.tmp rfl rfl) (.tmp rfl rfl) (show _ < 2 ^ 64 from ha) (show _ < 2 ^ 64 from hb24)) ?_
 refine st (v:=.int .u64 (((a ||| (((bs.getD i 0) &&& 127) * 2 ^ (7 * i) % 18446744073709551616)):Nat):Int)) (x_assign (.tmp rfl rfl)) ?_
 refine c_nil (n_then (c_seq (c_region (st (v:=.int .u8 ((bs.getD i 0:Nat):Int)) (x_move (.tmp rfl rfl)) ?_))))
 refine st (v:=.bool (decide ((((bs.getD i 0:Nat):Int):Int) < 128))) (x_lss (k:=.u8) (a:=((bs.getD i 0:Nat):Int)) (b:=128) (.tmp rfl rfl) .const) ?_
 refine c_nil (n_then ?_)
 rcases Bool.eq_false_or_eq_true (decide ((((bs.getD i 0:Nat):Int):Int) < 128)) with hc26 | hc26
 have hp26:(((bs.getD i 0:Nat):Int):Int) < 128:=of_decide_eq_true hc26
 refine c_cond_t (t:=true) (.tmp rfl (congrArg Value.bool hc26)) rfl ?_
 refine c_seq (c_region (st (v:=.pointer (some ⟨g,0,none⟩)) (x_move (.tmp rfl hρ2)) ?_))
 refine st (v:=.pointer (some ⟨g,0,none⟩)) (x_move (.tmp rfl hρ2)) ?_
 refine st (v:=.pointer (some ⟨g,0,none⟩)) (x_nilCheck (.tmp rfl rfl)) ?_
 refine st (v:=.pointer (some ⟨g,0 + 0,none⟩)) (fa98_0 (.tmp rfl rfl)) ?_
 refine st (v:=.slice A n c) (ld33 (.tmp rfl rfl) (hs6.cell 0 rfl (0 + 0) rfl)) ?_
 refine st (v:=.int .i64 ((i:Nat):Int)) (x_move (.tmp rfl rfl)) ?_
 refine st (v:=.int .i64 (((i + 1):Nat):Int)) (x_add (k:=.i64) (a:=((i:Nat):Int)) (b:=1) (.tmp rfl rfl) .const ((w64 (by omega) (by omega)).trans (by omega))) ?_
 have:=hp.le
 refine st (v:=.slice (cutA A c (i + 1) 1) (n - (i + 1)) (c - (i + 1))) (bs_l Try.underlying33 inf5 (a:=(((i + 1):Nat):Int)) (.tmp rfl rfl) (.tmp rfl rfl) (by omega) (by omega) (by omega)) ?_
 refine st (v:=.pointer (some ⟨g,0,none⟩)) (x_nilCheck (.tmp rfl rfl)) ?_
 refine st (v:=.pointer (some ⟨g,0 + 0,none⟩)) (fa98_0 (.tmp rfl rfl)) ?_
 refine st_m0 (sto33 (cs':=[.slice (cutA A c (i + 1) 1) (n - (i + 1)) (c - (i + 1)),.bool false]) (i:=0 + 0) hs6 (v:=.slice (cutA A c (i + 1) 1) (n - (i + 1)) (c - (i + 1))) (.tmp rfl rfl) (.tmp rfl rfl) rfl (Nat.le_of_ble_eq_true rfl) one1 rfl) ?_
 rintro w27 hs29
 refine c_nil (n_then (c_seq (c_region (st (v:=.int .u64 (((a ||| (((bs.getD i 0) &&& 127) * 2 ^ (7 * i) % 18446744073709551616)):Nat):Int)) (x_move (.tmp rfl rfl)) ?_))))
 refine st (v:=.int .u64 (((a ||| (((bs.getD i 0) &&& 127) * 2 ^ (7 * i) % 18446744073709551616)):Nat):Int)) (x_assign (.tmp rfl rfl)) ?_
 refine c_nil (n_then (c_ret (r_block (r_then (r_then (r_block (r_then (leave_ret (res_one (v:=.int .u64 (((a ||| (((bs.getD i 0) &&& 127) * 2 ^ (7 * i) % 18446744073709551616)):Nat):Int)) rfl (.mk rfl rfl)) ?_))))))))
 have hf:uscan 0 0 bs = some ((a ||| (((bs.getD i 0) &&& 127) * 2 ^ (7 * i) % 18446744073709551616)),bs.drop (i + 1)):=hu.trans (by rw [uscan_get (by omega),if_neg (by omega),if_pos (by omega)])
 rw [rdU_some hf]
 exact ⟨_,_,_,rfl,(hp.drop (k:=(i + 1)) (by omega)),hs29⟩
 have hp26:¬ ((((bs.getD i 0:Nat):Int):Int) < 128):=of_decide_eq_false hc26
 refine c_cond_f (t:=false) (.tmp rfl (congrArg Value.bool hc26)) rfl ?_
 refine c_skip (n_block (n_then (c_region (st (v:=.int .i64 (((i:Nat):Int) + 1)) (x_add (k:=.i64) (a:=((i:Nat):Int)) (b:=1) (.tmp rfl hρ5) .const (w64 (by omega) (by omega))) ?_))))
 refine st (v:=.int .i64 (((i:Nat):Int) + 1)) (x_move (.tmp rfl rfl)) ?_
 refine c_nil ?_
 refine n_then ⟨_,_,rfl,?_,(i + 1),(a ||| (((bs.getD i 0) &&& 127) * 2 ^ (7 * i) % 18446744073709551616)),hρ2,rfl,hρ4,rfl,(by omega),(by omega),hb25,(hu.trans (by rw [uscan_get (by omega),if_neg (by omega),if_neg (by omega)])),hs6,rfl⟩
 omega
 have hp17:¬ ((0:Int) < ((i:Nat):Int)):=of_decide_eq_false hc17
 refine g_no (yk 38 false rfl rfl hc17) rfl ?_
 refine g_no (yk 38 false rfl rfl hc17) rfl ?_
 refine g_yes (yk 35 false rfl rfl hc13) ?_
 refine st (v:=.bool false) (x_pick_f (.tmp rfl (congrArg Value.bool hc17)) .const) ?_
 refine st (v:=.bool false) (x_pick_f (.tmp rfl (congrArg Value.bool hc13)) (.tmp rfl rfl)) ?_
 refine c_nil (n_then (c_cond_f (t:=false) (.tmp rfl rfl) rfl ?_))
 refine c_skip (n_then (c_seq (c_region (st (v:=.int .u64 ((a:Nat):Int)) (x_move (.tmp rfl hρ3)) ?_))))
 refine st (v:=.int .u8 ((bs.getD i 0:Nat):Int)) (x_move (.tmp rfl rfl)) ?_
 have hb30:((bs.getD i 0) &&& 127) < 256:=Nat.lt_of_le_of_lt Nat.and_le_left (hp.lt.getD _)
 refine st (v:=.int .u8 ((((bs.getD i 0) &&& 127):Nat):Int)) (x_and (k:=.u8) (m:=(bs.getD i 0)) (n:=127) rfl (.tmp rfl rfl) .const (show _ < 2 ^ 8 from (hp.lt.getD _)) (show _ < 2 ^ 8 from (by decide))) ?_
 have hb31:((bs.getD i 0) &&& 127) < 18446744073709551616:=Nat.lt_of_lt_of_le hb30 (by decide)
 refine st (v:=.int .u64 ((((bs.getD i 0) &&& 127):Nat):Int)) (x_conv (k:=.u8) (a:=((((bs.getD i 0) &&& 127):Nat):Int)) Try.underlying5 Try.underlying22 (.tmp rfl rfl) (wU rfl rfl hb31)) ?_
 refine st (v:=.int .i64 ((i:Nat):Int)) (x_move (.tmp rfl rfl)) ?_
 refine st (v:=.int .i64 (((7 * i):Nat):Int)) (x_mul (k:=.i64) (a:=7) (b:=((i:Nat):Int)) .const (.tmp rfl rfl) ((w64 (by omega) (by omega)).trans (by omega))) ?_
 have hb32:(((bs.getD i 0) &&& 127) * 2 ^ (7 * i) % 18446744073709551616) < 18446744073709551616:=Nat.mod_lt _ (by decide)
 refine st (v:=.int .u64 (((((bs.getD i 0) &&& 127) * 2 ^ (7 * i) % 18446744073709551616):Nat):Int)) (x_shl (k:=.u64) (m:=((bs.getD i 0) &&& 127)) (b:=(((7 * i):Nat):Int)) rfl (.tmp rfl rfl) (.tmp rfl rfl) (by omega)) ?_
 have hb33:(a ||| (((bs.getD i 0) &&& 127) * 2 ^ (7 * i) % 18446744073709551616)) < 18446744073709551616:=Nat.or_lt_two_pow (n:=64) ha hb32
 refine st (v:=.int .u64 (((a ||| (((bs.getD i 0) &&& 127) * 2 ^ (7 * i) % 18446744073709551616)):Nat):Int)) (x_or (k:=.u64) (m:=a) (n:=(((bs.getD i 0) &&& 127) * 2 ^ (7 * i) % 18446744073709551616)) rfl (.tmp rfl rfl) (.tmp rfl rfl) (show _ < 2 ^ 64 from ha) (show _ < 2 ^ 64 from hb32)) ?_
 refine st (v:=.int .u64 (((a ||| (((bs.getD i 0) &&& 127) * 2 ^ (7 * i) % 18446744073709551616)):Nat):Int)) (x_assign (.tmp rfl rfl)) ?_
 refine c_nil (n_then (c_seq (c_region (st (v:=.int .u8 ((bs.getD i 0:Nat):Int)) (x_move (.tmp rfl rfl)) ?_))))
 refine st (v:=.bool (decide ((((bs.getD i 0:Nat):Int):Int) < 128))) (x_lss (k:=.u8) (a:=((bs.getD i 0:Nat):Int)) (b:=128) (.tmp rfl rfl) .const) ?_
 refine c_nil (n_then ?_)
 rcases Bool.eq_false_or_eq_true (decide ((((bs.getD i 0:Nat):Int):Int) < 128)) with hc34 | hc34
 have hp34:(((bs.getD i 0:Nat):Int):Int) < 128:=of_decide_eq_true hc34
 refine c_cond_t (t:=true) (.tmp rfl (congrArg Value.bool hc34)) rfl ?_
 refine c_seq (c_region (st (v:=.pointer (some ⟨g,0,none⟩)) (x_move (.tmp rfl hρ2)) ?_))
 refine st (v:=.pointer (some ⟨g,0,none⟩)) (x_move (.tmp rfl hρ2)) ?_
 refine st (v:=.pointer (some ⟨g,0,none⟩)) (x_nilCheck (.tmp rfl rfl)) ?_
 refine st (v:=.pointer (some ⟨g,0 + 0,none⟩)) (fa98_0 (.tmp rfl rfl)) ?_
 refine st (v:=.slice A n c) (ld33 (.tmp rfl rfl) (hs6.cell 0 rfl (0 + 0) rfl)) ?_
 refine st (v:=.int .i64 ((i:Nat):Int)) (x_move (.tmp rfl rfl)) ?_
 refine st (v:=.int .i64 (((i + 1):Nat):Int)) (x_add (k:=.i64) (a:=((i:Nat):Int)) (b:=1) (.tmp rfl rfl) .const ((w64 (by omega) (by omega)).trans (by omega))) ?_
 have:=hp.le
 refine st (v:=.slice (cutA A c (i + 1) 1) (n - (i + 1)) (c - (i + 1))) (bs_l Try.underlying33 inf5 (a:=(((i + 1):Nat):Int)) (.tmp rfl rfl) (.tmp rfl rfl) (by omega) (by omega) (by omega)) ?_
 refine st (v:=.pointer (some ⟨g,0,none⟩)) (x_nilCheck (.tmp rfl rfl)) ?_
 refine st (v:=.pointer (some ⟨g,0 + 0,none⟩)) (fa98_0 (.tmp rfl rfl)) ?_
 refine st_m0 (sto33 (cs':=[.slice (cutA A c (i + 1) 1) (n - (i + 1)) (c - (i + 1)),.bool false]) (i:=0 + 0) hs6 (v:=.slice (cutA A c (i + 1) 1) (n - (i + 1)) (c - (i + 1))) (.tmp rfl rfl) (.tmp rfl rfl) rfl (Nat.le_of_ble_eq_true rfl) one1 rfl) ?_
 rintro w35 hs37
 refine c_nil (n_then (c_seq (c_region (st (v:=.int .u64 (((a ||| (((bs.getD i 0) &&& 127) * 2 ^ (7 * i) % 18446744073709551616)):Nat):Int)) (x_move (.tmp rfl rfl)) ?_))))
 refine st (v:=.int .u64 (((a ||| (((bs.getD i 0) &&& 127) * 2 ^ (7 * i) % 18446744073709551616)):Nat):Int)) (x_assign (.tmp rfl rfl)) ?_
 refine c_nil (n_then (c_ret (r_block (r_then (r_then (r_block (r_then (leave_ret (res_one (v:=.int .u64 (((a ||| (((bs.getD i 0) &&& 127) * 2 ^ (7 * i) % 18446744073709551616)):Nat):Int)) rfl (.mk rfl rfl)) ?_))))))))
 have hf:uscan 0 0 bs = some ((a ||| (((bs.getD i 0) &&& 127) * 2 ^ (7 * i) % 18446744073709551616)),bs.drop (i + 1)):=hu.trans (by rw [uscan_get (by omega),if_neg (by omega),if_pos (by omega)])
 rw [rdU_some hf]
 exact ⟨_,_,_,rfl,(hp.drop (k:=(i + 1)) (by omega)),hs37⟩
 have hp34:¬ ((((bs.getD i 0:Nat):Int):Int) < 128):=of_decide_eq_false hc34
 refine c_cond_f (t:=false) (.tmp rfl (congrArg Value.bool hc34)) rfl ?_
 refine c_skip (n_block (n_then (c_region (st (v:=.int .i64 (((i:Nat):Int) + 1)) (x_add (k:=.i64) (a:=((i:Nat):Int)) (b:=1) (.tmp rfl hρ5) .const (w64 (by omega) (by omega))) ?_))))
 refine st (v:=.int .i64 (((i:Nat):Int) + 1)) (x_move (.tmp rfl rfl)) ?_
 refine c_nil ?_
 refine n_then ⟨_,_,rfl,?_,(i + 1),(a ||| (((bs.getD i 0) &&& 127) * 2 ^ (7 * i) % 18446744073709551616)),hρ2,rfl,hρ4,rfl,(by omega),(by omega),hb33,(hu.trans (by rw [uscan_get (by omega),if_neg (by omega),if_neg (by omega)])),hs6,rfl⟩
 omega
 have hp12:¬ ((((i:Nat):Int):Int) = 9):=of_decide_eq_false hc12
 refine g_no (yk 31 false rfl rfl hc12) rfl ?_
 refine g_no (yk 31 false rfl rfl hc12) rfl ?_
 refine st (v:=.bool false) (x_pick_f (.tmp rfl (congrArg Value.bool hc12)) .const) ?_
 refine st (v:=.bool false) (x_move (.tmp rfl rfl)) ?_
 refine g_yes (yl (dj:=35) (b:=false) rfl rfl rfl) ?_
 refine st (v:=.int .i64 ((i:Nat):Int)) (x_move (.tmp rfl rfl)) ?_
 refine g_yes (yl (dj:=35) (b:=false) rfl rfl rfl) ?_
 refine st (v:=.bool (decide ((0:Int) < ((i:Nat):Int)))) (x_gtr (k:=.i64) (a:=((i:Nat):Int)) (b:=0) (.tmp rfl rfl) .const) ?_
 refine g_yes (yl (dj:=35) (b:=false) rfl rfl rfl) ?_
 refine st (v:=.bool (decide ((0:Int) < ((i:Nat):Int)))) (x_move (.tmp rfl rfl)) ?_
 rcases Bool.eq_false_or_eq_true (decide ((0:Int) < ((i:Nat):Int))) with hc38 | hc38
 have hp38:(0:Int) < ((i:Nat):Int):=of_decide_eq_true hc38
 refine g_yes (yk 38 true rfl rfl hc38) ?_
 refine st (v:=.int .u8 ((bs.getD i 0:Nat):Int)) (x_move (.tmp rfl rfl)) ?_
 refine g_yes (yk 38 true rfl rfl hc38) ?_
 refine st (v:=.bool (decide ((((bs.getD i 0:Nat):Int):Int) = 0))) (x_eql (k:=.u8) (a:=((bs.getD i 0:Nat):Int)) (b:=0) (.tmp rfl rfl) .const) ?_
 refine g_yes (yl (dj:=35) (b:=false) rfl rfl rfl) ?_
 refine st (v:=.bool (decide ((((bs.getD i 0:Nat):Int):Int) = 0))) (x_pick_t (.tmp rfl (congrArg Value.bool hc38)) (.tmp rfl rfl)) ?_
 refine st (v:=.bool (decide ((((bs.getD i 0:Nat):Int):Int) = 0))) (x_pick_f (.tmp rfl rfl) (.tmp rfl rfl)) ?_
 refine c_nil (n_then ?_)
 rcases Bool.eq_false_or_eq_true (decide ((((bs.getD i 0:Nat):Int):Int) = 0)) with hc39 | hc39
 have hp39:(((bs.getD i 0:Nat):Int):Int) = 0:=of_decide_eq_true hc39
 refine c_cond_t (t:=true) (.tmp rfl (congrArg Value.bool hc39)) rfl ?_
 refine c_exit (x_then (x_block rfl (x_then (x_then (x_here (n_then (c_seq (c_region (st (v:=.pointer (some ⟨g,0,none⟩)) (x_move (.tmp rfl hρ2)) ?_)))))))))
 refine st (v:=.pointer (some ⟨g,0,none⟩)) (x_nilCheck (.tmp rfl rfl)) ?_
 refine st (v:=.pointer (some ⟨g,0 + 1,none⟩)) (fa98_1 (.tmp rfl rfl)) ?_
 refine st_m0 (sto4 (cs':=[.slice A n c,.bool true]) (i:=0 + 1) hs6 (v:=.bool true) (.tmp rfl rfl) .const rfl (Nat.le_of_ble_eq_true rfl) one1 rfl) ?_
 rintro w40 hs42
 refine c_nil (n_then (c_seq (c_region (st (v:=.int .u64 0) (x_assign .const) ?_))))
 refine c_nil (n_then (c_ret (leave_ret (res_one (v:=.int .u64 0) rfl (.mk rfl rfl)) ?_)))
 have hf:uscan 0 0 bs = none:=hu.trans (by first | (rw [uscan_get (by omega),if_pos (by omega)]) | (rw [List.drop_eq_nil_of_le (by omega)]; rfl))
 rw [rdU_none hf]
 exact ⟨_,_,_,rfl,hp,hs42⟩
 have hp39:¬ ((((bs.getD i 0:Nat):Int):Int) = 0):=of_decide_eq_false hc39
 refine c_cond_f (t:=false) (.tmp rfl (congrArg Value.bool hc39)) rfl ?_
 refine c_skip (n_then (c_seq (c_region (st (v:=.int .u64 ((a:Nat):Int)) (x_move (.tmp rfl hρ3)) ?_))))
 refine st (v:=.int .u8 ((bs.getD i 0:Nat):Int)) (x_move (.tmp rfl rfl)) ?_
 have hb43:((bs.getD i 0) &&& 127) < 256:=Nat.lt_of_le_of_lt Nat.and_le_left (hp.lt.getD _)
 refine st (v:=.int .u8 ((((bs.getD i 0) &&& 127):Nat):Int)) (x_and (k:=.u8) (m:=(bs.getD i 0)) (n:=127) rfl (.tmp rfl rfl) .const (show _ < 2 ^ 8 from (hp.lt.getD _)) (show _ < 2 ^ 8 from (by decide))) ?_
 have hb44:((bs.getD i 0) &&& 127) < 18446744073709551616:=Nat.lt_of_lt_of_le hb43 (by decide)
 refine st (v:=.int .u64 ((((bs.getD i 0) &&& 127):Nat):Int)) (x_conv (k:=.u8) (a:=((((bs.getD i 0) &&& 127):Nat):Int)) Try.underlying5 Try.underlying22 (.tmp rfl rfl) (wU rfl rfl hb44)) ?_
 refine st (v:=.int .i64 ((i:Nat):Int)) (x_move (.tmp rfl rfl)) ?_
 refine st (v:=.int .i64 (((7 * i):Nat):Int)) (x_mul (k:=.i64) (a:=7) (b:=((i:Nat):Int)) .const (.tmp rfl rfl) ((w64 (by omega) (by omega)).trans (by omega))) ?_
 have hb45:(((bs.getD i 0) &&& 127) * 2 ^ (7 * i) % 18446744073709551616) < 18446744073709551616:=Nat.mod_lt _ (by decide)
 refine st (v:=.int .u64 (((((bs.getD i 0) &&& 127) * 2 ^ (7 * i) % 18446744073709551616):Nat):Int)) (x_shl (k:=.u64) (m:=((bs.getD i 0) &&& 127)) (b:=(((7 * i):Nat):Int)) rfl (.tmp rfl rfl) (.tmp rfl rfl) (by omega)) ?_
 have hb46:(a ||| (((bs.getD i 0) &&& 127) * 2 ^ (7 * i) % 18446744073709551616)) < 18446744073709551616:=Nat.or_lt_two_pow (n:=64) ha hb45
 refine st (v:=.int .u64 (((a ||| (((bs.getD i 0) &&& 127) * 2 ^ (7 * i) % 18446744073709551616)):Nat):Int)) (x_or (k:=.u64) (m:=a) (n:=(((bs.getD i 0) &&& 127) * 2 ^ (7 * i) % 18446744073709551616)) rfl (.tmp rfl rfl) (.tmp rfl rfl) (show _ < 2 ^ 64 from ha) (show _ < 2 ^ 64 from hb45)) ?_
 refine st (v:=.int .u64 (((a ||| (((bs.getD i 0) &&& 127) * 2 ^ (7 * i) % 18446744073709551616)):Nat):Int)) (x_assign (.tmp rfl rfl)) ?_
 refine c_nil (n_then (c_seq (c_region (st (v:=.int .u8 ((bs.getD i 0:Nat):Int)) (x_move (.tmp rfl rfl)) ?_))))
 refine st (v:=.bool (decide ((((bs.getD i 0:Nat):Int):Int) < 128))) (x_lss (k:=.u8) (a:=((bs.getD i 0:Nat):Int)) (b:=128) (.tmp rfl rfl) .const) ?_
 refine c_nil (n_then ?_)
 rcases Bool.eq_false_or_eq_true (decide ((((bs.getD i 0:Nat):Int):Int) < 128)) with hc47 | hc47
 have hp47:(((bs.getD i 0:Nat):Int):Int) < 128:=of_decide_eq_true hc47
 refine c_cond_t (t:=true) (.tmp rfl (congrArg Value.bool hc47)) rfl ?_
 refine c_seq (c_region (st (v:=.pointer (some ⟨g,0,none⟩)) (x_move (.tmp rfl hρ2)) ?_))
 refine st (v:=.pointer (some ⟨g,0,none⟩)) (x_move (.tmp rfl hρ2)) ?_
 refine st (v:=.pointer (some ⟨g,0,none⟩)) (x_nilCheck (.tmp rfl rfl)) ?_
 refine st (v:=.pointer (some ⟨g,0 + 0,none⟩)) (fa98_0 (.tmp rfl rfl)) ?_
 refine st (v:=.slice A n c) (ld33 (.tmp rfl rfl) (hs6.cell 0 rfl (0 + 0) rfl)) ?_
 refine st (v:=.int .i64 ((i:Nat):Int)) (x_move (.tmp rfl rfl)) ?_
 refine st (v:=.int .i64 (((i + 1):Nat):Int)) (x_add (k:=.i64) (a:=((i:Nat):Int)) (b:=1) (.tmp rfl rfl) .const ((w64 (by omega) (by omega)).trans (by omega))) ?_
 have:=hp.le
 refine st (v:=.slice (cutA A c (i + 1) 1) (n - (i + 1)) (c - (i + 1))) (bs_l Try.underlying33 inf5 (a:=(((i + 1):Nat):Int)) (.tmp rfl rfl) (.tmp rfl rfl) (by omega) (by omega) (by omega)) ?_
 refine st (v:=.pointer (some ⟨g,0,none⟩)) (x_nilCheck (.tmp rfl rfl)) ?_
 refine st (v:=.pointer (some ⟨g,0 + 0,none⟩)) (fa98_0 (.tmp rfl rfl)) ?_
 refine st_m0 (sto33 (cs':=[.slice (cutA A c (i + 1) 1) (n - (i + 1)) (c - (i + 1)),.bool false]) (i:=0 + 0) hs6 (v:=.slice (cutA A c (i + 1) 1) (n - (i + 1)) (c - (i + 1))) (.tmp rfl rfl) (.tmp rfl rfl) rfl (Nat.le_of_ble_eq_true rfl) one1 rfl) ?_
 rintro w48 hs50
 refine c_nil (n_then (c_seq (c_region (st (v:=.int .u64 (((a ||| (((bs.getD i 0) &&& 127) * 2 ^ (7 * i) % 18446744073709551616)):Nat):Int)) (x_move (.tmp rfl rfl)) ?_))))
 refine st (v:=.int .u64 (((a ||| (((bs.getD i 0) &&& 127) * 2 ^ (7 * i) % 18446744073709551616)):Nat):Int)) (x_assign (.tmp rfl rfl)) ?_
 refine c_nil (n_then (c_ret (r_block (r_then (r_then (r_block (r_then (leave_ret (res_one (v:=.int .u64 (((a ||| (((bs.getD i 0) &&& 127) * 2 ^ (7 * i) % 18446744073709551616)):Nat):Int)) rfl (.mk rfl rfl)) ?_))))))))
 have hf:uscan 0 0 bs = some ((a ||| (((bs.getD i 0) &&& 127) * 2 ^ (7 * i) % 18446744073709551616)),bs.drop (i + 1)):=hu.trans (by rw [uscan_get (by omega),if_neg (by omega),if_pos (by omega)])
 rw [rdU_some hf]
 exact ⟨_,_,_,rfl,(hp.drop (k:=(i + 1)) (by omega)),hs50⟩
 have hp47:¬ ((((bs.getD i 0:Nat):Int):Int) < 128):=of_decide_eq_false hc47
 refine c_cond_f (t:=false) (.tmp rfl (congrArg Value.bool hc47)) rfl ?_
 refine c_skip (n_block (n_then (c_region (st (v:=.int .i64 (((i:Nat):Int) + 1)) (x_add (k:=.i64) (a:=((i:Nat):Int)) (b:=1) (.tmp rfl hρ5) .const (w64 (by omega) (by omega))) ?_))))
 refine st (v:=.int .i64 (((i:Nat):Int) + 1)) (x_move (.tmp rfl rfl)) ?_
 refine c_nil ?_
 refine n_then ⟨_,_,rfl,?_,(i + 1),(a ||| (((bs.getD i 0) &&& 127) * 2 ^ (7 * i) % 18446744073709551616)),hρ2,rfl,hρ4,rfl,(by omega),(by omega),hb46,(hu.trans (by rw [uscan_get (by omega),if_neg (by omega),if_neg (by omega)])),hs6,rfl⟩
 omega
 have hp38:¬ ((0:Int) < ((i:Nat):Int)):=of_decide_eq_false hc38
 refine g_no (yk 38 false rfl rfl hc38) rfl ?_
 refine g_no (yk 38 false rfl rfl hc38) rfl ?_
 refine g_yes (yl (dj:=35) (b:=false) rfl rfl rfl) ?_
 refine st (v:=.bool false) (x_pick_f (.tmp rfl (congrArg Value.bool hc38)) .const) ?_
 refine st (v:=.bool false) (x_pick_f (.tmp rfl rfl) (.tmp rfl rfl)) ?_
 refine c_nil (n_then (c_cond_f (t:=false) (.tmp rfl rfl) rfl ?_))
 refine c_skip (n_then (c_seq (c_region (st (v:=.int .u64 ((a:Nat):Int)) (x_move (.tmp rfl hρ3)) ?_))))
 refine st (v:=.int .u8 ((bs.getD i 0:Nat):Int)) (x_move (.tmp rfl rfl)) ?_
 have hb51:((bs.getD i 0) &&& 127) < 256:=Nat.lt_of_le_of_lt Nat.and_le_left (hp.lt.getD _)
 refine st (v:=.int .u8 ((((bs.getD i 0) &&& 127):Nat):Int)) (x_and (k:=.u8) (m:=(bs.getD i 0)) (n:=127) rfl (.tmp rfl rfl) .const (show _ < 2 ^ 8 from (hp.lt.getD _)) (show _ < 2 ^ 8 from (by decide))) ?_
 have hb52:((bs.getD i 0) &&& 127) < 18446744073709551616:=Nat.lt_of_lt_of_le hb51 (by decide)
 refine st (v:=.int .u64 ((((bs.getD i 0) &&& 127):Nat):Int)) (x_conv (k:=.u8) (a:=((((bs.getD i 0) &&& 127):Nat):Int)) Try.underlying5 Try.underlying22 (.tmp rfl rfl) (wU rfl rfl hb52)) ?_
 refine st (v:=.int .i64 ((i:Nat):Int)) (x_move (.tmp rfl rfl)) ?_
 refine st (v:=.int .i64 (((7 * i):Nat):Int)) (x_mul (k:=.i64) (a:=7) (b:=((i:Nat):Int)) .const (.tmp rfl rfl) ((w64 (by omega) (by omega)).trans (by omega))) ?_
 have hb53:(((bs.getD i 0) &&& 127) * 2 ^ (7 * i) % 18446744073709551616) < 18446744073709551616:=Nat.mod_lt _ (by decide)
 refine st (v:=.int .u64 (((((bs.getD i 0) &&& 127) * 2 ^ (7 * i) % 18446744073709551616):Nat):Int)) (x_shl (k:=.u64) (m:=((bs.getD i 0) &&& 127)) (b:=(((7 * i):Nat):Int)) rfl (.tmp rfl rfl) (.tmp rfl rfl) (by omega)) ?_
 have hb54:(a ||| (((bs.getD i 0) &&& 127) * 2 ^ (7 * i) % 18446744073709551616)) < 18446744073709551616:=Nat.or_lt_two_pow (n:=64) ha hb53
 refine st (v:=.int .u64 (((a ||| (((bs.getD i 0) &&& 127) * 2 ^ (7 * i) % 18446744073709551616)):Nat):Int)) (x_or (k:=.u64) (m:=a) (n:=(((bs.getD i 0) &&& 127) * 2 ^ (7 * i) % 18446744073709551616)) rfl (.tmp rfl rfl) (.tmp rfl rfl) (show _ < 2 ^ 64 from ha) (show _ < 2 ^ 64 from hb53)) ?_
 refine st (v:=.int .u64 (((a ||| (((bs.getD i 0) &&& 127) * 2 ^ (7 * i) % 18446744073709551616)):Nat):Int)) (x_assign (.tmp rfl rfl)) ?_
 refine c_nil (n_then (c_seq (c_region (st (v:=.int .u8 ((bs.getD i 0:Nat):Int)) (x_move (.tmp rfl rfl)) ?_))))
 refine st (v:=.bool (decide ((((bs.getD i 0:Nat):Int):Int) < 128))) (x_lss (k:=.u8) (a:=((bs.getD i 0:Nat):Int)) (b:=128) (.tmp rfl rfl) .const) ?_
 refine c_nil (n_then ?_)
 rcases Bool.eq_false_or_eq_true (decide ((((bs.getD i 0:Nat):Int):Int) < 128)) with hc55 | hc55
 have hp55:(((bs.getD i 0:Nat):Int):Int) < 128:=of_decide_eq_true hc55
 refine c_cond_t (t:=true) (.tmp rfl (congrArg Value.bool hc55)) rfl ?_
 refine c_seq (c_region (st (v:=.pointer (some ⟨g,0,none⟩)) (x_move (.tmp rfl hρ2)) ?_))
 refine st (v:=.pointer (some ⟨g,0,none⟩)) (x_move (.tmp rfl hρ2)) ?_
 refine st (v:=.pointer (some ⟨g,0,none⟩)) (x_nilCheck (.tmp rfl rfl)) ?_
 refine st (v:=.pointer (some ⟨g,0 + 0,none⟩)) (fa98_0 (.tmp rfl rfl)) ?_
 refine st (v:=.slice A n c) (ld33 (.tmp rfl rfl) (hs6.cell 0 rfl (0 + 0) rfl)) ?_
 refine st (v:=.int .i64 ((i:Nat):Int)) (x_move (.tmp rfl rfl)) ?_
 refine st (v:=.int .i64 (((i + 1):Nat):Int)) (x_add (k:=.i64) (a:=((i:Nat):Int)) (b:=1) (.tmp rfl rfl) .const ((w64 (by omega) (by omega)).trans (by omega))) ?_
 have:=hp.le
 refine st (v:=.slice (cutA A c (i + 1) 1) (n - (i + 1)) (c - (i + 1))) (bs_l Try.underlying33 inf5 (a:=(((i + 1):Nat):Int)) (.tmp rfl rfl) (.tmp rfl rfl) (by omega) (by omega) (by omega)) ?_
 refine st (v:=.pointer (some ⟨g,0,none⟩)) (x_nilCheck (.tmp rfl rfl)) ?_
 refine st (v:=.pointer (some ⟨g,0 + 0,none⟩)) (fa98_0 (.tmp rfl rfl)) ?_
 refine st_m0 (sto33 (cs':=[.slice (cutA A c (i + 1) 1) (n - (i + 1)) (c - (i + 1)),.bool false]) (i:=0 + 0) hs6 (v:=.slice (cutA A c (i + 1) 1) (n - (i + 1)) (c - (i + 1))) (.tmp rfl rfl) (.tmp rfl rfl) rfl (Nat.le_of_ble_eq_true rfl) one1 rfl) ?_
 rintro w56 hs58
 refine c_nil (n_then (c_seq (c_region (st (v:=.int .u64 (((a ||| (((bs.getD i 0) &&& 127) * 2 ^ (7 * i) % 18446744073709551616)):Nat):Int)) (x_move (.tmp rfl rfl)) ?_))))
 refine st (v:=.int .u64 (((a ||| (((bs.getD i 0) &&& 127) * 2 ^ (7 * i) % 18446744073709551616)):Nat):Int)) (x_assign (.tmp rfl rfl)) ?_
 refine c_nil (n_then (c_ret (r_block (r_then (r_then (r_block (r_then (leave_ret (res_one (v:=.int .u64 (((a ||| (((bs.getD i 0) &&& 127) * 2 ^ (7 * i) % 18446744073709551616)):Nat):Int)) rfl (.mk rfl rfl)) ?_))))))))
 have hf:uscan 0 0 bs = some ((a ||| (((bs.getD i 0) &&& 127) * 2 ^ (7 * i) % 18446744073709551616)),bs.drop (i + 1)):=hu.trans (by rw [uscan_get (by omega),if_neg (by omega),if_pos (by omega)])
 rw [rdU_some hf]
 exact ⟨_,_,_,rfl,(hp.drop (k:=(i + 1)) (by omega)),hs58⟩
 have hp55:¬ ((((bs.getD i 0:Nat):Int):Int) < 128):=of_decide_eq_false hc55
 refine c_cond_f (t:=false) (.tmp rfl (congrArg Value.bool hc55)) rfl ?_
 refine c_skip (n_block (n_then (c_region (st (v:=.int .i64 (((i:Nat):Int) + 1)) (x_add (k:=.i64) (a:=((i:Nat):Int)) (b:=1) (.tmp rfl hρ5) .const (w64 (by omega) (by omega))) ?_))))
 refine st (v:=.int .i64 (((i:Nat):Int) + 1)) (x_move (.tmp rfl rfl)) ?_
 refine c_nil ?_
 refine n_then ⟨_,_,rfl,?_,(i + 1),(a ||| (((bs.getD i 0) &&& 127) * 2 ^ (7 * i) % 18446744073709551616)),hρ2,rfl,hρ4,rfl,(by omega),(by omega),hb54,(hu.trans (by rw [uscan_get (by omega),if_neg (by omega),if_neg (by omega)])),hs6,rfl⟩
 omega
 have hp7:¬ ((((i:Nat):Int):Int) < ((n:Nat):Int)):=of_decide_eq_false hc7
 refine c_cond_f (t:=false) (.tmp rfl (congrArg Value.bool hc7)) rfl ?_
 refine c_exit (x_then (x_then (x_here (n_then (c_seq (c_region (st (v:=.pointer (some ⟨g,0,none⟩)) (x_move (.tmp rfl hρ2)) ?_)))))))
 refine st (v:=.pointer (some ⟨g,0,none⟩)) (x_nilCheck (.tmp rfl rfl)) ?_
 refine st (v:=.pointer (some ⟨g,0 + 1,none⟩)) (fa98_1 (.tmp rfl rfl)) ?_
 refine st_m0 (sto4 (cs':=[.slice A n c,.bool true]) (i:=0 + 1) hs6 (v:=.bool true) (.tmp rfl rfl) .const rfl (Nat.le_of_ble_eq_true rfl) one1 rfl) ?_
 rintro w59 hs61
 refine c_nil (n_then (c_seq (c_region (st (v:=.int .u64 0) (x_assign .const) ?_))))
 refine c_nil (n_then (c_ret (leave_ret (res_one (v:=.int .u64 0) rfl (.mk rfl rfl)) ?_)))
 have hf:uscan 0 0 bs = none:=hu.trans (by first | (rw [uscan_get (by omega),if_pos (by omega)]) | (rw [List.drop_eq_nil_of_le (by omega)]; rfl))
 rw [rdU_none hf]
 exact ⟨_,_,_,rfl,hp,hs61⟩
theorem uint_own {H:Hp} {w:World} {L:List Res} {g:Nat} {A:Option Addr} {n c:Nat} {bs:List Nat} (hp:Bs H A n c bs) (b:Bool) (hs:St H w (obj g 98 [.slice A n c,.bool b]::L)):Calls Try.prog 36 #[(.pointer (some ⟨g,0,none⟩))] w (fun e w' => ∃ A' n' c',e = .returned (.int .u64 (((rdU bs b).1:Nat):Int))∧Bs H A' n' c' (rdU bs b).2.1∧St H w' (obj g 98 [.slice A' n' c',.bool (rdU bs b).2.2]::L)):=by
  cases b
  · exact uint_false hp hs
  · exact uint_true hp hs
end Go.Proofs.Ytlfihfmmhhcigaa

set_option linter.unusedVariables false
set_option linter.unusedSimpArgs false
namespace Go.Proofs.Ytlfihfmmhhcigaa
open Go Go.FM Go.Proofs
attribute [local irreducible] wpList wpQuiet wpS Code.wp Calls
set_option maxHeartbeats 8000000 in
theorem ruintf_spec {H:Hp} {w:World} {L:List Res} (hs:St H w L) (m:Nat) (b_m:m < 18446744073709551616):Calls Try.prog 42 #[.int .u64 ((m:Nat):Int)] w (fun e w' => ∃ v',e = .returned v'∧RowOk 1 v' (uenc m).length ((uenc m).map encB)∧St H w' (row 5 1 v' (uenc m).length ((uenc m).map encB)::L)):=by
 refine enter (args:=[.int .u64 ((m:Nat):Int)]) (N:=20) Try.func42 rfl rfl rfl ?_
 have h10:=uenc_len10 b_m
 refine c_seq (c_region (st (v:=.slice none 0 0) (x_assign .const) ?_))
 refine c_nil (n_then (c_seq (c_region (st (v:=.slice none 0 0) (x_assign .const) ?_))))
 refine c_nil (n_then (c_seq (c_block ?_)))
 have hs0:=hs.rowNil 5 1
 refine c_loop (fun ρ w mm => ∃ (r:Nat) (u:Value) (k:Nat) (q:List Nat),ρ 0 = .int .u64 ((r:Nat):Int)∧ρ 3 = u∧(r < 18446744073709551616)∧(uenc m = q ++ uenc r)∧(k + (uenc r).length = (uenc m).length)∧(Small q)∧(RowOk 1 u k (q.map encB))∧St H w (row 5 1 u k (q.map encB)::L)∧mm = r + 1) _ ⟨m,(.slice none 0 0),0,[],rfl,rfl,b_m,rfl,(by omega),Small.nil,(RowOk.nil 1),hs0,rfl⟩ ?_
 rintro ρ w mm ⟨r,u,k,q,hρ2,hρ3,hr,hm,hk,hq,ok2,hs4,rfl⟩
 refine c_seq (c_seq (c_region (st (v:=.int .u64 ((r:Nat):Int)) (x_move (.tmp rfl hρ2)) ?_)))
 refine st (v:=.bool (decide ((127:Int) < ((r:Nat):Int)))) (x_gtr (k:=.u64) (a:=((r:Nat):Int)) (b:=127) (.tmp rfl rfl) .const) ?_
 refine c_nil (n_then ?_)
 rcases Bool.eq_false_or_eq_true (decide ((127:Int) < ((r:Nat):Int))) with hc5 | hc5
 have hp5:(127:Int) < ((r:Nat):Int):=of_decide_eq_true hc5
 refine c_cond_t (t:=true) (.tmp rfl (congrArg Value.bool hc5)) rfl ?_
 refine c_skip (n_then (c_block (c_seq (c_region ?_))))
 have hb1:¬ r < 128:=by omega
 have hk1:(uenc r).length = (uenc (r / 128)).length + 1:=by rw [uenc_big hb1]; rfl
 have hb2:r / 128 < r:=by omega
 refine st (v:=u) (x_move (.tmp rfl hρ3)) ?_
 refine st (v:=.int .u64 ((r:Nat):Int)) (x_move (.tmp rfl hρ2)) ?_
 refine st (v:=.int .u64 (((r % 128):Nat):Int)) (x_remN (k:=.u64) (m:=r) (n:=128) (.tmp rfl rfl) .const (by omega)) ?_
 refine st (v:=.int .u8 ((((r % 128) % 256):Nat):Int)) (x_conv (k:=.u64) (a:=(((r % 128):Nat):Int)) Try.underlying22 Try.underlying5 (.tmp rfl rfl) (wrapN _ rfl _)) ?_
 have hb6:(((r % 128) % 256) + 128) < 256:=by omega
 refine st (v:=.int .u8 (((((r % 128) % 256) + 128):Nat):Int)) (x_add (k:=.u8) (a:=((((r % 128) % 256):Nat):Int)) (b:=128) (.tmp rfl rfl) .const (wU rfl (by omega) hb6)) ?_
 refine st_m (m_lit (n:=1) (ps:=[(0,.int .u8 (((((r % 128) % 256) + 128):Nat):Int))]) (cs:=[.int .u8 (((((r % 128) % 256) + 128):Nat):Int)]) Try.underlying33 inf5 (.cons (.tmp rfl rfl) Evp.nil) (by decide) (by decide) rfl rfl hs4) ?_
 rintro _ w8 ⟨g7,rfl,hs10⟩
 have hs11:=hs10.p1
 refine st_m (m_appAt (bs:=[(((r % 128) % 256) + 128)]) Try.underlying33 inf5 hs11 ok2 (.tmp rfl rfl) (.tmp rfl rfl) rfl (hs11.at_ 1 rfl 0 rfl) (by omega)) ?_
 rintro v12 w13 ⟨ok14,hs15⟩
 refine st (v:=v12) (x_assign (.tmp rfl rfl)) ?_
 refine c_nil (n_then (c_region (st (v:=.int .u64 ((r:Nat):Int)) (x_move (.tmp rfl hρ2)) ?_)))
 refine st (v:=.int .u64 (((r / 128):Nat):Int)) (x_quoN (k:=.u64) (m:=r) (n:=128) (.tmp rfl rfl) .const (by omega) (.inr ⟨rfl,show _ < 2 ^ 64 from hr⟩)) ?_
 refine st (v:=.int .u64 (((r / 128):Nat):Int)) (x_assign (.tmp rfl rfl)) ?_
 refine c_nil (n_block ?_)
 have e7:r % 128 % 256 + 128 = r % 128 + 128:=by omega
 refine n_then ⟨_,_,rfl,?_,(r / 128),v12,(k + 1),(q ++ [(((r % 128) % 256) + 128)]),rfl,rfl,(Nat.lt_of_le_of_lt (Nat.div_le_self _ _) hr),(by rw [uenc_big hb1] at hm; rw [hm,e7]; simp),(by have:=hk1; omega),(hq.append (Small.cons hb6 Small.nil)),ok14,(hs15.p1).drop,rfl⟩
 exact Nat.succ_lt_succ hb2
 have hp5:¬ ((127:Int) < ((r:Nat):Int)):=of_decide_eq_false hc5
 refine c_cond_f (t:=false) (.tmp rfl (congrArg Value.bool hc5)) rfl ?_
 refine c_exit (x_then (x_then (x_here (n_then (c_seq (c_region ?_))))))
 have hb1:r < 128:=by omega
 have hk1:(uenc r).length = 1:=by rw [uenc_one hb1]; rfl
 refine st (v:=u) (x_move (.tmp rfl hρ3)) ?_
 refine st (v:=.int .u64 ((r:Nat):Int)) (x_move (.tmp rfl hρ2)) ?_
 refine st (v:=.int .u8 (((r % 256):Nat):Int)) (x_conv (k:=.u64) (a:=((r:Nat):Int)) Try.underlying22 Try.underlying5 (.tmp rfl rfl) (wrapN _ rfl _)) ?_
 refine st_m (m_lit (n:=1) (ps:=[(0,.int .u8 (((r % 256):Nat):Int))]) (cs:=[.int .u8 (((r % 256):Nat):Int)]) Try.underlying33 inf5 (.cons (.tmp rfl rfl) Evp.nil) (by decide) (by decide) rfl rfl hs4) ?_
 rintro _ w17 ⟨g16,rfl,hs19⟩
 have hs20:=hs19.p1
 refine st_m (m_appAt (bs:=[(r % 256)]) Try.underlying33 inf5 hs20 ok2 (.tmp rfl rfl) (.tmp rfl rfl) rfl (hs20.at_ 1 rfl 0 rfl) (by omega)) ?_
 rintro v21 w22 ⟨ok23,hs24⟩
 refine st (v:=v21) (x_assign (.tmp rfl rfl)) ?_
 refine c_nil (n_then (c_ret (leave_ret (res_one (v:=v21) rfl (.mk rfl rfl)) ?_)))
 have hmod:r % 256 = r:=by omega
 have e1:uenc m = q ++ [r % 256]:=by rw [hm,uenc_one hb1,hmod]
 have e2:(uenc m).length = k + 1:=by omega
 rw [e2,e1]
 exact ⟨_,rfl,ok23,(hs24.p1).drop⟩
set_option maxHeartbeats 8000000 in
theorem ruint_pos {H:Hp} {w:World} {L:List Res} {g:Nat} {A:Option Addr} {n c:Nat} {bs:List Nat} (hp:Bs H A n c bs) (hn:n ≤ 140737488355320) (k:Nat) (hk:k ≤ n) (hs:St H w (obj g 88 [.slice A n c,.int .i64 ((k:Nat):Int)]::L)):Calls Try.prog 51 #[.pointer (some ⟨g,0,none⟩)] w (fun e w' => ∃ at',e = .returned (.int .u64 (((rdU (bs.drop k) false).1:Nat):Int))∧Rr n bs (rdU (bs.drop k) false).2.1 (rdU (bs.drop k) false).2.2 at'∧St H w' (obj g 88 [.slice A n c,.int .i64 at']::L)):=by
 refine enter (args:=[.pointer (some ⟨g,0,none⟩)]) (N:=85) Try.func51 rfl rfl rfl ?_
 have hle:=hp.le
 have hlen:=hp.len
 have hmx:c ≤ 9223372036854775807:=hp.max
 have hsz:n ≤ 140737488355320:=hn
 refine c_seq (c_region (st (v:=.int .u64 0) (x_assign .const) ?_))
 refine c_nil (n_then (c_seq (c_seq (c_region (st (v:=.pointer (some ⟨g,0,none⟩)) (x_move (.tmp rfl rfl)) ?_)))))
 refine st (v:=.pointer (some ⟨g,0,none⟩)) (x_nilCheck (.tmp rfl rfl)) ?_
 refine st (v:=.pointer (some ⟨g,0 + 1,none⟩)) (fa88_1 (.tmp rfl rfl)) ?_
 refine st (v:=.int .i64 ((k:Nat):Int)) (ld3 (.tmp rfl rfl) (hs.cell 0 rfl (0 + 1) rfl)) ?_
 refine st (v:=.bool (decide ((((k:Nat):Int):Int) < 0))) (x_lss (k:=.i64) (a:=((k:Nat):Int)) (b:=0) (.tmp rfl rfl) .const) ?_
 refine c_nil (n_then ?_)
 have hc1:(decide ((((k:Nat):Int):Int) < 0)) = false:=(decide_eq_false (by omega))
 refine c_cond_f (t:=false) (.tmp rfl (congrArg Value.bool hc1)) rfl ?_
 refine c_skip (n_then (c_seq (c_region (st (v:=.int .u64 0) (x_assign .const) ?_))))
 refine c_nil (n_then (c_seq (c_seq (c_region (st (v:=.int .i64 0) (x_assign .const) ?_)))))
 refine c_nil (n_then (c_block (c_loop (fun ρ w mm => ∃ (i:Nat) (a:Nat),ρ 0 = .pointer (some ⟨g,0,none⟩)∧ρ 3 = .int .u64 ((a:Nat):Int)∧ρ 4 = .int .i64 ((i:Nat):Int)∧(i ≤ 10)∧(k + i ≤ n)∧(a < 18446744073709551616)∧(a = pv ((bs.drop k).take i) % 18446744073709551616)∧(∀ b ∈ (bs.drop k).take i,128 ≤ b)∧St H w (obj g 88 [.slice A n c,.int .i64 ((k:Nat):Int)]::L)∧mm = 10 - i) _ ⟨0,0,rfl,rfl,rfl,(by omega),(by omega),(by decide),rfl,(fun b hb => absurd hb (by simp)),hs,rfl⟩ ?_)))
 rintro ρ w mm ⟨i,a,hρ3,hρ4,hρ5,hi,hki,ha,hacc,h128,hs6,rfl⟩
 refine c_seq (c_seq (q_region mixed hs6 (by kernel_rfl) ?_))
 refine q_st (v:=.int .i64 ((i:Nat):Int)) (fun w hs => (x_move (.tmp rfl hρ5))) ?_
 refine q_st (v:=.bool (decide ((((i:Nat):Int):Int) < 10))) (fun w hs => (x_lss (k:=.i64) (a:=((i:Nat):Int)) (b:=10) (.tmp rfl rfl) .const)) ?_
 refine q_st (v:=.bool (decide ((((i:Nat):Int):Int) < 10))) (fun w hs => (x_move (.tmp rfl rfl))) ?_
 rcases Bool.eq_false_or_eq_true (decide ((((i:Nat):Int):Int) < 10)) with hc7 | hc7
 have hp7:(((i:Nat):Int):Int) < 10:=of_decide_eq_true hc7
 refine q_yes (yk 13 true rfl rfl hc7) ?_
 refine q_st (v:=.pointer (some ⟨g,0,none⟩)) (fun w hs => (x_move (.tmp rfl hρ3))) ?_
 refine q_yes (yk 13 true rfl rfl hc7) ?_
 refine q_st (v:=.pointer (some ⟨g,0,none⟩)) (fun w hs => (x_nilCheck (.tmp rfl rfl))) ?_
 refine q_yes (yk 13 true rfl rfl hc7) ?_
 refine q_st (v:=.pointer (some ⟨g,0 + 1,none⟩)) (fun w hs => (fa88_1 (.tmp rfl rfl))) ?_
 refine q_yes (yk 13 true rfl rfl hc7) ?_
 refine q_st (v:=.int .i64 ((k:Nat):Int)) (fun w hs => (ld3 (.tmp rfl rfl) (hs.cell 0 rfl (0 + 1) rfl))) ?_
 refine q_yes (yk 13 true rfl rfl hc7) ?_
 refine q_st (v:=.int .i64 ((i:Nat):Int)) (fun w hs => (x_move (.tmp rfl hρ5))) ?_
 refine q_yes (yk 13 true rfl rfl hc7) ?_
 refine q_st (v:=.int .i64 (((k + i):Nat):Int)) (fun w hs => (x_add (k:=.i64) (a:=((k:Nat):Int)) (b:=((i:Nat):Int)) (.tmp rfl rfl) (.tmp rfl rfl) ((w64 (by omega) (by omega)).trans (by omega)))) ?_
 refine q_yes (yk 13 true rfl rfl hc7) ?_
 refine q_st (v:=.pointer (some ⟨g,0,none⟩)) (fun w hs => (x_move (.tmp rfl hρ3))) ?_
 refine q_yes (yk 13 true rfl rfl hc7) ?_
 refine q_st (v:=.pointer (some ⟨g,0,none⟩)) (fun w hs => (x_nilCheck (.tmp rfl rfl))) ?_
 refine q_yes (yk 13 true rfl rfl hc7) ?_
 refine q_st (v:=.pointer (some ⟨g,0 + 0,none⟩)) (fun w hs => (fa88_0 (.tmp rfl rfl))) ?_
 refine q_yes (yk 13 true rfl rfl hc7) ?_
 refine q_st (v:=.slice A n c) (fun w hs => (ld33 (.tmp rfl rfl) (hs.cell 0 rfl (0 + 0) rfl))) ?_
 refine q_yes (yk 13 true rfl rfl hc7) ?_
 refine q_st (v:=.int .i64 ((n:Nat):Int)) (fun w hs => (x_len (n:=n) Try.underlying33 (.tmp rfl rfl))) ?_
 refine q_yes (yk 13 true rfl rfl hc7) ?_
 refine q_st (v:=.bool (decide (((((k + i):Nat):Int):Int) < ((n:Nat):Int)))) (fun w hs => (x_lss (k:=.i64) (a:=(((k + i):Nat):Int)) (b:=((n:Nat):Int)) (.tmp rfl rfl) (.tmp rfl rfl))) ?_
 refine q_st (v:=.bool (decide (((((k + i):Nat):Int):Int) < ((n:Nat):Int)))) (fun w hs => (x_pick_t (.tmp rfl (congrArg Value.bool hc7)) (.tmp rfl rfl))) ?_
 refine q_nil ?_
 intro w hs8
 refine n_then ?_
 rcases Bool.eq_false_or_eq_true (decide (((((k + i):Nat):Int):Int) < ((n:Nat):Int))) with hc9 | hc9
 have hp9:((((k + i):Nat):Int):Int) < ((n:Nat):Int):=of_decide_eq_true hc9
 refine c_cond_t (t:=true) (.tmp rfl (congrArg Value.bool hc9)) rfl ?_
 refine c_skip (n_then (c_seq (c_block (c_seq (q_region mixed hs8 (by kernel_rfl) ?_)))))
 refine q_st (v:=.pointer (some ⟨g,0,none⟩)) (fun w hs => (x_move (.tmp rfl hρ3))) ?_
 refine q_st (v:=.pointer (some ⟨g,0,none⟩)) (fun w hs => (x_nilCheck (.tmp rfl rfl))) ?_
 refine q_st (v:=.pointer (some ⟨g,0 + 0,none⟩)) (fun w hs => (fa88_0 (.tmp rfl rfl))) ?_
 refine q_st (v:=.slice A n c) (fun w hs => (ld33 (.tmp rfl rfl) (hs.cell 0 rfl (0 + 0) rfl))) ?_
 refine q_st (v:=.pointer (some ⟨g,0,none⟩)) (fun w hs => (x_move (.tmp rfl hρ3))) ?_
 refine q_st (v:=.pointer (some ⟨g,0,none⟩)) (fun w hs => (x_nilCheck (.tmp rfl rfl))) ?_
 refine q_st (v:=.pointer (some ⟨g,0 + 1,none⟩)) (fun w hs => (fa88_1 (.tmp rfl rfl))) ?_
 refine q_st (v:=.int .i64 ((k:Nat):Int)) (fun w hs => (ld3 (.tmp rfl rfl) (hs.cell 0 rfl (0 + 1) rfl))) ?_
 refine q_st (v:=.int .i64 ((i:Nat):Int)) (fun w hs => (x_move (.tmp rfl hρ5))) ?_
 refine q_st (v:=.int .i64 (((k + i):Nat):Int)) (fun w hs => (x_add (k:=.i64) (a:=((k:Nat):Int)) (b:=((i:Nat):Int)) (.tmp rfl rfl) (.tmp rfl rfl) ((w64 (by omega) (by omega)).trans (by omega)))) ?_
 obtain ⟨b10,o11,hA12,hc13⟩:=hp.get (i:=(k + i)) (by omega)
 refine q_st (v:=.pointer (some ⟨b10,(o11 + (k + i) * 1),none⟩)) (fun w hs => (ixo33 (.tmp rfl rfl) hA12 (i:=(((k + i):Nat):Int)) (.tmp rfl rfl) (by omega) (by omega) rfl)) ?_
 refine q_st (v:=.int .u8 ((bs.getD (k + i) 0:Nat):Int)) (fun w hs => (ld5 (.tmp rfl rfl) (hc13 hs))) ?_
 have hb14:(bs.getD (k + i) 0) < 18446744073709551616:=Nat.lt_of_lt_of_le (hp.lt.getD _) (by decide)
 refine q_st (v:=.int .u64 (((bs.getD (k + i) 0):Nat):Int)) (fun w hs => (x_conv (k:=.u8) (a:=((bs.getD (k + i) 0:Nat):Int)) Try.underlying5 Try.underlying22 (.tmp rfl rfl) (wU rfl rfl hb14))) ?_
 refine q_st (v:=.int .u64 (((bs.getD (k + i) 0):Nat):Int)) (fun w hs => (x_assign (.tmp rfl rfl))) ?_
 refine q_nil ?_
 intro w hs15
 refine n_then (c_seq (c_region (st (v:=.int .u64 ((a:Nat):Int)) (x_move (.tmp rfl hρ4)) ?_)))
 refine st (v:=.int .u64 (((bs.getD (k + i) 0):Nat):Int)) (x_move (.tmp rfl rfl)) ?_
 refine st (v:=.int .u64 ((((bs.getD (k + i) 0) % 128):Nat):Int)) (x_remN (k:=.u64) (m:=(bs.getD (k + i) 0)) (n:=128) (.tmp rfl rfl) .const (by omega)) ?_
 refine st (v:=.int .i64 ((i:Nat):Int)) (x_move (.tmp rfl hρ5)) ?_
 refine st (v:=.int .i64 (((7 * i):Nat):Int)) (x_mul (k:=.i64) (a:=7) (b:=((i:Nat):Int)) .const (.tmp rfl rfl) ((w64 (by omega) (by omega)).trans (by omega))) ?_
 have hb16:(((bs.getD (k + i) 0) % 128) * 2 ^ (7 * i) % 18446744073709551616) < 18446744073709551616:=Nat.mod_lt _ (by decide)
 refine st (v:=.int .u64 (((((bs.getD (k + i) 0) % 128) * 2 ^ (7 * i) % 18446744073709551616):Nat):Int)) (x_shl (k:=.u64) (m:=((bs.getD (k + i) 0) % 128)) (b:=(((7 * i):Nat):Int)) rfl (.tmp rfl rfl) (.tmp rfl rfl) (by omega)) ?_
 refine st (v:=.int .u64 ((((a + (((bs.getD (k + i) 0) % 128) * 2 ^ (7 * i) % 18446744073709551616)) % 18446744073709551616):Nat):Int)) (x_add (k:=.u64) (a:=((a:Nat):Int)) (b:=(((((bs.getD (k + i) 0) % 128) * 2 ^ (7 * i) % 18446744073709551616):Nat):Int)) (.tmp rfl rfl) (.tmp rfl rfl) (wAddN (m:=a) (n:=(((bs.getD (k + i) 0) % 128) * 2 ^ (7 * i) % 18446744073709551616)) _ rfl rfl rfl)) ?_
 refine st (v:=.int .u64 ((((a + (((bs.getD (k + i) 0) % 128) * 2 ^ (7 * i) % 18446744073709551616)) % 18446744073709551616):Nat):Int)) (x_assign (.tmp rfl rfl)) ?_
 refine c_nil (n_then (c_seq (c_seq (c_region (st (v:=.int .u64 (((bs.getD (k + i) 0):Nat):Int)) (x_move (.tmp rfl rfl)) ?_)))))
 refine st (v:=.bool (decide ((127:Int) < (((bs.getD (k + i) 0):Nat):Int)))) (x_gtr (k:=.u64) (a:=(((bs.getD (k + i) 0):Nat):Int)) (b:=127) (.tmp rfl rfl) .const) ?_
 refine c_nil (n_then ?_)
 rcases Bool.eq_false_or_eq_true (decide ((127:Int) < (((bs.getD (k + i) 0):Nat):Int))) with hc17 | hc17
 have hp17:(127:Int) < (((bs.getD (k + i) 0):Nat):Int):=of_decide_eq_true hc17
 refine c_cond_t (t:=true) (.tmp rfl (congrArg Value.bool hc17)) rfl ?_
 refine c_exit (x_then (x_here (n_then (c_region (st (v:=.int .i64 ((i:Nat):Int)) (x_move (.tmp rfl hρ5)) ?_)))))
 refine st (v:=.int .i64 (((i + 1):Nat):Int)) (x_add (k:=.i64) (a:=((i:Nat):Int)) (b:=1) (.tmp rfl rfl) .const ((w64 (by omega) (by omega)).trans (by omega))) ?_
 refine st (v:=.int .i64 (((i + 1):Nat):Int)) (x_assign (.tmp rfl rfl)) ?_
 refine c_nil ?_
 have hgd:=getD_drop' bs k i
 have hcl:i < (bs.drop k).length:=by rw [List.length_drop]; omega
 refine n_then ⟨_,_,rfl,?_,(i + 1),((a + (((bs.getD (k + i) 0) % 128) * 2 ^ (7 * i) % 18446744073709551616)) % 18446744073709551616),hρ3,rfl,rfl,(by omega),(by omega),(Nat.mod_lt _ (by decide)),(by rw [← hgd]; exact pv_next hcl hacc),(high_next hcl h128 (by omega)),hs15,rfl⟩
 omega
 have hp17:¬ ((127:Int) < (((bs.getD (k + i) 0):Nat):Int)):=of_decide_eq_false hc17
 refine c_cond_f (t:=false) (.tmp rfl (congrArg Value.bool hc17)) rfl ?_
 refine c_skip (n_then (c_seq (c_seq (s_region (L:=obj g 88 [.slice A n c,.int .i64 ((k:Nat):Int)]::L) (L':=obj g 88 [.slice A n c,.int .i64 ((k:Nat):Int)]::L) none [(0,true),(3,true),(4,true),(5,true),(6,true),(7,true),(8,true),(9,true),(10,true),(11,true),(12,true),(13,true),(14,true),(15,true),(16,true),(17,true),(18,true),(19,true),(1,false),(2,true),(20,true)] mixed hs15 (fun u hu => hu) (by kernel_rfl) ?_))))
 intro w18 hs19
 refine s_st (k:=0) (v:=.int .u64 ((((a + (((bs.getD (k + i) 0) % 128) * 2 ^ (7 * i) % 18446744073709551616)) % 18446744073709551616):Nat):Int)) rfl (fun w hs => (x_move (.tmp rfl rfl))) ?_
 refine s_st (k:=3) (v:=.pointer (some ⟨g,0,none⟩)) rfl (fun w hs => (x_move (.tmp rfl hρ3))) ?_
 refine s_st (k:=4) (v:=.pointer (some ⟨g,0,none⟩)) rfl (fun w hs => (x_nilCheck (.tmp rfl rfl))) ?_
 refine s_st (k:=5) (v:=.pointer (some ⟨g,0 + 0,none⟩)) rfl (fun w hs => (fa88_0 (.tmp rfl rfl))) ?_
 refine s_st (k:=6) (v:=.slice A n c) rfl (fun w hs => (ld33 (.tmp rfl rfl) (hs.cell 0 rfl (0 + 0) rfl))) ?_
 refine s_st (k:=7) (v:=.pointer (some ⟨g,0,none⟩)) rfl (fun w hs => (x_move (.tmp rfl hρ3))) ?_
 refine s_st (k:=8) (v:=.pointer (some ⟨g,0,none⟩)) rfl (fun w hs => (x_nilCheck (.tmp rfl rfl))) ?_
 refine s_st (k:=9) (v:=.pointer (some ⟨g,0 + 1,none⟩)) rfl (fun w hs => (fa88_1 (.tmp rfl rfl))) ?_
 refine s_st (k:=10) (v:=.int .i64 ((k:Nat):Int)) rfl (fun w hs => (ld3 (.tmp rfl rfl) (hs.cell 0 rfl (0 + 1) rfl))) ?_
 refine s_st (k:=11) (v:=.pointer (some ⟨g,0,none⟩)) rfl (fun w hs => (x_move (.tmp rfl hρ3))) ?_
 refine s_st (k:=12) (v:=.pointer (some ⟨g,0,none⟩)) rfl (fun w hs => (x_nilCheck (.tmp rfl rfl))) ?_
 refine s_st (k:=13) (v:=.pointer (some ⟨g,0 + 1,none⟩)) rfl (fun w hs => (fa88_1 (.tmp rfl rfl))) ?_
 refine s_st (k:=14) (v:=.int .i64 ((k:Nat):Int)) rfl (fun w hs => (ld3 (.tmp rfl rfl) (hs.cell 0 rfl (0 + 1) rfl))) ?_
 refine s_st (k:=15) (v:=.int .i64 ((i:Nat):Int)) rfl (fun w hs => (x_move (.tmp rfl hρ5))) ?_
 refine s_st (k:=16) (v:=.int .i64 (((k + i):Nat):Int)) rfl (fun w hs => (x_add (k:=.i64) (a:=((k:Nat):Int)) (b:=((i:Nat):Int)) (.tmp rfl rfl) (.tmp rfl rfl) ((w64 (by omega) (by omega)).trans (by omega)))) ?_
 refine s_st (k:=17) (v:=.int .i64 ((((k + i) + 1):Nat):Int)) rfl (fun w hs => (x_add (k:=.i64) (a:=(((k + i):Nat):Int)) (b:=1) (.tmp rfl rfl) .const ((w64 (by omega) (by omega)).trans (by omega)))) ?_
 have:=hp.le
 refine s_st (k:=18) (v:=.slice (cutA A c k 1) (((k + i) + 1) - k) (c - k)) rfl (fun w hs => (bs_lh Try.underlying33 inf5 (a:=((k:Nat):Int)) (b:=((((k + i) + 1):Nat):Int)) (.tmp rfl rfl) (.tmp rfl rfl) (.tmp rfl rfl) (by omega) (by omega) (by omega))) ?_
 refine s_st (k:=19) (v:=.string (bstr ((bs.take ((k + i) + 1)).drop k))) rfl (fun w hs => (((hp.take (k:=((k + i) + 1)) (by omega)).drop (k:=k) (by omega)).str Try.underlying33 Try.underlying5 Try.underlying9 hs (.tmp rfl rfl))) ?_
 refine s_eff (k:=1) rfl ?_
 refine st_c cb42 .func (evs1 (.tmp rfl rfl)) (ruintf_spec hs19 ((a + (((bs.getD (k + i) 0) % 128) * 2 ^ (7 * i) % 18446744073709551616)) % 18446744073709551616) (Nat.mod_lt _ (by decide))) ?_
 rintro e w21 ⟨v20,rfl,ok22,hs23⟩
 refine ⟨_,rfl,?_⟩
 refine s_on (S':=fun u => St H u (row 5 1 v20 ((uenc ((a + (((bs.getD (k + i) 0) % 128) * 2 ^ (7 * i) % 18446744073709551616)) % 18446744073709551616)).length) ((uenc ((a + (((bs.getD (k + i) 0) % 128) * 2 ^ (7 * i) % 18446744073709551616)) % 18446744073709551616)).map encB)::obj g 88 [.slice A n c,.int .i64 ((k:Nat):Int)]::L)) (fun u hu => hu.drop) hs23 ?_
 refine s_st (k:=2) (v:=.string (bstr (uenc ((a + (((bs.getD (k + i) 0) % 128) * 2 ^ (7 * i) % 18446744073709551616)) % 18446744073709551616)))) rfl (fun w hs => (hs.rowStr Try.underlying33 Try.underlying5 Try.underlying9 0 rfl ok22 (.tmp rfl rfl))) ?_
 refine s_st (k:=20) (v:=.bool (!decide ((bstr (uenc ((a + (((bs.getD (k + i) 0) % 128) * 2 ^ (7 * i) % 18446744073709551616)) % 18446744073709551616))) = (bstr ((bs.take ((k + i) + 1)).drop k))))) rfl (fun w hs => (x_neqS (.tmp rfl rfl) (.tmp rfl rfl))) ?_
 refine s_nil ?_
 refine n_then ?_
 rcases Bool.eq_false_or_eq_true (decide ((bstr (uenc ((a + (((bs.getD (k + i) 0) % 128) * 2 ^ (7 * i) % 18446744073709551616)) % 18446744073709551616))) = (bstr ((bs.take ((k + i) + 1)).drop k)))) with hc25 | hc25
 have hp25:(bstr (uenc ((a + (((bs.getD (k + i) 0) % 128) * 2 ^ (7 * i) % 18446744073709551616)) % 18446744073709551616))) = (bstr ((bs.take ((k + i) + 1)).drop k)):=of_decide_eq_true hc25
 refine c_cond_f (t:=false) (.tmp rfl (congrArg Value.bool (by rw [hc25]; rfl))) rfl ?_
 refine c_skip (n_then (c_seq (c_region (st (v:=.pointer (some ⟨g,0,none⟩)) (x_move (.tmp rfl hρ3)) ?_))))
 refine st (v:=.pointer (some ⟨g,0,none⟩)) (x_nilCheck (.tmp rfl rfl)) ?_
 refine st (v:=.pointer (some ⟨g,0 + 1,none⟩)) (fa88_1 (.tmp rfl rfl)) ?_
 refine st (v:=.int .i64 ((k:Nat):Int)) (ld3 (.tmp rfl rfl) (hs23.cell 1 rfl (0 + 1) rfl)) ?_
 refine st (v:=.int .i64 ((i:Nat):Int)) (x_move (.tmp rfl hρ5)) ?_
 refine st (v:=.int .i64 (((i + 1):Nat):Int)) (x_add (k:=.i64) (a:=((i:Nat):Int)) (b:=1) (.tmp rfl rfl) .const ((w64 (by omega) (by omega)).trans (by omega))) ?_
 refine st (v:=.int .i64 (((k + (i + 1)):Nat):Int)) (x_add (k:=.i64) (a:=((k:Nat):Int)) (b:=(((i + 1):Nat):Int)) (.tmp rfl rfl) (.tmp rfl rfl) ((w64 (by omega) (by omega)).trans (by omega))) ?_
 refine st (v:=.pointer (some ⟨g,0,none⟩)) (x_nilCheck (.tmp rfl rfl)) ?_
 refine st (v:=.pointer (some ⟨g,0 + 1,none⟩)) (fa88_1 (.tmp rfl rfl)) ?_
 have hs26:=hs23.p1
 refine st_m0 (sto3 (cs':=[.slice A n c,.int .i64 (((k + (i + 1)):Nat):Int)]) (i:=0 + 1) hs26 (v:=.int .i64 (((k + (i + 1)):Nat):Int)) (.tmp rfl rfl) (.tmp rfl rfl) rfl (Nat.le_of_ble_eq_true rfl) one1 rfl) ?_
 rintro w27 hs29
 refine c_nil (n_then (c_seq (c_region (st (v:=.int .u64 ((((a + (((bs.getD (k + i) 0) % 128) * 2 ^ (7 * i) % 18446744073709551616)) % 18446744073709551616):Nat):Int)) (x_move (.tmp rfl rfl)) ?_))))
 refine st (v:=.int .u64 ((((a + (((bs.getD (k + i) 0) % 128) * 2 ^ (7 * i) % 18446744073709551616)) % 18446744073709551616):Nat):Int)) (x_assign (.tmp rfl rfl)) ?_
 refine c_nil (n_then (c_ret (r_block (r_then (r_then (r_block (r_then (leave_ret (res_one (v:=.int .u64 ((((a + (((bs.getD (k + i) 0) % 128) * 2 ^ (7 * i) % 18446744073709551616)) % 18446744073709551616):Nat):Int)) rfl (.mk rfl rfl)) ?_))))))))
 have hcl:(bs.drop k).length = n - k:=by rw [List.length_drop,hlen]
 have hgd:=getD_drop' bs k i
 have hci:i < (bs.drop k).length:=by omega
 have hue:=uscan_end (hp.lt.drop k) hci (by omega) h128 (by omega)
 rw [← pv_next hci hacc,hgd] at hue
 have htd:=take_drop' bs k (i + 1)
 have hsm:bstr (uenc ((a + (bs.getD (k + i) 0 % 128 * 2 ^ (7 * i) % 18446744073709551616)) % 18446744073709551616)) = bstr ((bs.drop k).take (i + 1)) ↔ _:=bstr_inj (uenc_small _) ((hp.lt.drop k).take _)
 rw [show k + i + 1 = k + (i + 1) from rfl,htd] at hc25
 rw [if_pos (hsm.1 (of_decide_eq_true hc25))] at hue
 rw [rdU_some hue]
 exact ⟨_,rfl,.inr ⟨rfl,k + (i + 1),by omega,by omega,by rw [List.drop_drop]⟩,(hs29.p1).drop⟩
 have hp25:¬ ((bstr (uenc ((a + (((bs.getD (k + i) 0) % 128) * 2 ^ (7 * i) % 18446744073709551616)) % 18446744073709551616))) = (bstr ((bs.take ((k + i) + 1)).drop k))):=of_decide_eq_false hc25
 refine c_cond_t (t:=true) (.tmp rfl (congrArg Value.bool (by rw [hc25]; rfl))) rfl ?_
 refine c_exit (x_then (x_block rfl (x_then (x_then (x_here (n_then (c_seq (c_region (st (v:=.pointer (some ⟨g,0,none⟩)) (x_move (.tmp rfl hρ3)) ?_)))))))))
 refine st (v:=.pointer (some ⟨g,0,none⟩)) (x_nilCheck (.tmp rfl rfl)) ?_
 refine st (v:=.pointer (some ⟨g,0 + 1,none⟩)) (fa88_1 (.tmp rfl rfl)) ?_
 have hs30:=hs23.p1
 refine st_m0 (sto3 (cs':=[.slice A n c,.int .i64 (-1)]) (i:=0 + 1) hs30 (v:=.int .i64 (-1)) (.tmp rfl rfl) .const rfl (Nat.le_of_ble_eq_true rfl) one1 rfl) ?_
 rintro w31 hs33
 refine c_nil (n_then (c_seq (c_region (st (v:=.int .u64 0) (x_assign .const) ?_))))
 refine c_nil (n_then (c_ret (leave_ret (res_one (v:=.int .u64 0) rfl (.mk rfl rfl)) ?_)))
 have hcl:(bs.drop k).length = n - k:=by rw [List.length_drop,hlen]
 have hgd:=getD_drop' bs k i
 have hci:i < (bs.drop k).length:=by omega
 have hue:=uscan_end (hp.lt.drop k) hci (by omega) h128 (by omega)
 rw [← pv_next hci hacc,hgd] at hue
 have htd:=take_drop' bs k (i + 1)
 have hsm:bstr (uenc ((a + (bs.getD (k + i) 0 % 128 * 2 ^ (7 * i) % 18446744073709551616)) % 18446744073709551616)) = bstr ((bs.drop k).take (i + 1)) ↔ _:=bstr_inj (uenc_small _) ((hp.lt.drop k).take _)
 rw [show k + i + 1 = k + (i + 1) from rfl,htd] at hc25
 rw [if_neg (fun h => of_decide_eq_false hc25 (hsm.2 h))] at hue
 rw [rdU_none hue]
 exact ⟨_,rfl,.inl ⟨rfl,rfl⟩,(hs33.p1).drop⟩
 have hp9:¬ (((((k + i):Nat):Int):Int) < ((n:Nat):Int)):=of_decide_eq_false hc9
 refine c_cond_f (t:=false) (.tmp rfl (congrArg Value.bool hc9)) rfl ?_
 refine c_exit (x_then (x_then (x_here (n_then (c_seq (c_region (st (v:=.pointer (some ⟨g,0,none⟩)) (x_move (.tmp rfl hρ3)) ?_)))))))
 refine st (v:=.pointer (some ⟨g,0,none⟩)) (x_nilCheck (.tmp rfl rfl)) ?_
 refine st (v:=.pointer (some ⟨g,0 + 1,none⟩)) (fa88_1 (.tmp rfl rfl)) ?_
 refine st_m0 (sto3 (cs':=[.slice A n c,.int .i64 (-1)]) (i:=0 + 1) hs8 (v:=.int .i64 (-1)) (.tmp rfl rfl) .const rfl (Nat.le_of_ble_eq_true rfl) one1 rfl) ?_
 rintro w34 hs36
 refine c_nil (n_then (c_seq (c_region (st (v:=.int .u64 0) (x_assign .const) ?_))))
 refine c_nil (n_then (c_ret (leave_ret (res_one (v:=.int .u64 0) rfl (.mk rfl rfl)) ?_)))
 have hcl:(bs.drop k).length = n - k:=by rw [List.length_drop,hlen]
 have hun:uscan 0 0 (bs.drop k) = none:=(Nat.lt_or_ge i 10).elim (fun _ => uscan_noend (by have h:=h128; rw [List.take_of_length_le (by omega)] at h; exact h)) (fun _ => uscan_ten (by omega) (by have e:i = 10:=(by omega); have h:=h128; rw [e] at h; exact h))
 rw [rdU_none hun]
 exact ⟨_,rfl,.inl ⟨rfl,rfl⟩,hs36⟩
 have hp7:¬ ((((i:Nat):Int):Int) < 10):=of_decide_eq_false hc7
 refine q_no (yk 13 false rfl rfl hc7) rfl ?_
 refine q_no (yk 13 false rfl rfl hc7) rfl ?_
 refine q_no (yk 13 false rfl rfl hc7) rfl ?_
 refine q_no (yk 13 false rfl rfl hc7) rfl ?_
 refine q_no (yk 13 false rfl rfl hc7) rfl ?_
 refine q_no (yk 13 false rfl rfl hc7) rfl ?_
 refine q_no (yk 13 false rfl rfl hc7) rfl ?_
 refine q_no (yk 13 false rfl rfl hc7) rfl ?_
 refine q_no (yk 13 false rfl rfl hc7) rfl ?_
 refine q_no (yk 13 false rfl rfl hc7) rfl ?_
 refine q_no (yk 13 false rfl rfl hc7) rfl ?_
 refine q_no (yk 13 false rfl rfl hc7) rfl ?_
 refine q_st (v:=.bool false) (fun w hs => (x_pick_f (.tmp rfl (congrArg Value.bool hc7)) .const)) ?_
 refine q_nil ?_
 intro w hs37
 refine n_then (c_cond_f (t:=false) (.tmp rfl rfl) rfl ?_)
 refine c_exit (x_then (x_then (x_here (n_then (c_seq (c_region (st (v:=.pointer (some ⟨g,0,none⟩)) (x_move (.tmp rfl hρ3)) ?_)))))))
 refine st (v:=.pointer (some ⟨g,0,none⟩)) (x_nilCheck (.tmp rfl rfl)) ?_
 refine st (v:=.pointer (some ⟨g,0 + 1,none⟩)) (fa88_1 (.tmp rfl rfl)) ?_
 refine st_m0 (sto3 (cs':=[.slice A n c,.int .i64 (-1)]) (i:=0 + 1) hs37 (v:=.int .i64 (-1)) (.tmp rfl rfl) .const rfl (Nat.le_of_ble_eq_true rfl) one1 rfl) ?_
 rintro w38 hs40
 refine c_nil (n_then (c_seq (c_region (st (v:=.int .u64 0) (x_assign .const) ?_))))
 refine c_nil (n_then (c_ret (leave_ret (res_one (v:=.int .u64 0) rfl (.mk rfl rfl)) ?_)))
 have hcl:(bs.drop k).length = n - k:=by rw [List.length_drop,hlen]
 have hun:uscan 0 0 (bs.drop k) = none:=(Nat.lt_or_ge i 10).elim (fun _ => uscan_noend (by have h:=h128; rw [List.take_of_length_le (by omega)] at h; exact h)) (fun _ => uscan_ten (by omega) (by have e:i = 10:=(by omega); have h:=h128; rw [e] at h; exact h))
 rw [rdU_none hun]
 exact ⟨_,rfl,.inl ⟨rfl,rfl⟩,hs40⟩
end Go.Proofs.Ytlfihfmmhhcigaa
