/- Steps of the proofs over the functions of this seat, printed by a program (gen.py) and checked by Lean. -/
import Derived.Test.YtmjgphaobdplcaaUty
import Derived.Test.YtmjgphaobdplcaaFmM2
import Derived.Test.YtmjgphaobdplcaaFmS2
import Derived.Test.YtmjgphaobdplcaaFmG
import Derived.Test.YtmjgphaobdplcaaFmP
import Derived.Test.YtmjgphaobdplcaaFmM2c
set_option linter.unusedVariables false
set_option linter.unusedSimpArgs false
namespace Go.Proofs.Ytmjgphaobdplcaa
open Go Go.FM Go.Proofs
attribute [local irreducible] wpList wpQuiet wpS Code.wp Calls
set_option maxHeartbeats 8000000 in
theorem sum_spec {H : Hp} {w : World} {L : List Res} (hs : St H w L) {A : Option Addr} {n c : Nat} {bs : List Nat} (hp : Bs H A n c bs) (hn : n ≤ 140737488355320) : Calls Try.prog 10 #[.slice A n c] w (fun e w' => e = .returned (.int .u32 ((crc bs : Nat) : Int)) ∧ St H w' L) := by
  refine enter (args := [.slice A n c]) (N := 29) Try.func10 rfl rfl rfl ?_
  have hle := hp.le
  have hlen := hp.len
  refine c_seq ?_
  refine c_region ?_
  refine st (v := .int .u32 0) (x_assign .const) ?_
  refine c_nil ?_
  refine n_then ?_
  refine c_seq ?_
  refine c_region ?_
  refine st (v := .int .u32 4294967295) (x_assign .const) ?_
  refine c_nil ?_
  refine n_then ?_
  refine c_seq ?_
  refine c_seq ?_
  refine c_region ?_
  refine st (v := .slice A n c) (x_move (.tmp rfl rfl)) ?_
  refine st (v := .int .i64 ((n : Nat) : Int)) (x_len (n := n) Try.underlying22 (.tmp rfl rfl)) ?_
  refine st (v := .int .i64 0) (x_move .const) ?_
  refine c_nil ?_
  refine n_then ?_
  refine c_block ?_
  refine c_loop (fun ρ w mm => ∃ (i : Nat) (cc : Nat), ρ 3 = .int .u32 ((cc : Nat) : Int) ∧ ρ 6 = .slice A n c ∧ ρ 7 = .int .i64 ((n : Nat) : Int) ∧ ρ 8 = .int .i64 ((i : Nat) : Int) ∧ (i ≤ n) ∧ (cc < 4294967296) ∧ (cc = crcR 4294967295 (bs.take i)) ∧ St H w (L) ∧ mm = n - i) _ ⟨0, 4294967295, rfl, rfl, rfl, rfl, (by omega), (by decide), rfl, hs, rfl⟩ ?_
  rintro ρ w mm ⟨i, cc, hρ2, hρ3, hρ4, hρ5, hi, hc, he, hs6, rfl⟩
  refine c_seq ?_
  refine c_region ?_
  refine st (v := .bool (decide ((((i : Nat) : Int) : Int) < ((n : Nat) : Int)))) (x_lss (k := .i64) (a := ((i : Nat) : Int)) (b := ((n : Nat) : Int)) (.tmp rfl hρ5) (.tmp rfl hρ4)) ?_
  refine c_nil ?_
  refine n_then ?_
  refine c_seq ?_
  rcases Bool.eq_false_or_eq_true (decide ((((i : Nat) : Int) : Int) < ((n : Nat) : Int))) with hc7 | hc7
  · have hp7 : (((i : Nat) : Int) : Int) < ((n : Nat) : Int) := of_decide_eq_true hc7
    refine c_cond_t (t := true) (.tmp rfl (congrArg Value.bool hc7)) rfl ?_
    refine c_skip ?_
    refine n_then ?_
    refine c_seq ?_
    refine c_block ?_
    refine c_seq ?_
    refine c_region ?_
    obtain ⟨b8, o9, hA10, hc11⟩ := hp.get (i := i) (by omega)
    refine st (v := .pointer (some ⟨b8, (o9 + i * 1), none⟩)) (ixo22 (.tmp rfl hρ3) hA10 (i := ((i : Nat) : Int)) (.tmp rfl hρ5) (by omega) (by omega) rfl) ?_
    refine st (v := .int .u8 ((bs.getD i 0 : Nat) : Int)) (ld5 (.tmp rfl rfl) (hc11 hs6)) ?_
    refine st (v := .int .u8 ((bs.getD i 0 : Nat) : Int)) (x_assign (.tmp rfl rfl)) ?_
    refine c_nil ?_
    refine n_then ?_
    refine c_seq ?_
    refine c_region ?_
    refine st (v := .int .u32 ((cc : Nat) : Int)) (x_move (.tmp rfl hρ2)) ?_
    refine st (v := .int .u8 ((bs.getD i 0 : Nat) : Int)) (x_move (.tmp rfl rfl)) ?_
    have hb12 : (bs.getD i 0) < 4294967296 := Nat.lt_of_lt_of_le (hp.lt.getD _) (by decide)
    refine st (v := .int .u32 (((bs.getD i 0) : Nat) : Int)) (x_conv (k := .u8) (a := ((bs.getD i 0 : Nat) : Int)) Try.underlying5 Try.underlying24 (.tmp rfl rfl) (wU rfl rfl hb12)) ?_
    have hb13 : (cc ^^^ (bs.getD i 0)) < 4294967296 := Nat.xor_lt_two_pow (n := 32) hc hb12
    refine st (v := .int .u32 (((cc ^^^ (bs.getD i 0)) : Nat) : Int)) (x_xor (k := .u32) (m := cc) (n := (bs.getD i 0)) rfl (.tmp rfl rfl) (.tmp rfl rfl) (show _ < 2 ^ 32 from hc) (show _ < 2 ^ 32 from hb12)) ?_
    refine st (v := .int .u32 (((cc ^^^ (bs.getD i 0)) : Nat) : Int)) (x_assign (.tmp rfl rfl)) ?_
    refine c_nil ?_
    refine n_then ?_
    refine c_seq ?_
    refine c_region ?_
    refine st (v := .int .i64 0) (x_move .const) ?_
    refine c_nil ?_
    refine n_then ?_
    refine c_block ?_
    refine c_loop (fun ρ w mm => ∃ (j : Nat) (d : Nat), ρ 3 = .int .u32 ((d : Nat) : Int) ∧ ρ 6 = .slice A n c ∧ ρ 7 = .int .i64 ((n : Nat) : Int) ∧ ρ 8 = .int .i64 ((i : Nat) : Int) ∧ ρ 16 = .int .i64 ((j : Nat) : Int) ∧ (j ≤ 8) ∧ (d < 4294967296) ∧ (d = cbits j (cc ^^^ bs.getD i 0)) ∧ St H w (L) ∧ mm = 8 - j) _ ⟨0, (cc ^^^ (bs.getD i 0)), rfl, hρ3, hρ4, hρ5, rfl, (by omega), hb13, rfl, hs6, rfl⟩ ?_
    rintro ρ w mm ⟨j, d, hρ15, hρ16, hρ17, hρ18, hρ19, hj, hd, he2, hs20, rfl⟩
    refine c_seq ?_
    refine c_region ?_
    refine st (v := .bool (decide ((((j : Nat) : Int) : Int) < 8))) (x_lss (k := .i64) (a := ((j : Nat) : Int)) (b := 8) (.tmp rfl hρ19) .const) ?_
    refine c_nil ?_
    refine n_then ?_
    refine c_seq ?_
    rcases Bool.eq_false_or_eq_true (decide ((((j : Nat) : Int) : Int) < 8)) with hc21 | hc21
    · have hp21 : (((j : Nat) : Int) : Int) < 8 := of_decide_eq_true hc21
      refine c_cond_t (t := true) (.tmp rfl (congrArg Value.bool hc21)) rfl ?_
      refine c_skip ?_
      refine n_then ?_
      refine c_seq ?_
      refine c_block ?_
      refine c_region ?_
      refine st (v := .int .u32 ((d : Nat) : Int)) (x_move (.tmp rfl hρ15)) ?_
      have hb22 : (d / 2 ^ 1) < 4294967296 := Nat.lt_of_le_of_lt (Nat.div_le_self _ _) hd
      refine st (v := .int .u32 (((d / 2 ^ 1) : Nat) : Int)) (x_shr (k := .u32) (m := d) (b := 1) rfl (.tmp rfl rfl) .const (by omega) (show _ < 2 ^ 32 from hd)) ?_
      refine st (v := .int .u32 ((d : Nat) : Int)) (x_move (.tmp rfl hρ15)) ?_
      have hb23 : (d &&& 1) < 4294967296 := Nat.lt_of_le_of_lt Nat.and_le_left hd
      refine st (v := .int .u32 (((d &&& 1) : Nat) : Int)) (x_and (k := .u32) (m := d) (n := 1) rfl (.tmp rfl rfl) .const (show _ < 2 ^ 32 from hd) (show _ < 2 ^ 32 from (by decide))) ?_
      refine st (v := .int .u32 ((((0 - (((d &&& 1) : Nat) : Int)) % 4294967296).toNat : Nat) : Int)) (x_neg (k := .u32) (a := (((d &&& 1) : Nat) : Int)) (.tmp rfl rfl) (wrapU _ rfl _)) ?_
      have hb24 : (3988292384 &&& (((0 - (((d &&& 1) : Nat) : Int)) % 4294967296).toNat)) < 4294967296 := Nat.lt_of_le_of_lt Nat.and_le_left (by decide)
      refine st (v := .int .u32 (((3988292384 &&& (((0 - (((d &&& 1) : Nat) : Int)) % 4294967296).toNat)) : Nat) : Int)) (x_and (k := .u32) (m := 3988292384) (n := (((0 - (((d &&& 1) : Nat) : Int)) % 4294967296).toNat)) rfl .const (.tmp rfl rfl) (show _ < 2 ^ 32 from (by decide)) (show _ < 2 ^ 32 from (by omega))) ?_
      have hb25 : ((d / 2 ^ 1) ^^^ (3988292384 &&& (((0 - (((d &&& 1) : Nat) : Int)) % 4294967296).toNat))) < 4294967296 := Nat.xor_lt_two_pow (n := 32) hb22 hb24
      refine st (v := .int .u32 ((((d / 2 ^ 1) ^^^ (3988292384 &&& (((0 - (((d &&& 1) : Nat) : Int)) % 4294967296).toNat))) : Nat) : Int)) (x_xor (k := .u32) (m := (d / 2 ^ 1)) (n := (3988292384 &&& (((0 - (((d &&& 1) : Nat) : Int)) % 4294967296).toNat))) rfl (.tmp rfl rfl) (.tmp rfl rfl) (show _ < 2 ^ 32 from hb22) (show _ < 2 ^ 32 from hb24)) ?_
      refine st (v := .int .u32 ((((d / 2 ^ 1) ^^^ (3988292384 &&& (((0 - (((d &&& 1) : Nat) : Int)) % 4294967296).toNat))) : Nat) : Int)) (x_assign (.tmp rfl rfl)) ?_
      refine c_nil ?_
      refine n_block ?_
      refine n_then ?_
      refine c_region ?_
      refine st (v := .int .i64 (((j : Nat) : Int) + 1)) (x_add (k := .i64) (a := ((j : Nat) : Int)) (b := 1) (.tmp rfl hρ19) .const (w64 (by omega) (by omega))) ?_
      refine st (v := .int .i64 (((j : Nat) : Int) + 1)) (x_move (.tmp rfl rfl)) ?_
      refine c_nil ?_
      refine n_then ⟨_, _, rfl, ?_, (j + 1), ((d / 2 ^ 1) ^^^ (3988292384 &&& (((0 - (((d &&& 1) : Nat) : Int)) % 4294967296).toNat))), rfl, hρ16, hρ17, hρ18, rfl, (by omega), hb25, (by rw [cbit_code, he2]; rfl), hs20, rfl⟩
      omega
    · have hp21 : ¬ ((((j : Nat) : Int) : Int) < 8) := of_decide_eq_false hc21
      refine c_cond_f (t := false) (.tmp rfl (congrArg Value.bool hc21)) rfl ?_
      refine c_exit ?_
      refine x_then ?_
      refine x_then ?_
      refine x_here ?_
      refine n_block ?_
      refine n_then ?_
      refine c_region ?_
      have hj8 : j = 8 := by omega
      refine st (v := .int .i64 (((i : Nat) : Int) + 1)) (x_add (k := .i64) (a := ((i : Nat) : Int)) (b := 1) (.tmp rfl hρ18) .const (w64 (by omega) (by omega))) ?_
      refine st (v := .int .i64 (((i : Nat) : Int) + 1)) (x_move (.tmp rfl rfl)) ?_
      refine c_nil ?_
      refine n_then ⟨_, _, rfl, ?_, (i + 1), d, hρ15, hρ16, hρ17, rfl, (by omega), hd, (by rw [he2, hj8, crcR_take (by omega), ← he]; rfl), hs20, rfl⟩
      omega
  · have hp7 : ¬ ((((i : Nat) : Int) : Int) < ((n : Nat) : Int)) := of_decide_eq_false hc7
    refine c_cond_f (t := false) (.tmp rfl (congrArg Value.bool hc7)) rfl ?_
    refine c_exit ?_
    refine x_then ?_
    refine x_then ?_
    refine x_here ?_
    refine n_then ?_
    refine c_seq ?_
    refine c_region ?_
    refine st (v := .int .u32 ((cc : Nat) : Int)) (x_move (.tmp rfl hρ2)) ?_
    refine st (v := .int .u32 ((4294967295 - cc : Nat) : Int)) (x_xorU (k := .u32) (n := cc) rfl (.tmp rfl rfl) (show _ < 2 ^ 32 from hc)) ?_
    refine st (v := .int .u32 ((4294967295 - cc : Nat) : Int)) (x_assign (.tmp rfl rfl)) ?_
    refine c_nil ?_
    refine n_then ?_
    refine c_ret ?_
    refine leave_ret (res_one (v := .int .u32 ((4294967295 - cc : Nat) : Int)) rfl (.mk rfl rfl)) ?_
    have hi2 : i = bs.length := by omega
    rw [hi2, List.take_length] at he
    exact ⟨by rw [he]; rfl, hs6⟩

set_option maxHeartbeats 8000000 in
theorem rsum_spec {H : Hp} {w : World} {L : List Res} (hs : St H w L) {A : Option Addr} {n c : Nat} {bs : List Nat} (hp : Bs H A n c bs) (hn : n ≤ 140737488355320) : Calls Try.prog 11 #[.slice A n c] w (fun e w' => e = .returned (.int .u32 ((crc bs : Nat) : Int)) ∧ St H w' L) := by
  refine enter (args := [.slice A n c]) (N := 36) Try.func11 rfl rfl rfl ?_
  have hle := hp.le
  have hlen := hp.len
  refine c_seq ?_
  refine c_region ?_
  refine st (v := .int .u32 0) (x_assign .const) ?_
  refine c_nil ?_
  refine n_then ?_
  refine c_seq ?_
  refine c_region ?_
  refine st (v := .int .u32 4294967295) (x_assign .const) ?_
  refine c_nil ?_
  refine n_then ?_
  refine c_seq ?_
  refine c_seq ?_
  refine c_region ?_
  refine st (v := .int .i64 0) (x_assign .const) ?_
  refine c_nil ?_
  refine n_then ?_
  refine c_block ?_
  refine c_loop (fun ρ w mm => ∃ (i : Nat) (cc : Nat), ρ 0 = .slice A n c ∧ ρ 3 = .int .u32 ((cc : Nat) : Int) ∧ ρ 4 = .int .i64 ((i : Nat) : Int) ∧ (i ≤ n) ∧ (cc < 4294967296) ∧ (cc = crcR 4294967295 (bs.take i)) ∧ St H w (L) ∧ mm = n - i) _ ⟨0, 4294967295, rfl, rfl, rfl, (by omega), (by decide), rfl, hs, rfl⟩ ?_
  rintro ρ w mm ⟨i, cc, hρ2, hρ3, hρ4, hi, hc, he, hs5, rfl⟩
  refine c_seq ?_
  refine c_seq ?_
  refine c_region ?_
  refine st (v := .int .i64 ((i : Nat) : Int)) (x_move (.tmp rfl hρ4)) ?_
  refine st (v := .slice A n c) (x_move (.tmp rfl hρ2)) ?_
  refine st (v := .int .i64 ((n : Nat) : Int)) (x_len (n := n) Try.underlying22 (.tmp rfl rfl)) ?_
  refine st (v := .bool (decide ((((i : Nat) : Int) : Int) < ((n : Nat) : Int)))) (x_lss (k := .i64) (a := ((i : Nat) : Int)) (b := ((n : Nat) : Int)) (.tmp rfl rfl) (.tmp rfl rfl)) ?_
  refine c_nil ?_
  refine n_then ?_
  rcases Bool.eq_false_or_eq_true (decide ((((i : Nat) : Int) : Int) < ((n : Nat) : Int))) with hc6 | hc6
  · have hp6 : (((i : Nat) : Int) : Int) < ((n : Nat) : Int) := of_decide_eq_true hc6
    refine c_cond_t (t := true) (.tmp rfl (congrArg Value.bool hc6)) rfl ?_
    refine c_skip ?_
    refine n_then ?_
    refine c_seq ?_
    refine c_block ?_
    refine c_seq ?_
    refine c_region ?_
    refine st (v := .int .i64 0) (x_assign .const) ?_
    refine c_nil ?_
    refine n_then ?_
    refine c_block ?_
    refine c_loop (fun ρ w mm => ∃ (j : Nat) (d : Nat), ρ 0 = .slice A n c ∧ ρ 3 = .int .u32 ((d : Nat) : Int) ∧ ρ 4 = .int .i64 ((i : Nat) : Int) ∧ ρ 5 = .int .i64 ((j : Nat) : Int) ∧ (j ≤ 8) ∧ (d < 4294967296) ∧ (d = feed cc (fun i_ => (bs.getD i 0).testBit i_) j) ∧ St H w (L) ∧ mm = 8 - j) _ ⟨0, cc, hρ2, hρ3, hρ4, rfl, (by omega), hc, rfl, hs5, rfl⟩ ?_
    rintro ρ w mm ⟨j, d, hρ8, hρ9, hρ10, hρ11, hj, hd, he2, hs12, rfl⟩
    refine c_seq ?_
    refine c_seq ?_
    refine c_region ?_
    refine st (v := .int .i64 ((j : Nat) : Int)) (x_move (.tmp rfl hρ11)) ?_
    refine st (v := .bool (decide ((((j : Nat) : Int) : Int) < 8))) (x_lss (k := .i64) (a := ((j : Nat) : Int)) (b := 8) (.tmp rfl rfl) .const) ?_
    refine c_nil ?_
    refine n_then ?_
    rcases Bool.eq_false_or_eq_true (decide ((((j : Nat) : Int) : Int) < 8)) with hc13 | hc13
    · have hp13 : (((j : Nat) : Int) : Int) < 8 := of_decide_eq_true hc13
      refine c_cond_t (t := true) (.tmp rfl (congrArg Value.bool hc13)) rfl ?_
      refine c_skip ?_
      refine n_then ?_
      refine c_seq ?_
      refine c_block ?_
      refine c_seq ?_
      refine c_region ?_
      refine st (v := .int .u32 ((d : Nat) : Int)) (x_move (.tmp rfl hρ9)) ?_
      have hb14 : (d &&& 1) < 4294967296 := Nat.lt_of_le_of_lt Nat.and_le_left hd
      refine st (v := .int .u32 (((d &&& 1) : Nat) : Int)) (x_and (k := .u32) (m := d) (n := 1) rfl (.tmp rfl rfl) .const (show _ < 2 ^ 32 from hd) (show _ < 2 ^ 32 from (by decide))) ?_
      refine st (v := .slice A n c) (x_move (.tmp rfl hρ8)) ?_
      refine st (v := .int .i64 ((i : Nat) : Int)) (x_move (.tmp rfl hρ10)) ?_
      obtain ⟨b15, o16, hA17, hc18⟩ := hp.get (i := i) (by omega)
      refine st (v := .pointer (some ⟨b15, (o16 + i * 1), none⟩)) (ixo22 (.tmp rfl rfl) hA17 (i := ((i : Nat) : Int)) (.tmp rfl rfl) (by omega) (by omega) rfl) ?_
      refine st (v := .int .u8 ((bs.getD i 0 : Nat) : Int)) (ld5 (.tmp rfl rfl) (hc18 hs12)) ?_
      refine st (v := .int .i64 ((j : Nat) : Int)) (x_move (.tmp rfl hρ11)) ?_
      have hb19 : ((bs.getD i 0) / 2 ^ j) < 256 := Nat.lt_of_le_of_lt (Nat.div_le_self _ _) (hp.lt.getD _)
      refine st (v := .int .u8 ((((bs.getD i 0) / 2 ^ j) : Nat) : Int)) (x_shr (k := .u8) (m := (bs.getD i 0)) (b := ((j : Nat) : Int)) rfl (.tmp rfl rfl) (.tmp rfl rfl) (by omega) (show _ < 2 ^ 8 from (hp.lt.getD _))) ?_
      have hb20 : ((bs.getD i 0) / 2 ^ j) < 4294967296 := Nat.lt_of_lt_of_le hb19 (by decide)
      refine st (v := .int .u32 ((((bs.getD i 0) / 2 ^ j) : Nat) : Int)) (x_conv (k := .u8) (a := ((((bs.getD i 0) / 2 ^ j) : Nat) : Int)) Try.underlying5 Try.underlying24 (.tmp rfl rfl) (wU rfl rfl hb20)) ?_
      have hb21 : (((bs.getD i 0) / 2 ^ j) &&& 1) < 4294967296 := Nat.lt_of_le_of_lt Nat.and_le_left hb20
      refine st (v := .int .u32 (((((bs.getD i 0) / 2 ^ j) &&& 1) : Nat) : Int)) (x_and (k := .u32) (m := ((bs.getD i 0) / 2 ^ j)) (n := 1) rfl (.tmp rfl rfl) .const (show _ < 2 ^ 32 from hb20) (show _ < 2 ^ 32 from (by decide))) ?_
      have hb22 : ((d &&& 1) ^^^ (((bs.getD i 0) / 2 ^ j) &&& 1)) < 4294967296 := Nat.xor_lt_two_pow (n := 32) hb14 hb21
      refine st (v := .int .u32 ((((d &&& 1) ^^^ (((bs.getD i 0) / 2 ^ j) &&& 1)) : Nat) : Int)) (x_xor (k := .u32) (m := (d &&& 1)) (n := (((bs.getD i 0) / 2 ^ j) &&& 1)) rfl (.tmp rfl rfl) (.tmp rfl rfl) (show _ < 2 ^ 32 from hb14) (show _ < 2 ^ 32 from hb21)) ?_
      refine st (v := .int .u32 ((((d &&& 1) ^^^ (((bs.getD i 0) / 2 ^ j) &&& 1)) : Nat) : Int)) (x_assign (.tmp rfl rfl)) ?_
      refine c_nil ?_
      refine n_then ?_
      refine c_seq ?_
      refine c_region ?_
      refine st (v := .int .u32 ((d : Nat) : Int)) (x_move (.tmp rfl hρ9)) ?_
      have hb23 : (d / 2 ^ 1) < 4294967296 := Nat.lt_of_le_of_lt (Nat.div_le_self _ _) hd
      refine st (v := .int .u32 (((d / 2 ^ 1) : Nat) : Int)) (x_shr (k := .u32) (m := d) (b := 1) rfl (.tmp rfl rfl) .const (by omega) (show _ < 2 ^ 32 from hd)) ?_
      refine st (v := .int .u32 (((d / 2 ^ 1) : Nat) : Int)) (x_assign (.tmp rfl rfl)) ?_
      refine c_nil ?_
      refine n_then ?_
      refine c_seq ?_
      refine c_region ?_
      refine st (v := .int .u32 ((((d &&& 1) ^^^ (((bs.getD i 0) / 2 ^ j) &&& 1)) : Nat) : Int)) (x_move (.tmp rfl rfl)) ?_
      refine st (v := .bool (decide ((((((d &&& 1) ^^^ (((bs.getD i 0) / 2 ^ j) &&& 1)) : Nat) : Int) : Int) = 1))) (x_eql (k := .u32) (a := ((((d &&& 1) ^^^ (((bs.getD i 0) / 2 ^ j) &&& 1)) : Nat) : Int)) (b := 1) (.tmp rfl rfl) .const) ?_
      refine c_nil ?_
      refine n_then ?_
      rcases Bool.eq_false_or_eq_true (decide ((((((d &&& 1) ^^^ (((bs.getD i 0) / 2 ^ j) &&& 1)) : Nat) : Int) : Int) = 1)) with hc24 | hc24
      · have hp24 : (((((d &&& 1) ^^^ (((bs.getD i 0) / 2 ^ j) &&& 1)) : Nat) : Int) : Int) = 1 := of_decide_eq_true hc24
        refine c_cond_t (t := true) (.tmp rfl (congrArg Value.bool hc24)) rfl ?_
        refine c_region ?_
        refine st (v := .int .u32 (((d / 2 ^ 1) : Nat) : Int)) (x_move (.tmp rfl rfl)) ?_
        have hb25 : ((d / 2 ^ 1) ^^^ 3988292384) < 4294967296 := Nat.xor_lt_two_pow (n := 32) hb23 (by decide)
        refine st (v := .int .u32 ((((d / 2 ^ 1) ^^^ 3988292384) : Nat) : Int)) (x_xor (k := .u32) (m := (d / 2 ^ 1)) (n := 3988292384) rfl (.tmp rfl rfl) .const (show _ < 2 ^ 32 from hb23) (show _ < 2 ^ 32 from (by decide))) ?_
        refine st (v := .int .u32 ((((d / 2 ^ 1) ^^^ 3988292384) : Nat) : Int)) (x_assign (.tmp rfl rfl)) ?_
        refine c_nil ?_
        refine n_block ?_
        refine n_then ?_
        refine c_region ?_
        refine st (v := .int .i64 ((j : Nat) : Int)) (x_move (.tmp rfl hρ11)) ?_
        refine st (v := .int .i64 (((j : Nat) : Int) + 1)) (x_add (k := .i64) (a := ((j : Nat) : Int)) (b := 1) (.tmp rfl rfl) .const (w64 (by omega) (by omega))) ?_
        refine st (v := .int .i64 (((j : Nat) : Int) + 1)) (x_assign (.tmp rfl rfl)) ?_
        refine c_nil ?_
        refine n_then ⟨_, _, rfl, ?_, (j + 1), ((d / 2 ^ 1) ^^^ 3988292384), hρ8, rfl, hρ10, rfl, (by omega), hb25, (by rw [feed, ← he2]; exact ref_yes hp24), hs12, rfl⟩
        omega
      · have hp24 : ¬ ((((((d &&& 1) ^^^ (((bs.getD i 0) / 2 ^ j) &&& 1)) : Nat) : Int) : Int) = 1) := of_decide_eq_false hc24
        refine c_cond_f (t := false) (.tmp rfl (congrArg Value.bool hc24)) rfl ?_
        refine c_skip ?_
        refine n_block ?_
        refine n_then ?_
        refine c_region ?_
        refine st (v := .int .i64 ((j : Nat) : Int)) (x_move (.tmp rfl hρ11)) ?_
        refine st (v := .int .i64 (((j : Nat) : Int) + 1)) (x_add (k := .i64) (a := ((j : Nat) : Int)) (b := 1) (.tmp rfl rfl) .const (w64 (by omega) (by omega))) ?_
        refine st (v := .int .i64 (((j : Nat) : Int) + 1)) (x_assign (.tmp rfl rfl)) ?_
        refine c_nil ?_
        refine n_then ⟨_, _, rfl, ?_, (j + 1), (d / 2 ^ 1), hρ8, rfl, hρ10, rfl, (by omega), hb23, (by rw [feed, ← he2]; exact ref_no hp24), hs12, rfl⟩
        omega
    · have hp13 : ¬ ((((j : Nat) : Int) : Int) < 8) := of_decide_eq_false hc13
      refine c_cond_f (t := false) (.tmp rfl (congrArg Value.bool hc13)) rfl ?_
      refine c_exit ?_
      refine x_then ?_
      refine x_then ?_
      refine x_here ?_
      refine n_block ?_
      refine n_then ?_
      refine c_region ?_
      have hj8 : j = 8 := by omega
      refine st (v := .int .i64 ((i : Nat) : Int)) (x_move (.tmp rfl hρ10)) ?_
      refine st (v := .int .i64 (((i : Nat) : Int) + 1)) (x_add (k := .i64) (a := ((i : Nat) : Int)) (b := 1) (.tmp rfl rfl) .const (w64 (by omega) (by omega))) ?_
      refine st (v := .int .i64 (((i : Nat) : Int) + 1)) (x_assign (.tmp rfl rfl)) ?_
      refine c_nil ?_
      refine n_then ⟨_, _, rfl, ?_, (i + 1), d, hρ8, hρ9, rfl, (by omega), hd, (by rw [he2, hj8, crcR_take (by omega), ← he]; exact (cbyte_feed cc (hp.lt.getD i)).symm), hs12, rfl⟩
      omega
  · have hp6 : ¬ ((((i : Nat) : Int) : Int) < ((n : Nat) : Int)) := of_decide_eq_false hc6
    refine c_cond_f (t := false) (.tmp rfl (congrArg Value.bool hc6)) rfl ?_
    refine c_exit ?_
    refine x_then ?_
    refine x_then ?_
    refine x_here ?_
    refine n_then ?_
    refine c_seq ?_
    refine c_region ?_
    refine st (v := .int .u32 ((cc : Nat) : Int)) (x_move (.tmp rfl hρ3)) ?_
    have hb26 : (4294967295 - cc) < 4294967296 := by omega
    refine st (v := .int .u32 (((4294967295 - cc) : Nat) : Int)) (x_sub (k := .u32) (a := 4294967295) (b := ((cc : Nat) : Int)) .const (.tmp rfl rfl) (wU rfl (by omega) hb26)) ?_
    refine st (v := .int .u32 (((4294967295 - cc) : Nat) : Int)) (x_assign (.tmp rfl rfl)) ?_
    refine c_nil ?_
    refine n_then ?_
    refine c_ret ?_
    refine leave_ret (res_one (v := .int .u32 (((4294967295 - cc) : Nat) : Int)) rfl (.mk rfl rfl)) ?_
    have hi2 : i = bs.length := by omega
    rw [hi2, List.take_length] at he
    exact ⟨by rw [he]; rfl, hs5⟩

end Go.Proofs.Ytmjgphaobdplcaa
