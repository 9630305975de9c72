/- Steps of the proofs over the functions of this seat, printed by a program (gen.py) and checked by Lean. -/
import Derived.Test.YtnikcgcbkdeeeaaDoorUty
import Derived.Test.YtnikcgcbkdeeeaaDoorFmM4b
import Derived.Test.YtnikcgcbkdeeeaaDoorFmP
import Derived.Test.YtnikcgcbkdeeeaaDoorFmK
import Derived.Test.YtnikcgcbkdeeeaaDoorFmT
import Derived.Test.YtnikcgcbkdeeeaaDoorFmG2
set_option linter.unusedVariables false
set_option linter.unusedSimpArgs false
namespace Go.Proofs.YtnikcgcbkdeeeaaDoor
open Go Go.FM Go.Proofs
attribute [local irreducible] wpList wpQuiet wpS Code.wp Calls
def tab : List Nat := [0, 1, 28, 2, 29, 14, 24, 3, 30, 22, 20, 15, 25, 17, 4, 8, 31, 27, 13, 23, 21, 19, 16, 7, 26, 12, 18, 6, 11, 5, 10, 9]
/-- The table lies in memory. -/
def Tab (H : Hp) : Prop := ∃ cs E fr, H.blk 0 = some (.cells cs E fr) ∧ ∀ i, i < 32 → cs[i]? = some (.int .u8 ((tab.getD i 0 : Nat) : Int))
theorem Tab.mono {H H' : Hp} (h : Tab H) (hl : H.le H') : Tab H' := let ⟨cs, E, fr, h1, h2⟩ := h; ⟨cs, E, fr, hl.blk _ _ h1, h2⟩
theorem Tab.cell {H : Hp} {w : World} {L : List Res} (h : Tab H) (hs : St H w L) (i : Nat) (hi : i < 32) : w.cell? ⟨0, i, none⟩ = some (.int .u8 ((tab.getD i 0 : Nat) : Int)) := let ⟨cs, E, fr, h1, h2⟩ := h; cell_at (hs.fz _ _ h1) (h2 i hi)
theorem tab_pow : ∀ j, j < 16 → 2 ^ j * 125613361 % 4294967296 / 2 ^ 27 < 32 ∧ tab.getD (2 ^ j * 125613361 % 4294967296 / 2 ^ 27) 0 = j := by decide +kernel
theorem tz_tab (s : Nat) (b_s : s < 65536) (h0 : s ≠ 0) : (s &&& ((0 - (s : Int)) % 65536).toNat) * 125613361 % 4294967296 / 2 ^ 27 < 32 ∧ tab.getD ((s &&& ((0 - (s : Int)) % 65536).toNat) * 125613361 % 4294967296 / 2 ^ 27) 0 = low 16 s := by
  have e : ((0 - (s : Int)) % 65536).toNat = 2 ^ 16 - s := by omega
  rw [e, land_neg 16 s h0 b_s]
  exact tab_pow _ (low_lt 16 s h0 b_s)
theorem tz_cell {H : Hp} {w : World} {L : List Res} (h : Tab H) (hs : St H w L) {e m : Nat} (he : e < 32) (hm : tab.getD e 0 = m) : w.cell? ⟨0, 0 + ((e : Nat) : Int).toNat * 1, none⟩ = some (.int .u8 ((m : Nat) : Int)) := by
  subst hm
  have := h.cell hs e he
  rwa [show 0 + ((e : Nat) : Int).toNat * 1 = e by omega]
set_option maxHeartbeats 8000000 in
theorem tz16_spec {H : Hp} {w : World} {L : List Res} (hs : St H w L) (htab : Tab H) (s : Nat) (b_s : s < 65536) (h0 : s ≠ 0) : Calls Tryd.prog 49 #[.int .u16 ((s : Nat) : Int)] w (fun e w' => e = .returned (.int .i64 ((low 16 s : Nat) : Int)) ∧ St H w' L) := by
  refine enter (args := [.int .u16 ((s : Nat) : Int)]) (N := 15) Tryd.func49 rfl rfl rfl ?_
  refine c_seq ?_
  refine c_region ?_
  refine st (v := .int .i64 0) (x_assign .const) ?_
  refine c_nil ?_
  refine n_then ?_
  refine c_seq ?_
  refine c_seq ?_
  refine c_region ?_
  refine st (v := .int .u16 ((s : Nat) : Int)) (x_move (.tmp rfl rfl)) ?_
  refine st (v := .bool (decide ((((s : Nat) : Int) : Int) = 0))) (x_eql (k := .u16) (a := ((s : Nat) : Int)) (b := 0) (.tmp rfl rfl) .const) ?_
  refine c_nil ?_
  refine n_then ?_
  rcases Bool.eq_false_or_eq_true (decide ((((s : Nat) : Int) : Int) = 0)) with hc1 | hc1
  · have hp1 : (((s : Nat) : Int) : Int) = 0 := of_decide_eq_true hc1
    refine c_cond_t (t := true) (.tmp rfl (congrArg Value.bool hc1)) rfl ?_
    refine c_seq ?_
    refine c_region ?_
    refine st (v := .int .i64 16) (x_assign .const) ?_
    refine c_nil ?_
    refine n_then ?_
    refine c_ret ?_
    refine r_then ?_
    refine leave_ret (res_one (v := .int .i64 16) rfl (.mk rfl rfl)) ?_
    exact absurd hp1 (by omega)
  · have hp1 : ¬ ((((s : Nat) : Int) : Int) = 0) := of_decide_eq_false hc1
    refine c_cond_f (t := false) (.tmp rfl (congrArg Value.bool hc1)) rfl ?_
    refine c_skip ?_
    refine n_then ?_
    refine c_seq ?_
    refine c_region ?_
    refine st (v := .int .u16 ((s : Nat) : Int)) (x_move (.tmp rfl rfl)) ?_
    refine st (v := .int .u16 ((s : Nat) : Int)) (x_move (.tmp rfl rfl)) ?_
    refine st (v := .int .u16 ((((0 - ((s : Nat) : Int)) % 65536).toNat : Nat) : Int)) (x_neg (k := .u16) (a := ((s : Nat) : Int)) (.tmp rfl rfl) (wrapU _ rfl _)) ?_
    have hb2 : (s &&& (((0 - ((s : Nat) : Int)) % 65536).toNat)) < 65536 := Nat.lt_of_le_of_lt Nat.and_le_left b_s
    refine st (v := .int .u16 (((s &&& (((0 - ((s : Nat) : Int)) % 65536).toNat)) : Nat) : Int)) (x_and (k := .u16) (m := s) (n := (((0 - ((s : Nat) : Int)) % 65536).toNat)) rfl (.tmp rfl rfl) (.tmp rfl rfl) (show _ < 2 ^ 16 from b_s) (show _ < 2 ^ 16 from (by omega))) ?_
    have hb3 : (s &&& (((0 - ((s : Nat) : Int)) % 65536).toNat)) < 4294967296 := Nat.lt_of_lt_of_le hb2 (by decide)
    refine st (v := .int .u32 (((s &&& (((0 - ((s : Nat) : Int)) % 65536).toNat)) : Nat) : Int)) (x_conv (k := .u16) (a := (((s &&& (((0 - ((s : Nat) : Int)) % 65536).toNat)) : Nat) : Int)) Tryd.underlying45 Tryd.underlying95 (.tmp rfl rfl) (wU rfl rfl hb3)) ?_
    refine st (v := .int .u32 (((((s &&& (((0 - ((s : Nat) : Int)) % 65536).toNat)) * 125613361) % 4294967296) : Nat) : Int)) (x_mul (k := .u32) (a := (((s &&& (((0 - ((s : Nat) : Int)) % 65536).toNat)) : Nat) : Int)) (b := 125613361) (.tmp rfl rfl) .const (wMulN (m := (s &&& (((0 - ((s : Nat) : Int)) % 65536).toNat))) (n := 125613361) _ rfl rfl rfl)) ?_
    have hb4 : ((((s &&& (((0 - ((s : Nat) : Int)) % 65536).toNat)) * 125613361) % 4294967296) / 2 ^ 27) < 4294967296 := Nat.lt_of_le_of_lt (Nat.div_le_self _ _) (Nat.mod_lt _ (by decide))
    refine st (v := .int .u32 ((((((s &&& (((0 - ((s : Nat) : Int)) % 65536).toNat)) * 125613361) % 4294967296) / 2 ^ 27) : Nat) : Int)) (x_shr (k := .u32) (m := (((s &&& (((0 - ((s : Nat) : Int)) % 65536).toNat)) * 125613361) % 4294967296)) (b := 27) rfl (.tmp rfl rfl) .const (by omega) (show _ < 2 ^ 32 from (Nat.mod_lt _ (by decide)))) ?_
    have htl := tz_tab s b_s h0
    have hix := htl.1
    refine st (v := .pointer (some ⟨0, 0 + ((((((s &&& (((0 - ((s : Nat) : Int)) % 65536).toNat)) * 125613361) % 4294967296) / 2 ^ 27) : Nat) : Int).toNat * 1, none⟩)) (ix94 .global (i := ((((((s &&& (((0 - ((s : Nat) : Int)) % 65536).toNat)) * 125613361) % 4294967296) / 2 ^ 27) : Nat) : Int)) (.tmp rfl rfl) (by omega) (by omega)) ?_
    have hlo := low_lt 16 s h0 b_s
    refine st (v := .int .u8 (((low 16 s) : Nat) : Int)) (ld5 (.tmp rfl rfl) (tz_cell htab hs hix htl.2)) ?_
    refine st (v := .int .i64 (((low 16 s) : Nat) : Int)) (x_conv (k := .u8) (a := (((low 16 s) : Nat) : Int)) Tryd.underlying5 Tryd.underlying3 (.tmp rfl rfl) (w64 (by omega) (by omega))) ?_
    refine st (v := .int .i64 (((low 16 s) : Nat) : Int)) (x_assign (.tmp rfl rfl)) ?_
    refine c_nil ?_
    refine n_then ?_
    refine c_ret ?_
    refine leave_ret (res_one (v := .int .i64 (((low 16 s) : Nat) : Int)) rfl (.mk rfl rfl)) ?_
    exact ⟨rfl, hs⟩

set_option maxHeartbeats 8000000 in
theorem least_spec {H : Hp} {w : World} {L : List Res} (hs : St H w L) (htab : Tab H) (s : Nat) (b_s : s < 65536) : Calls Tryd.prog 39 #[.int .u16 ((s : Nat) : Int)] w (fun e w' => e = .returned (.int .i64 (least s)) ∧ St H w' L) := by
  refine enter (args := [.int .u16 ((s : Nat) : Int)]) (N := 7) Tryd.func39 rfl rfl rfl ?_
  refine c_seq ?_
  refine c_region ?_
  refine st (v := .int .i64 0) (x_assign .const) ?_
  refine c_nil ?_
  refine n_then ?_
  refine c_seq ?_
  refine c_seq ?_
  refine c_region ?_
  refine st (v := .int .u16 ((s : Nat) : Int)) (x_move (.tmp rfl rfl)) ?_
  refine st (v := .bool (decide ((((s : Nat) : Int) : Int) = 0))) (x_eql (k := .u16) (a := ((s : Nat) : Int)) (b := 0) (.tmp rfl rfl) .const) ?_
  refine c_nil ?_
  refine n_then ?_
  rcases Bool.eq_false_or_eq_true (decide ((((s : Nat) : Int) : Int) = 0)) with hc1 | hc1
  · have hp1 : (((s : Nat) : Int) : Int) = 0 := of_decide_eq_true hc1
    refine c_cond_t (t := true) (.tmp rfl (congrArg Value.bool hc1)) rfl ?_
    refine c_seq ?_
    refine c_region ?_
    refine st (v := .int .i64 (-1)) (x_assign .const) ?_
    refine c_nil ?_
    refine n_then ?_
    refine c_ret ?_
    refine r_then ?_
    refine leave_ret (res_one (v := .int .i64 (-1)) rfl (.mk rfl rfl)) ?_
    exact ⟨by simp only [least]; first | rw [if_pos (by omega)] | rw [if_neg (by omega)], hs⟩
  · have hp1 : ¬ ((((s : Nat) : Int) : Int) = 0) := of_decide_eq_false hc1
    refine c_cond_f (t := false) (.tmp rfl (congrArg Value.bool hc1)) rfl ?_
    refine c_skip ?_
    refine n_then ?_
    refine c_seq ?_
    refine c_region ?_
    refine st (v := .int .u16 ((s : Nat) : Int)) (x_move (.tmp rfl rfl)) ?_
    refine st_c cb49 .func (evs1 (.tmp rfl rfl)) (tz16_spec hs htab s b_s (by omega)) ?_
    rintro e w2 ⟨rfl, hs3⟩
    refine ⟨_, rfl, ?_⟩
    refine st (v := .int .i64 ((low 16 s : Nat) : Int)) (x_assign (.tmp rfl rfl)) ?_
    refine c_nil ?_
    refine n_then ?_
    refine c_ret ?_
    refine leave_ret (res_one (v := .int .i64 ((low 16 s : Nat) : Int)) rfl (.mk rfl rfl)) ?_
    exact ⟨by simp only [least]; first | rw [if_pos (by omega)] | rw [if_neg (by omega)], hs3⟩

end Go.Proofs.YtnikcgcbkdeeeaaDoor
