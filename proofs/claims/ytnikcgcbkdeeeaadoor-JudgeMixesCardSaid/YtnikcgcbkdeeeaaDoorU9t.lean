/- Steps of the proofs over the functions of this seat, printed by a program (gen.py) and checked by Lean. -/
import Derived.Test.YtnikcgcbkdeeeaaDoorUty
import Derived.Test.YtnikcgcbkdeeeaaDoorFmM4b
import Derived.Test.YtnikcgcbkdeeeaaDoorFmP
import Derived.Test.YtnikcgcbkdeeeaaDoorFmK
import Derived.Test.YtnikcgcbkdeeeaaDoorFmT
import Derived.Test.YtnikcgcbkdeeeaaDoorU9s
set_option linter.unusedVariables false
set_option linter.unusedSimpArgs false
namespace Go.Proofs.YtnikcgcbkdeeeaaDoor
open Go Go.FM Go.Proofs
attribute [local irreducible] wpList wpQuiet wpS Code.wp Calls
set_option maxHeartbeats 8000000 in
theorem total_spec {H : Hp} {w : World} {L : List Res} (hs : St H w (L)) {A_acc : Option Addr} {n_acc c_acc : Nat} (acc : (List (List (List Nat)))) (h_acc : Sl (kSl kBs) H A_acc n_acc c_acc acc) {A_del : Option Addr} {n_del c_del : Nat} (del : (List (List GItem))) (h_del : Sl (kSl kItem) H A_del n_del c_del del) : Calls Tryd.prog 11 #[.slice A_acc n_acc c_acc, .slice A_del n_del c_del] w (fun e w' => ∃ (v0 : Value) (cs0 : List Value), e = .returned (.tuple #[v0, .bool ((totS acc del).2)]) ∧ RowOk kItem.sz v0 ((totS acc del).1).length cs0 ∧ kItem.toKn.rows H ((totS acc del).1) cs0 ∧ St H w' (row 34 kItem.sz v0 ((totS acc del).1).length cs0 :: L)) := by
  have := h_acc.len; have := h_acc.le; have : n_acc * 24 ≤ 140737488351232 := h_acc.bnd
  have := h_del.len; have := h_del.le; have : n_del * 24 ≤ 140737488351232 := h_del.bnd
  refine enter (args := [.slice A_acc n_acc c_acc, .slice A_del n_del c_del]) (N := 102) Tryd.func11 rfl rfl rfl ?_
  refine c_seq ?_
  refine c_region ?_
  refine st (v := .slice none 0 0) (x_assign .const) ?_
  refine st (v := .bool false) (x_assign .const) ?_
  refine c_nil ?_
  refine n_then ?_
  refine c_seq ?_
  refine c_region ?_
  refine st (v := .slice none 0 0) (x_assign .const) ?_
  refine c_nil ?_
  refine n_then ?_
  refine c_seq ?_
  refine c_seq ?_
  refine c_region ?_
  refine st (v := .slice A_del n_del c_del) (x_move (.tmp rfl rfl)) ?_
  refine st (v := .int .i64 ((n_del : Nat) : Int)) (x_len (n := n_del) Tryd.underlying23 (.tmp rfl rfl)) ?_
  refine st (v := .int .i64 0) (x_move .const) ?_
  refine c_nil ?_
  refine n_then ?_
  refine c_block ?_
  refine c_loop (fun ρ w mm => ∃ (i : Nat) (A_long : Option Addr) (n_long : Nat) (k_long : Nat) (long : List GItem), ρ 0 = .slice A_acc n_acc c_acc ∧ ρ 1 = .slice A_del n_del c_del ∧ ρ 6 = .slice A_long n_long k_long ∧ ρ 14 = .slice A_del n_del c_del ∧ ρ 15 = .int .i64 ((n_del : Nat) : Int) ∧ ρ 16 = .int .i64 ((i : Nat) : Int) ∧ (Sl kItem H A_long n_long k_long long) ∧ (i ≤ n_del) ∧ (long = longTo del i) ∧ St H w (L) ∧ mm = n_del - i) _ ⟨0, none, 0, 0, [], rfl, rfl, rfl, rfl, rfl, rfl, (Sl.nil _ _ none), (by omega), rfl, hs, rfl⟩ ?_
  rintro ρ w mm ⟨i, A_long, n_long, k_long, long, hρ2, hρ3, hρ4, hρ5, hρ6, hρ7, sp_long, hi, hl, hs8, rfl⟩
  have := sp_long.len; have := sp_long.le
  refine c_seq ?_
  refine c_region ?_
  refine st (v := .bool (decide ((((i : Nat) : Int) : Int) < ((n_del : Nat) : Int)))) (x_lss (k := .i64) (a := ((i : Nat) : Int)) (b := ((n_del : Nat) : Int)) (.tmp rfl hρ7) (.tmp rfl hρ6)) ?_
  refine c_nil ?_
  refine n_then ?_
  refine c_seq ?_
  rcases Bool.eq_false_or_eq_true (decide ((((i : Nat) : Int) : Int) < ((n_del : Nat) : Int))) with hc9 | hc9
  · have hp9 : (((i : Nat) : Int) : Int) < ((n_del : Nat) : Int) := of_decide_eq_true hc9
    refine c_cond_t (t := true) (.tmp rfl (congrArg Value.bool hc9)) rfl ?_
    refine c_skip ?_
    refine n_then ?_
    refine c_seq ?_
    refine c_block ?_
    refine c_seq ?_
    refine c_region ?_
    obtain ⟨e10, b11, o12, cs13, hx14, hA15, hr16, hat17⟩ := h_del.get (i := i) (by omega)
    obtain ⟨A18, n19, c20, rfl, hl21⟩ := hr16
    have := hl21.len; have : n19 * 32 ≤ 140737488351232 := hl21.bnd; have := hl21.le
    have hat17x : ∀ {w : World} {L : List Res}, St H w L → At w ⟨b11, o12 + i * 1, none⟩ [.slice A18 n19 c20] := fun h => hat17 h
    refine st (v := .pointer (some ⟨b11, (o12 + i * 1), none⟩)) (ixo23 (.tmp rfl hρ5) hA15 (i := ((i : Nat) : Int)) (.tmp rfl hρ7) (by omega) (by omega) (by omega)) ?_
    refine st (v := .slice A18 n19 c20) (ld25 (.tmp rfl rfl) ((hat17x hs8).cell 0 rfl)) ?_
    refine st (v := .slice A18 n19 c20) (x_assign (.tmp rfl rfl)) ?_
    refine c_nil ?_
    refine n_then ?_
    refine c_seq ?_
    refine c_region ?_
    refine st (v := .slice A18 n19 c20) (x_move (.tmp rfl rfl)) ?_
    refine st (v := .int .i64 ((n19 : Nat) : Int)) (x_len (n := n19) Tryd.underlying25 (.tmp rfl rfl)) ?_
    refine st (v := .slice A_long n_long k_long) (x_move (.tmp rfl hρ4)) ?_
    refine st (v := .int .i64 ((n_long : Nat) : Int)) (x_len (n := n_long) Tryd.underlying25 (.tmp rfl rfl)) ?_
    refine st (v := .bool (decide ((((n_long : Nat) : Int) : Int) < ((n19 : Nat) : Int)))) (x_gtr (k := .i64) (a := ((n19 : Nat) : Int)) (b := ((n_long : Nat) : Int)) (.tmp rfl rfl) (.tmp rfl rfl)) ?_
    refine c_nil ?_
    refine n_then ?_
    rcases Bool.eq_false_or_eq_true (decide ((((n_long : Nat) : Int) : Int) < ((n19 : Nat) : Int))) with hc22 | hc22
    · have hp22 : (((n_long : Nat) : Int) : Int) < ((n19 : Nat) : Int) := of_decide_eq_true hc22
      refine c_cond_t (t := true) (.tmp rfl (congrArg Value.bool hc22)) rfl ?_
      refine c_region ?_
      refine st (v := .slice A18 n19 c20) (x_move (.tmp rfl rfl)) ?_
      refine st (v := .slice A18 n19 c20) (x_assign (.tmp rfl rfl)) ?_
      refine c_nil ?_
      refine n_block ?_
      refine n_then ?_
      refine c_region ?_
      refine st (v := .int .i64 (((i + 1) : Nat) : Int)) (x_add (k := .i64) (a := ((i : Nat) : Int)) (b := 1) (.tmp rfl hρ7) .const ((w64 (by omega) (by omega)).trans (by omega))) ?_
      refine st (v := .int .i64 (((i + 1) : Nat) : Int)) (x_move (.tmp rfl rfl)) ?_
      refine c_nil ?_
      refine n_then ⟨_, _, rfl, ?_, (i + 1), A18, n19, c20, e10, hρ2, hρ3, rfl, hρ5, hρ6, rfl, hl21, (by omega), (by rw [longTo_next hx14, ← hl]; unfold longStep; rw [if_pos (by omega)]), hs8, rfl⟩
      omega
    · have hp22 : ¬ ((((n_long : Nat) : Int) : Int) < ((n19 : Nat) : Int)) := of_decide_eq_false hc22
      refine c_cond_f (t := false) (.tmp rfl (congrArg Value.bool hc22)) rfl ?_
      refine c_skip ?_
      refine n_block ?_
      refine n_then ?_
      refine c_region ?_
      refine st (v := .int .i64 (((i + 1) : Nat) : Int)) (x_add (k := .i64) (a := ((i : Nat) : Int)) (b := 1) (.tmp rfl hρ7) .const ((w64 (by omega) (by omega)).trans (by omega))) ?_
      refine st (v := .int .i64 (((i + 1) : Nat) : Int)) (x_move (.tmp rfl rfl)) ?_
      refine c_nil ?_
      refine n_then ⟨_, _, rfl, ?_, (i + 1), A_long, n_long, k_long, long, hρ2, hρ3, hρ4, hρ5, hρ6, rfl, sp_long, (by omega), (by rw [longTo_next hx14, ← hl]; unfold longStep; rw [if_neg (by omega)]), hs8, rfl⟩
      omega
  · have hp9 : ¬ ((((i : Nat) : Int) : Int) < ((n_del : Nat) : Int)) := of_decide_eq_false hc9
    refine c_cond_f (t := false) (.tmp rfl (congrArg Value.bool hc9)) rfl ?_
    refine c_exit ?_
    refine x_then ?_
    refine x_then ?_
    refine x_here ?_
    refine n_then ?_
    refine c_seq ?_
    refine c_seq ?_
    refine c_region ?_
    have hL : long = longS del := by rw [hl]; unfold longS; rw [show i = del.length by omega]
    refine st (v := .slice A_del n_del c_del) (x_move (.tmp rfl hρ3)) ?_
    refine st (v := .int .i64 ((n_del : Nat) : Int)) (x_len (n := n_del) Tryd.underlying23 (.tmp rfl rfl)) ?_
    refine st (v := .int .i64 0) (x_move .const) ?_
    refine c_nil ?_
    refine n_then ?_
    refine c_block ?_
    refine c_loop (fun ρ w mm => ∃ (q : Nat), ρ 0 = .slice A_acc n_acc c_acc ∧ ρ 6 = .slice A_long n_long k_long ∧ ρ 27 = .slice A_del n_del c_del ∧ ρ 28 = .int .i64 ((n_del : Nat) : Int) ∧ ρ 29 = .int .i64 ((q : Nat) : Int) ∧ (q ≤ n_del) ∧ (∀ (j : Nat) (y : List GItem), j < q → del[j]? = some y → decide (y = long.take y.length) = true) ∧ St H w (L) ∧ mm = n_del - q) _ ⟨0, hρ2, hρ4, rfl, rfl, rfl, (by omega), (fun j y h _ => absurd h (Nat.not_lt_zero _)), hs8, rfl⟩ ?_
    rintro ρ w mm ⟨q, hρ24, hρ25, hρ26, hρ27, hρ28, hq, ha, hs29, rfl⟩
    refine c_seq ?_
    refine c_region ?_
    refine st (v := .bool (decide ((((q : Nat) : Int) : Int) < ((n_del : Nat) : Int)))) (x_lss (k := .i64) (a := ((q : Nat) : Int)) (b := ((n_del : Nat) : Int)) (.tmp rfl hρ28) (.tmp rfl hρ27)) ?_
    refine c_nil ?_
    refine n_then ?_
    refine c_seq ?_
    rcases Bool.eq_false_or_eq_true (decide ((((q : Nat) : Int) : Int) < ((n_del : Nat) : Int))) with hc30 | hc30
    · have hp30 : (((q : Nat) : Int) : Int) < ((n_del : Nat) : Int) := of_decide_eq_true hc30
      refine c_cond_t (t := true) (.tmp rfl (congrArg Value.bool hc30)) rfl ?_
      refine c_skip ?_
      refine n_then ?_
      refine c_seq ?_
      refine c_block ?_
      refine c_seq ?_
      refine c_region ?_
      obtain ⟨e31, b32, o33, cs34, hx35, hA36, hr37, hat38⟩ := h_del.get (i := q) (by omega)
      obtain ⟨A39, n40, c41, rfl, hl42⟩ := hr37
      have := hl42.len; have : n40 * 32 ≤ 140737488351232 := hl42.bnd; have := hl42.le
      have hat38x : ∀ {w : World} {L : List Res}, St H w L → At w ⟨b32, o33 + q * 1, none⟩ [.slice A39 n40 c41] := fun h => hat38 h
      have hge := long_ge hx35
      rw [← hL] at hge
      refine st (v := .pointer (some ⟨b32, (o33 + q * 1), none⟩)) (ixo23 (.tmp rfl hρ26) hA36 (i := ((q : Nat) : Int)) (.tmp rfl hρ28) (by omega) (by omega) (by omega)) ?_
      refine st (v := .slice A39 n40 c41) (ld25 (.tmp rfl rfl) ((hat38x hs29).cell 0 rfl)) ?_
      refine st (v := .slice A39 n40 c41) (x_assign (.tmp rfl rfl)) ?_
      refine c_nil ?_
      refine n_then ?_
      refine c_seq ?_
      refine c_region ?_
      refine st (v := .slice A39 n40 c41) (x_move (.tmp rfl rfl)) ?_
      refine st (v := .slice A_long n_long k_long) (x_move (.tmp rfl hρ25)) ?_
      refine st (v := .slice A39 n40 c41) (x_move (.tmp rfl rfl)) ?_
      refine st (v := .int .i64 ((n40 : Nat) : Int)) (x_len (n := n40) Tryd.underlying25 (.tmp rfl rfl)) ?_
      refine st (v := .slice A_long n40 k_long) (sl_h (d := kItem) Tryd.underlying25 inf34 (a := ((n40 : Nat) : Int)) (.tmp rfl rfl) (.tmp rfl rfl) (by omega) (by omega)) ?_
      refine st_c cb19 .func (evs3 (.tmp rfl rfl) (.tmp rfl rfl) .func) (equalfunc_item hs29 e31 hl42 (long.take n40) (sp_long.take (k := n40) (by omega)) (fun (y0 : GItem) (y1 : GItem) => (decide (y0 = y1))) cb20 (fun {_} {_} hs y0 {_} h0 y1 {_} h1 => same_item hs y0 h0 y1 h1 ) ) ?_
      rintro e w43 ⟨rfl, hs44⟩
      refine ⟨_, rfl, ?_⟩
      refine st (v := .bool (!(eqF (fun (y0 : GItem) (y1 : GItem) => (decide (y0 = y1))) e31 (long.take n40)))) (x_not (.tmp rfl rfl)) ?_
      refine c_nil ?_
      refine n_then ?_
      rcases Bool.eq_false_or_eq_true (eqF (fun (y0 : GItem) (y1 : GItem) => (decide (y0 = y1))) e31 (long.take n40)) with hc45 | hc45
      · refine c_cond_f (t := false) (.tmp rfl (congrArg Value.bool (by rw [hc45]; rfl))) rfl ?_
        refine c_skip ?_
        refine n_block ?_
        refine n_then ?_
        refine c_region ?_
        refine st (v := .int .i64 (((q + 1) : Nat) : Int)) (x_add (k := .i64) (a := ((q : Nat) : Int)) (b := 1) (.tmp rfl hρ28) .const ((w64 (by omega) (by omega)).trans (by omega))) ?_
        refine st (v := .int .i64 (((q + 1) : Nat) : Int)) (x_move (.tmp rfl rfl)) ?_
        refine c_nil ?_
        refine n_then ⟨_, _, rfl, ?_, (q + 1), hρ24, hρ25, hρ26, hρ27, rfl, (by omega), (next_all ha hx35 (by have h9 := hc45; rw [eqF_dec, show n40 = e31.length by omega] at h9; exact h9)), hs44, rfl⟩
        omega
      · refine c_cond_t (t := true) (.tmp rfl (congrArg Value.bool (by rw [hc45]; rfl))) rfl ?_
        refine c_seq ?_
        refine c_region ?_
        refine st (v := .slice none 0 0) (x_assign .const) ?_
        refine st (v := .bool false) (x_assign .const) ?_
        refine c_nil ?_
        refine n_then ?_
        refine c_ret ?_
        refine r_block ?_
        refine r_then ?_
        refine r_then ?_
        refine r_block ?_
        refine r_then ?_
        refine leave_ret (res_two (v := .slice none 0 0) (u := .bool false) rfl (.mk rfl rfl) (.mk rfl rfl)) ?_
        have hans46 : totS acc del = ([], false) := totS_no1 (by rw [← hL]; exact preS_no hx35 (of_decide_eq_false (by have h9 := hc45; rw [eqF_dec, show n40 = e31.length by omega] at h9; exact h9)))
        rw [hans46]
        have hs47 : St H _ (row 34 2 (.slice none 0 0) (([] : List GItem).length) [] :: L) := hs44.krowNil 34 kItem
        exact ⟨(.slice none 0 0), [], rfl, (RowOk.knil kItem), (Kn.rows_nil _ _), hs47⟩
    · have hp30 : ¬ ((((q : Nat) : Int) : Int) < ((n_del : Nat) : Int)) := of_decide_eq_false hc30
      refine c_cond_f (t := false) (.tmp rfl (congrArg Value.bool hc30)) rfl ?_
      refine c_exit ?_
      refine x_then ?_
      refine x_then ?_
      refine x_here ?_
      refine n_then ?_
      refine c_seq ?_
      refine c_region ?_
      refine st (v := .slice A_acc n_acc c_acc) (x_move (.tmp rfl hρ24)) ?_
      refine st (v := .int .i64 ((n_acc : Nat) : Int)) (x_len (n := n_acc) Tryd.underlying22 (.tmp rfl rfl)) ?_
      have hr55 : kI.rep H 0 [.int .i64 0] := ⟨rfl, (show IB 0 from ⟨by omega, by omega⟩)⟩
      refine st_m (m_makeK (d := kI) (y0 := 0) (i := ((n_acc : Nat) : Int)) Tryd.underlying31 inf3 hr55 hs29 (.tmp rfl rfl) (.tmp rfl rfl) (by omega) (by omega) (by decide)) ?_
      rintro v49 w50 ⟨cs51, ok52, hk53, hs54⟩
      have hn57 : (List.replicate n_acc (0 : Int)).length = n_acc := by simp
      refine st (v := v49) (x_assign (.tmp rfl rfl)) ?_
      refine c_nil ?_
      refine n_then ?_
      refine c_seq ?_
      refine c_seq ?_
      refine c_region ?_
      refine st (v := .slice A_long n_long k_long) (x_move (.tmp rfl hρ25)) ?_
      refine st (v := .int .i64 ((n_long : Nat) : Int)) (x_len (n := n_long) Tryd.underlying25 (.tmp rfl rfl)) ?_
      refine st (v := .int .i64 0) (x_move .const) ?_
      refine c_nil ?_
      refine n_then ?_
      refine c_block ?_
      refine c_loop (fun ρ w mm => ∃ (k : Nat) (at_ : List Int) (v_at_ : Value) (c_at_ : List Value), ρ 0 = .slice A_acc n_acc c_acc ∧ ρ 6 = .slice A_long n_long k_long ∧ ρ 11 = v_at_ ∧ ρ 44 = .slice A_long n_long k_long ∧ ρ 45 = .int .i64 ((n_long : Nat) : Int) ∧ ρ 46 = .int .i64 ((k : Nat) : Int) ∧ (RowOk kI.sz v_at_ at_.length c_at_) ∧ (kI.toKn.rows H at_ c_at_) ∧ (k ≤ n_long) ∧ (at_ = cntL n_acc (long.take k)) ∧ (∀ j, j < k → okAt acc long j = true) ∧ St H w (row 3 1 v_at_ at_.length c_at_ :: L) ∧ mm = n_long - k) _ ⟨0, (List.replicate n_acc (0 : Int)), v49, cs51, hρ24, hρ25, rfl, rfl, rfl, rfl, ok52, hk53, (by omega), (by rw [List.take_zero]; exact (cntL_nil _).symm), (fun j h => absurd h (Nat.not_lt_zero _)), hs54, rfl⟩ ?_
      rintro ρ w mm ⟨k, at_, v_at_, c_at_, hρ60, hρ61, hρ62, hρ63, hρ64, hρ65, ok_at_, hk_at_, hk, hat, hok, hs66, rfl⟩
      refine c_seq ?_
      refine c_region ?_
      refine st (v := .bool (decide ((((k : Nat) : Int) : Int) < ((n_long : Nat) : Int)))) (x_lss (k := .i64) (a := ((k : Nat) : Int)) (b := ((n_long : Nat) : Int)) (.tmp rfl hρ65) (.tmp rfl hρ64)) ?_
      refine c_nil ?_
      refine n_then ?_
      refine c_seq ?_
      rcases Bool.eq_false_or_eq_true (decide ((((k : Nat) : Int) : Int) < ((n_long : Nat) : Int))) with hc67 | hc67
      · have hp67 : (((k : Nat) : Int) : Int) < ((n_long : Nat) : Int) := of_decide_eq_true hc67
        refine c_cond_t (t := true) (.tmp rfl (congrArg Value.bool hc67)) rfl ?_
        refine c_skip ?_
        refine n_then ?_
        refine c_seq ?_
        refine c_block ?_
        refine c_seq ?_
        refine c_region ?_
        have hlb : n_long * 32 ≤ 140737488351232 := sp_long.bnd
        have hal : at_.length = n_acc := by rw [hat]; exact cntL_len _ _
        obtain ⟨e68, b69, o70, cs71, hx72, hA73, hr74, hat75⟩ := sp_long.get (i := k) (by omega)
        obtain ⟨A78, n79, c80, rfl, ⟨b76, b77⟩, hy81⟩ := hr74
        have := hy81.len; have := hy81.bnd; have := hy81.le
        have hat75x : ∀ {w : World} {L : List Res}, St H w L → At w ⟨b69, o70 + k * 2, none⟩ [.int .i64 e68.From, .slice A78 n79 c80] := fun h => hat75 h
        refine st (v := .pointer (some ⟨b69, (o70 + k * 2), none⟩)) (ixo25 (.tmp rfl hρ63) hA73 (i := ((k : Nat) : Int)) (.tmp rfl hρ65) (by omega) (by omega) (by omega)) ?_
        refine st (v := .agg #[.int .i64 e68.From, .slice A78 n79 c80]) (ld34 (cs := [.int .i64 e68.From, .slice A78 n79 c80]) (.tmp rfl rfl) ((hat75x hs66).sub 0 rfl) rfl) ?_
        refine st_m (al34 (cs := [.int .i64 0, .slice none 0 0]) hs66 rfl) ?_
        rintro _ w83 ⟨g82, rfl, hs85⟩
        refine st_m0 (sto34 (cs' := [.int .i64 e68.From, .slice A78 n79 c80]) (i := 0) hs85 (v := .agg #[.int .i64 e68.From, .slice A78 n79 c80]) (.tmp rfl rfl) (.tmp rfl rfl) rfl (Nat.le_of_ble_eq_true rfl) (oneA rfl) rfl) ?_
        rintro w86 hs88
        refine c_nil ?_
        refine n_then ?_
        refine c_seq ?_
        refine c_seq ?_
        refine q_region mixed hs88 (by kernel_rfl) ?_
        refine q_st (v := .pointer (some ⟨g82, 0 + 0, none⟩)) (fun w hs => (fa34_0 (.tmp rfl rfl))) ?_
        refine q_st (v := .int .i64 e68.From) (fun w hs => (ld3 (.tmp rfl rfl) (hs.cell 0 rfl (0 + 0) rfl))) ?_
        refine q_st (v := .bool (decide ((e68.From : Int) < 0))) (fun w hs => (x_lss (k := .i64) (a := e68.From) (b := 0) (.tmp rfl rfl) .const)) ?_
        refine q_st (v := .bool (decide ((e68.From : Int) < 0))) (fun w hs => (x_move (.tmp rfl rfl))) ?_
        rcases Bool.eq_false_or_eq_true (decide ((e68.From : Int) < 0)) with hc89 | hc89
        · have hp89 : (e68.From : Int) < 0 := of_decide_eq_true hc89
          refine q_no (yl (dj := 53) (b := true) rfl rfl (congrArg Value.bool hc89)) rfl ?_
          refine q_no (yl (dj := 53) (b := true) rfl rfl (congrArg Value.bool hc89)) rfl ?_
          refine q_no (yl (dj := 53) (b := true) rfl rfl (congrArg Value.bool hc89)) rfl ?_
          refine q_no (yl (dj := 53) (b := true) rfl rfl (congrArg Value.bool hc89)) rfl ?_
          refine q_no (yl (dj := 53) (b := true) rfl rfl (congrArg Value.bool hc89)) rfl ?_
          refine q_st (v := .bool true) (fun w hs => (x_pick_t (.tmp rfl (congrArg Value.bool hc89)) .const)) ?_
          refine q_st (v := .bool true) (fun w hs => (x_move (.tmp rfl rfl))) ?_
          refine q_no (yl (dj := 60) (b := true) rfl rfl rfl) rfl ?_
          refine q_no (yl (dj := 60) (b := true) rfl rfl rfl) rfl ?_
          refine q_no (yl (dj := 60) (b := true) rfl rfl rfl) rfl ?_
          refine q_no (yl (dj := 60) (b := true) rfl rfl rfl) rfl ?_
          refine q_no (yl (dj := 60) (b := true) rfl rfl rfl) rfl ?_
          refine q_no (yl (dj := 60) (b := true) rfl rfl rfl) rfl ?_
          refine q_no (yl (dj := 60) (b := true) rfl rfl rfl) rfl ?_
          refine q_no (yl (dj := 60) (b := true) rfl rfl rfl) rfl ?_
          refine q_no (yl (dj := 60) (b := true) rfl rfl rfl) rfl ?_
          refine q_no (yl (dj := 60) (b := true) rfl rfl rfl) rfl ?_
          refine q_no (yl (dj := 60) (b := true) rfl rfl rfl) rfl ?_
          refine q_no (yl (dj := 60) (b := true) rfl rfl rfl) rfl ?_
          refine q_st (v := .bool true) (fun w hs => (x_pick_t (.tmp rfl rfl) .const)) ?_
          refine q_st (v := .bool true) (fun w hs => (x_move (.tmp rfl rfl))) ?_
          refine q_no (yl (dj := 74) (b := true) rfl rfl rfl) rfl ?_
          refine q_no (yl (dj := 74) (b := true) rfl rfl rfl) rfl ?_
          refine q_no (yl (dj := 74) (b := true) rfl rfl rfl) rfl ?_
          refine q_no (yl (dj := 74) (b := true) rfl rfl rfl) rfl ?_
          refine q_no (yl (dj := 74) (b := true) rfl rfl rfl) rfl ?_
          refine q_no (yl (dj := 74) (b := true) rfl rfl rfl) rfl ?_
          refine q_no (yl (dj := 74) (b := true) rfl rfl rfl) rfl ?_
          refine q_no (yl (dj := 74) (b := true) rfl rfl rfl) rfl ?_
          refine q_no (yl (dj := 74) (b := true) rfl rfl rfl) rfl ?_
          refine q_no (yl (dj := 74) (b := true) rfl rfl rfl) rfl ?_
          refine q_no (yl (dj := 74) (b := true) rfl rfl rfl) rfl ?_
          refine q_no (yl (dj := 74) (b := true) rfl rfl rfl) rfl ?_
          refine q_no (yl (dj := 74) (b := true) rfl rfl rfl) rfl ?_
          refine q_no (yl (dj := 74) (b := true) rfl rfl rfl) rfl ?_
          refine q_no (yl (dj := 74) (b := true) rfl rfl rfl) rfl ?_
          refine q_no (yl (dj := 74) (b := true) rfl rfl rfl) rfl ?_
          refine q_st (v := .bool true) (fun w hs => (x_pick_t (.tmp rfl rfl) .const)) ?_
          refine q_nil ?_
          intro w hs90
          refine n_then ?_
          refine c_cond_t (t := true) (.tmp rfl rfl) rfl ?_
          refine c_seq ?_
          refine c_region ?_
          refine st (v := .slice none 0 0) (x_assign .const) ?_
          refine st (v := .bool false) (x_assign .const) ?_
          refine c_nil ?_
          refine n_then ?_
          refine c_ret ?_
          refine r_then ?_
          refine r_block ?_
          refine r_then ?_
          refine r_then ?_
          refine r_block ?_
          refine r_then ?_
          refine leave_ret (res_two (v := .slice none 0 0) (u := .bool false) rfl (.mk rfl rfl) (.mk rfl rfl)) ?_
          have hans91 : totS acc del = ([], false) := totS_no2 (by rw [← hL]; exact okAll_no (j := k) (by omega) (okAt_from hx72 (by omega)))
          rw [hans91]
          have hs92 : St H _ (row 34 2 (.slice none 0 0) (([] : List GItem).length) [] :: obj g82 34 [.int .i64 e68.From, .slice A78 n79 c80] :: row 3 1 v_at_ at_.length c_at_ :: L) := hs90.krowNil 34 kItem
          exact ⟨(.slice none 0 0), [], rfl, (RowOk.knil kItem), (Kn.rows_nil _ _), ((hs92.pick 1 rfl rfl).drop.pick 1 rfl rfl).drop⟩
        · have hp89 : ¬ ((e68.From : Int) < 0) := of_decide_eq_false hc89
          refine q_yes (yl (dj := 53) (b := false) rfl rfl (congrArg Value.bool hc89)) ?_
          refine q_st (v := .pointer (some ⟨g82, 0 + 0, none⟩)) (fun w hs => (fa34_0 (.tmp rfl rfl))) ?_
          refine q_yes (yl (dj := 53) (b := false) rfl rfl (congrArg Value.bool hc89)) ?_
          refine q_st (v := .int .i64 e68.From) (fun w hs => (ld3 (.tmp rfl rfl) (hs.cell 0 rfl (0 + 0) rfl))) ?_
          refine q_yes (yl (dj := 53) (b := false) rfl rfl (congrArg Value.bool hc89)) ?_
          refine q_st (v := .slice A_acc n_acc c_acc) (fun w hs => (x_move (.tmp rfl hρ60))) ?_
          refine q_yes (yl (dj := 53) (b := false) rfl rfl (congrArg Value.bool hc89)) ?_
          refine q_st (v := .int .i64 ((n_acc : Nat) : Int)) (fun w hs => (x_len (n := n_acc) Tryd.underlying22 (.tmp rfl rfl))) ?_
          refine q_yes (yl (dj := 53) (b := false) rfl rfl (congrArg Value.bool hc89)) ?_
          refine q_st (v := .bool (decide ((((n_acc : Nat) : Int) : Int) ≤ e68.From))) (fun w hs => (x_geq (k := .i64) (a := e68.From) (b := ((n_acc : Nat) : Int)) (.tmp rfl rfl) (.tmp rfl rfl))) ?_
          refine q_st (v := .bool (decide ((((n_acc : Nat) : Int) : Int) ≤ e68.From))) (fun w hs => (x_pick_f (.tmp rfl (congrArg Value.bool hc89)) (.tmp rfl rfl))) ?_
          refine q_st (v := .bool (decide ((((n_acc : Nat) : Int) : Int) ≤ e68.From))) (fun w hs => (x_move (.tmp rfl rfl))) ?_
          rcases Bool.eq_false_or_eq_true (decide ((((n_acc : Nat) : Int) : Int) ≤ e68.From)) with hc94 | hc94
          · have hp94 : (((n_acc : Nat) : Int) : Int) ≤ e68.From := of_decide_eq_true hc94
            refine q_no (yl (dj := 60) (b := true) rfl rfl (congrArg Value.bool hc94)) rfl ?_
            refine q_no (yl (dj := 60) (b := true) rfl rfl (congrArg Value.bool hc94)) rfl ?_
            refine q_no (yl (dj := 60) (b := true) rfl rfl (congrArg Value.bool hc94)) rfl ?_
            refine q_no (yl (dj := 60) (b := true) rfl rfl (congrArg Value.bool hc94)) rfl ?_
            refine q_no (yl (dj := 60) (b := true) rfl rfl (congrArg Value.bool hc94)) rfl ?_
            refine q_no (yl (dj := 60) (b := true) rfl rfl (congrArg Value.bool hc94)) rfl ?_
            refine q_no (yl (dj := 60) (b := true) rfl rfl (congrArg Value.bool hc94)) rfl ?_
            refine q_no (yl (dj := 60) (b := true) rfl rfl (congrArg Value.bool hc94)) rfl ?_
            refine q_no (yl (dj := 60) (b := true) rfl rfl (congrArg Value.bool hc94)) rfl ?_
            refine q_no (yl (dj := 60) (b := true) rfl rfl (congrArg Value.bool hc94)) rfl ?_
            refine q_no (yl (dj := 60) (b := true) rfl rfl (congrArg Value.bool hc94)) rfl ?_
            refine q_no (yl (dj := 60) (b := true) rfl rfl (congrArg Value.bool hc94)) rfl ?_
            refine q_st (v := .bool true) (fun w hs => (x_pick_t (.tmp rfl (congrArg Value.bool hc94)) .const)) ?_
            refine q_st (v := .bool true) (fun w hs => (x_move (.tmp rfl rfl))) ?_
            refine q_no (yl (dj := 74) (b := true) rfl rfl rfl) rfl ?_
            refine q_no (yl (dj := 74) (b := true) rfl rfl rfl) rfl ?_
            refine q_no (yl (dj := 74) (b := true) rfl rfl rfl) rfl ?_
            refine q_no (yl (dj := 74) (b := true) rfl rfl rfl) rfl ?_
            refine q_no (yl (dj := 74) (b := true) rfl rfl rfl) rfl ?_
            refine q_no (yl (dj := 74) (b := true) rfl rfl rfl) rfl ?_
            refine q_no (yl (dj := 74) (b := true) rfl rfl rfl) rfl ?_
            refine q_no (yl (dj := 74) (b := true) rfl rfl rfl) rfl ?_
            refine q_no (yl (dj := 74) (b := true) rfl rfl rfl) rfl ?_
            refine q_no (yl (dj := 74) (b := true) rfl rfl rfl) rfl ?_
            refine q_no (yl (dj := 74) (b := true) rfl rfl rfl) rfl ?_
            refine q_no (yl (dj := 74) (b := true) rfl rfl rfl) rfl ?_
            refine q_no (yl (dj := 74) (b := true) rfl rfl rfl) rfl ?_
            refine q_no (yl (dj := 74) (b := true) rfl rfl rfl) rfl ?_
            refine q_no (yl (dj := 74) (b := true) rfl rfl rfl) rfl ?_
            refine q_no (yl (dj := 74) (b := true) rfl rfl rfl) rfl ?_
            refine q_st (v := .bool true) (fun w hs => (x_pick_t (.tmp rfl rfl) .const)) ?_
            refine q_nil ?_
            intro w hs95
            refine n_then ?_
            refine c_cond_t (t := true) (.tmp rfl rfl) rfl ?_
            refine c_seq ?_
            refine c_region ?_
            refine st (v := .slice none 0 0) (x_assign .const) ?_
            refine st (v := .bool false) (x_assign .const) ?_
            refine c_nil ?_
            refine n_then ?_
            refine c_ret ?_
            refine r_then ?_
            refine r_block ?_
            refine r_then ?_
            refine r_then ?_
            refine r_block ?_
            refine r_then ?_
            refine leave_ret (res_two (v := .slice none 0 0) (u := .bool false) rfl (.mk rfl rfl) (.mk rfl rfl)) ?_
            have hans96 : totS acc del = ([], false) := totS_no2 (by rw [← hL]; exact okAll_no (j := k) (by omega) (okAt_from hx72 (by omega)))
            rw [hans96]
            have hs97 : St H _ (row 34 2 (.slice none 0 0) (([] : List GItem).length) [] :: obj g82 34 [.int .i64 e68.From, .slice A78 n79 c80] :: row 3 1 v_at_ at_.length c_at_ :: L) := hs95.krowNil 34 kItem
            exact ⟨(.slice none 0 0), [], rfl, (RowOk.knil kItem), (Kn.rows_nil _ _), ((hs97.pick 1 rfl rfl).drop.pick 1 rfl rfl).drop⟩
          · have hp94 : ¬ ((((n_acc : Nat) : Int) : Int) ≤ e68.From) := of_decide_eq_false hc94
            refine q_yes (yl (dj := 60) (b := false) rfl rfl (congrArg Value.bool hc94)) ?_
            refine q_st (v := v_at_) (fun w hs => (x_move (.tmp rfl hρ62))) ?_
            refine q_yes (yl (dj := 60) (b := false) rfl rfl (congrArg Value.bool hc94)) ?_
            refine q_st (v := .pointer (some ⟨g82, 0 + 0, none⟩)) (fun w hs => (fa34_0 (.tmp rfl rfl))) ?_
            refine q_yes (yl (dj := 60) (b := false) rfl rfl (congrArg Value.bool hc94)) ?_
            refine q_st (v := .int .i64 e68.From) (fun w hs => (ld3 (.tmp rfl rfl) (hs.cell 0 rfl (0 + 0) rfl))) ?_
            refine q_yes (yl (dj := 60) (b := false) rfl rfl (congrArg Value.bool hc94)) ?_
            obtain ⟨g99, c100, hv101⟩ := ok_at_.pos (by omega)
            obtain ⟨e102, cs103, hx104, hr105, hsub106⟩ := Kn.rows_get (i := e68.From.toNat) hk_at_ (by omega)
            obtain ⟨rfl, ⟨b107, b108⟩⟩ := hr105
            have hcz : e102 = ((cntI (long.take k) ((e68.From.toNat : Nat) : Int) : Nat) : Int) := (cntL_at (n := n_acc) (by have h9 := hx104; rw [hat] at h9; exact h9)).2
            have hfx : e68.From = ((e68.From.toNat : Nat) : Int) := by omega
            refine q_st (v := .pointer (some ⟨g99, (e68.From.toNat * 1), none⟩)) (fun w hs => (ixo31 (.tmp rfl hv101) rfl (i := e68.From) (.tmp rfl rfl) (by omega) (by omega) (by omega))) ?_
            refine q_yes (yl (dj := 60) (b := false) rfl rfl (congrArg Value.bool hc94)) ?_
            refine q_st (v := .int .i64 e102) (fun w hs => (ld3 (.tmp rfl rfl) ((hs.rowAt 1 rfl hv101 (e68.From.toNat * 1) hsub106).cell 0 rfl))) ?_
            refine q_yes (yl (dj := 60) (b := false) rfl rfl (congrArg Value.bool hc94)) ?_
            refine q_st (v := .slice A_acc n_acc c_acc) (fun w hs => (x_move (.tmp rfl hρ60))) ?_
            refine q_yes (yl (dj := 60) (b := false) rfl rfl (congrArg Value.bool hc94)) ?_
            refine q_st (v := .pointer (some ⟨g82, 0 + 0, none⟩)) (fun w hs => (fa34_0 (.tmp rfl rfl))) ?_
            refine q_yes (yl (dj := 60) (b := false) rfl rfl (congrArg Value.bool hc94)) ?_
            refine q_st (v := .int .i64 e68.From) (fun w hs => (ld3 (.tmp rfl rfl) (hs.cell 0 rfl (0 + 0) rfl))) ?_
            refine q_yes (yl (dj := 60) (b := false) rfl rfl (congrArg Value.bool hc94)) ?_
            obtain ⟨e109, b110, o111, cs112, hx113, hA114, hr115, hat116⟩ := h_acc.get (i := e68.From.toNat) (by omega)
            obtain ⟨A117, n118, c119, rfl, hl120⟩ := hr115
            have := hl120.len; have : n118 * 24 ≤ 140737488351232 := hl120.bnd; have := hl120.le
            have hat116x : ∀ {w : World} {L : List Res}, St H w L → At w ⟨b110, o111 + e68.From.toNat * 1, none⟩ [.slice A117 n118 c119] := fun h => hat116 h
            refine q_st (v := .pointer (some ⟨b110, (o111 + e68.From.toNat * 1), none⟩)) (fun w hs => (ixo22 (.tmp rfl rfl) hA114 (i := e68.From) (.tmp rfl rfl) (by omega) (by omega) (by omega))) ?_
            refine q_yes (yl (dj := 60) (b := false) rfl rfl (congrArg Value.bool hc94)) ?_
            refine q_st (v := .slice A117 n118 c119) (fun w hs => (ld32 (.tmp rfl rfl) ((hat116x hs).cell 0 rfl))) ?_
            refine q_yes (yl (dj := 60) (b := false) rfl rfl (congrArg Value.bool hc94)) ?_
            refine q_st (v := .int .i64 ((n118 : Nat) : Int)) (fun w hs => (x_len (n := n118) Tryd.underlying32 (.tmp rfl rfl))) ?_
            refine q_yes (yl (dj := 60) (b := false) rfl rfl (congrArg Value.bool hc94)) ?_
            refine q_st (v := .bool (decide ((((n118 : Nat) : Int) : Int) ≤ e102))) (fun w hs => (x_geq (k := .i64) (a := e102) (b := ((n118 : Nat) : Int)) (.tmp rfl rfl) (.tmp rfl rfl))) ?_
            refine q_st (v := .bool (decide ((((n118 : Nat) : Int) : Int) ≤ e102))) (fun w hs => (x_pick_f (.tmp rfl (congrArg Value.bool hc94)) (.tmp rfl rfl))) ?_
            refine q_st (v := .bool (decide ((((n118 : Nat) : Int) : Int) ≤ e102))) (fun w hs => (x_move (.tmp rfl rfl))) ?_
            rcases Bool.eq_false_or_eq_true (decide ((((n118 : Nat) : Int) : Int) ≤ e102)) with hc121 | hc121
            · have hp121 : (((n118 : Nat) : Int) : Int) ≤ e102 := of_decide_eq_true hc121
              refine q_no (yl (dj := 74) (b := true) rfl rfl (congrArg Value.bool hc121)) rfl ?_
              refine q_no (yl (dj := 74) (b := true) rfl rfl (congrArg Value.bool hc121)) rfl ?_
              refine q_no (yl (dj := 74) (b := true) rfl rfl (congrArg Value.bool hc121)) rfl ?_
              refine q_no (yl (dj := 74) (b := true) rfl rfl (congrArg Value.bool hc121)) rfl ?_
              refine q_no (yl (dj := 74) (b := true) rfl rfl (congrArg Value.bool hc121)) rfl ?_
              refine q_no (yl (dj := 74) (b := true) rfl rfl (congrArg Value.bool hc121)) rfl ?_
              refine q_no (yl (dj := 74) (b := true) rfl rfl (congrArg Value.bool hc121)) rfl ?_
              refine q_no (yl (dj := 74) (b := true) rfl rfl (congrArg Value.bool hc121)) rfl ?_
              refine q_no (yl (dj := 74) (b := true) rfl rfl (congrArg Value.bool hc121)) rfl ?_
              refine q_no (yl (dj := 74) (b := true) rfl rfl (congrArg Value.bool hc121)) rfl ?_
              refine q_no (yl (dj := 74) (b := true) rfl rfl (congrArg Value.bool hc121)) rfl ?_
              refine q_no (yl (dj := 74) (b := true) rfl rfl (congrArg Value.bool hc121)) rfl ?_
              refine q_no (yl (dj := 74) (b := true) rfl rfl (congrArg Value.bool hc121)) rfl ?_
              refine q_no (yl (dj := 74) (b := true) rfl rfl (congrArg Value.bool hc121)) rfl ?_
              refine q_no (yl (dj := 74) (b := true) rfl rfl (congrArg Value.bool hc121)) rfl ?_
              refine q_no (yl (dj := 74) (b := true) rfl rfl (congrArg Value.bool hc121)) rfl ?_
              refine q_st (v := .bool true) (fun w hs => (x_pick_t (.tmp rfl (congrArg Value.bool hc121)) .const)) ?_
              refine q_nil ?_
              intro w hs122
              refine n_then ?_
              refine c_cond_t (t := true) (.tmp rfl rfl) rfl ?_
              refine c_seq ?_
              refine c_region ?_
              refine st (v := .slice none 0 0) (x_assign .const) ?_
              refine st (v := .bool false) (x_assign .const) ?_
              refine c_nil ?_
              refine n_then ?_
              refine c_ret ?_
              refine r_then ?_
              refine r_block ?_
              refine r_then ?_
              refine r_then ?_
              refine r_block ?_
              refine r_then ?_
              refine leave_ret (res_two (v := .slice none 0 0) (u := .bool false) rfl (.mk rfl rfl) (.mk rfl rfl)) ?_
              have hans123 : totS acc del = ([], false) := totS_no2 (by rw [← hL]; exact okAll_no (j := k) (by omega) (okAt_out hx72 hfx hx113 (c := e102.toNat) (by omega) (by omega)))
              rw [hans123]
              have hs124 : St H _ (row 34 2 (.slice none 0 0) (([] : List GItem).length) [] :: obj g82 34 [.int .i64 e68.From, .slice A78 n79 c80] :: row 3 1 v_at_ at_.length c_at_ :: L) := hs122.krowNil 34 kItem
              exact ⟨(.slice none 0 0), [], rfl, (RowOk.knil kItem), (Kn.rows_nil _ _), ((hs124.pick 1 rfl rfl).drop.pick 1 rfl rfl).drop⟩
            · have hp121 : ¬ ((((n118 : Nat) : Int) : Int) ≤ e102) := of_decide_eq_false hc121
              refine q_yes (yl (dj := 74) (b := false) rfl rfl (congrArg Value.bool hc121)) ?_
              refine q_st (v := .slice A_acc n_acc c_acc) (fun w hs => (x_move (.tmp rfl hρ60))) ?_
              refine q_yes (yl (dj := 74) (b := false) rfl rfl (congrArg Value.bool hc121)) ?_
              refine q_st (v := .pointer (some ⟨g82, 0 + 0, none⟩)) (fun w hs => (fa34_0 (.tmp rfl rfl))) ?_
              refine q_yes (yl (dj := 74) (b := false) rfl rfl (congrArg Value.bool hc121)) ?_
              refine q_st (v := .int .i64 e68.From) (fun w hs => (ld3 (.tmp rfl rfl) (hs.cell 0 rfl (0 + 0) rfl))) ?_
              refine q_yes (yl (dj := 74) (b := false) rfl rfl (congrArg Value.bool hc121)) ?_
              refine q_st (v := .pointer (some ⟨b110, (o111 + e68.From.toNat * 1), none⟩)) (fun w hs => (ixo22 (.tmp rfl rfl) hA114 (i := e68.From) (.tmp rfl rfl) (by omega) (by omega) (by omega))) ?_
              refine q_yes (yl (dj := 74) (b := false) rfl rfl (congrArg Value.bool hc121)) ?_
              refine q_st (v := .slice A117 n118 c119) (fun w hs => (ld32 (.tmp rfl rfl) ((hat116x hs).cell 0 rfl))) ?_
              refine q_yes (yl (dj := 74) (b := false) rfl rfl (congrArg Value.bool hc121)) ?_
              refine q_st (v := v_at_) (fun w hs => (x_move (.tmp rfl hρ62))) ?_
              refine q_yes (yl (dj := 74) (b := false) rfl rfl (congrArg Value.bool hc121)) ?_
              refine q_st (v := .pointer (some ⟨g82, 0 + 0, none⟩)) (fun w hs => (fa34_0 (.tmp rfl rfl))) ?_
              refine q_yes (yl (dj := 74) (b := false) rfl rfl (congrArg Value.bool hc121)) ?_
              refine q_st (v := .int .i64 e68.From) (fun w hs => (ld3 (.tmp rfl rfl) (hs.cell 0 rfl (0 + 0) rfl))) ?_
              refine q_yes (yl (dj := 74) (b := false) rfl rfl (congrArg Value.bool hc121)) ?_
              obtain ⟨g126, c127, hv128⟩ := ok_at_.pos (by omega)
              refine q_st (v := .pointer (some ⟨g126, (e68.From.toNat * 1), none⟩)) (fun w hs => (ixo31 (.tmp rfl hv128) rfl (i := e68.From) (.tmp rfl rfl) (by omega) (by omega) (by omega))) ?_
              refine q_yes (yl (dj := 74) (b := false) rfl rfl (congrArg Value.bool hc121)) ?_
              refine q_st (v := .int .i64 e102) (fun w hs => (ld3 (.tmp rfl rfl) ((hs.rowAt 1 rfl hv128 (e68.From.toNat * 1) hsub106).cell 0 rfl))) ?_
              refine q_yes (yl (dj := 74) (b := false) rfl rfl (congrArg Value.bool hc121)) ?_
              obtain ⟨e129, b130, o131, cs132, hx133, hA134, hr135, hat136⟩ := hl120.get (i := e102.toNat) (by omega)
              obtain ⟨A137, n138, c139, rfl, hy140⟩ := hr135
              have := hy140.len; have := hy140.bnd; have := hy140.le
              have hat136x : ∀ {w : World} {L : List Res}, St H w L → At w ⟨b130, o131 + e102.toNat * 1, none⟩ [.slice A137 n138 c139] := fun h => hat136 h
              refine q_st (v := .pointer (some ⟨b130, (o131 + e102.toNat * 1), none⟩)) (fun w hs => (ixo32 (.tmp rfl rfl) hA134 (i := e102) (.tmp rfl rfl) (by omega) (by omega) (by omega))) ?_
              refine q_yes (yl (dj := 74) (b := false) rfl rfl (congrArg Value.bool hc121)) ?_
              refine q_st (v := .slice A137 n138 c139) (fun w hs => (ld30 (.tmp rfl rfl) ((hat136x hs).cell 0 rfl))) ?_
              refine q_yes (yl (dj := 74) (b := false) rfl rfl (congrArg Value.bool hc121)) ?_
              refine q_st (v := .pointer (some ⟨g82, 0 + 1, none⟩)) (fun w hs => (fa34_1 (.tmp rfl rfl))) ?_
              refine q_yes (yl (dj := 74) (b := false) rfl rfl (congrArg Value.bool hc121)) ?_
              refine q_st (v := .slice A78 n79 c80) (fun w hs => (ld30 (.tmp rfl rfl) (hs.cell 0 rfl (0 + 1) rfl))) ?_
              refine q_yes (yl (dj := 74) (b := false) rfl rfl (congrArg Value.bool hc121)) ?_
              refine q_c (v := .bool (decide (e129 = e68.M))) cb21 .func (evs2 (.tmp rfl rfl) (.tmp rfl rfl)) (fun w hs => bequal_spec hs e129 hy140 e68.M hy81 ) ?_
              refine q_yes (yl (dj := 74) (b := false) rfl rfl (congrArg Value.bool hc121)) ?_
              refine q_st (v := .bool (!(decide (e129 = e68.M)))) (fun w hs => (x_not (.tmp rfl rfl))) ?_
              refine q_st (v := .bool (!(decide (e129 = e68.M)))) (fun w hs => (x_pick_f (.tmp rfl (congrArg Value.bool hc121)) (.tmp rfl rfl))) ?_
              refine q_nil ?_
              intro w hs141
              refine n_then ?_
              rcases Bool.eq_false_or_eq_true (decide (e129 = e68.M)) with hc142 | hc142
              · refine c_cond_f (t := false) (.tmp rfl (congrArg Value.bool (by rw [hc142]; rfl))) rfl ?_
                refine c_skip ?_
                refine n_then ?_
                refine c_region ?_
                refine st (v := v_at_) (x_move (.tmp rfl hρ62)) ?_
                refine st (v := .pointer (some ⟨g82, 0 + 0, none⟩)) (fa34_0 (.tmp rfl rfl)) ?_
                refine st (v := .int .i64 e68.From) (ld3 (.tmp rfl rfl) (hs141.cell 0 rfl (0 + 0) rfl)) ?_
                obtain ⟨g143, c144, hv145⟩ := ok_at_.pos (by omega)
                refine st (v := .pointer (some ⟨g143, (e68.From.toNat * 1), none⟩)) (ixo31 (.tmp rfl hv145) rfl (i := e68.From) (.tmp rfl rfl) (by omega) (by omega) (by omega)) ?_
                refine st (v := .int .i64 e102) (ld3 (.tmp rfl rfl) ((hs141.rowAt 1 rfl hv145 (e68.From.toNat * 1) hsub106).cell 0 rfl)) ?_
                refine st (v := .int .i64 (e102 + 1)) (x_add (k := .i64) (a := e102) (b := 1) (.tmp rfl rfl) .const (w64 (by omega) (by omega))) ?_
                obtain ⟨g146, c147, hv148⟩ := ok_at_.pos (by omega)
                refine st (v := .pointer (some ⟨g146, (e68.From.toNat * 1), none⟩)) (ixo31 (.tmp rfl hv148) rfl (i := e68.From) (.tmp rfl rfl) (by omega) (by omega) (by omega)) ?_
                have hs149 : St H _ (row 3 1 v_at_ at_.length c_at_ :: obj g82 34 [.int .i64 e68.From, .slice A78 n79 c80] :: L) := hs141.pick 1 rfl rfl
                have hl155 : e68.From.toNat * 1 + 1 ≤ c_at_.length := by have h1 := (hk_at_).1; have h2 : kI.sz = 1 := rfl; rw [h2] at h1; omega
                have hr154 : kI.rep H (e102 + 1) [.int .i64 (e102 + 1)] := ⟨rfl, (show IB (e102 + 1) from ⟨by omega, by omega⟩)⟩
                refine st_m0 (stor3 hs149 hv148 (i := (e68.From.toNat * 1)) (xs' := splice c_at_ (e68.From.toNat * 1) [.int .i64 (e102 + 1)]) (.tmp rfl rfl) (u := .int .i64 (e102 + 1)) (.tmp rfl rfl) rfl (by omega) one1 rfl) ?_
                rintro w150 hs151
                have hk153 := Kn.rows_set (d := kI.toKn) hk_at_ (i := e68.From.toNat) (by omega) hr154
                have ok152 := ok_at_.splice (i := e68.From.toNat * 1) (vs := [.int .i64 (e102 + 1)]) (by simpa using hl155)
                have hn156 : (at_.set e68.From.toNat (e102 + 1)).length = at_.length := List.length_set
                have ok157 : RowOk kI.sz v_at_ (at_.set e68.From.toNat (e102 + 1)).length (splice c_at_ (e68.From.toNat * 1) [.int .i64 (e102 + 1)]) := by rw [hn156]; exact ok152
                have hs158 : St H w150 (row 3 1 v_at_ ((at_.set e68.From.toNat (e102 + 1)).length) (splice c_at_ (e68.From.toNat * 1) [.int .i64 (e102 + 1)]) :: obj g82 34 [.int .i64 e68.From, .slice A78 n79 c80] :: L) := by rw [hn156]; exact hs151
                refine c_nil ?_
                refine n_block ?_
                refine n_then ?_
                refine c_region ?_
                refine st (v := .int .i64 (((k + 1) : Nat) : Int)) (x_add (k := .i64) (a := ((k : Nat) : Int)) (b := 1) (.tmp rfl hρ65) .const ((w64 (by omega) (by omega)).trans (by omega))) ?_
                refine st (v := .int .i64 (((k + 1) : Nat) : Int)) (x_move (.tmp rfl rfl)) ?_
                refine c_nil ?_
                refine n_then ⟨_, _, rfl, ?_, (k + 1), (at_.set e68.From.toNat (e102 + 1)), v_at_, (splice c_at_ (e68.From.toNat * 1) [.int .i64 (e102 + 1)]), hρ60, hρ61, hρ62, hρ63, hρ64, rfl, ok157, hk153, (by omega), (by rw [take_next hx72, cntL_next (m := e68.From.toNat) hfx (by omega), ← hat, ← hcz]), (okto_next hok (okAt_yes hx72 hfx hx113 (by omega) hx133 (of_decide_eq_true hc142))), (hs158.pick 1 rfl rfl).drop, rfl⟩
                omega
              · refine c_cond_t (t := true) (.tmp rfl (congrArg Value.bool (by rw [hc142]; rfl))) rfl ?_
                refine c_seq ?_
                refine c_region ?_
                refine st (v := .slice none 0 0) (x_assign .const) ?_
                refine st (v := .bool false) (x_assign .const) ?_
                refine c_nil ?_
                refine n_then ?_
                refine c_ret ?_
                refine r_then ?_
                refine r_block ?_
                refine r_then ?_
                refine r_then ?_
                refine r_block ?_
                refine r_then ?_
                refine leave_ret (res_two (v := .slice none 0 0) (u := .bool false) rfl (.mk rfl rfl) (.mk rfl rfl)) ?_
                have hans159 : totS acc del = ([], false) := totS_no2 (by rw [← hL]; exact okAll_no (j := k) (by omega) (okAt_ne hx72 hfx hx113 (c := e102.toNat) (by omega) hx133 (of_decide_eq_false hc142)))
                rw [hans159]
                have hs160 : St H _ (row 34 2 (.slice none 0 0) (([] : List GItem).length) [] :: obj g82 34 [.int .i64 e68.From, .slice A78 n79 c80] :: row 3 1 v_at_ at_.length c_at_ :: L) := hs141.krowNil 34 kItem
                exact ⟨(.slice none 0 0), [], rfl, (RowOk.knil kItem), (Kn.rows_nil _ _), ((hs160.pick 1 rfl rfl).drop.pick 1 rfl rfl).drop⟩
      · have hp67 : ¬ ((((k : Nat) : Int) : Int) < ((n_long : Nat) : Int)) := of_decide_eq_false hc67
        refine c_cond_f (t := false) (.tmp rfl (congrArg Value.bool hc67)) rfl ?_
        refine c_exit ?_
        refine x_then ?_
        refine x_then ?_
        refine x_here ?_
        refine n_then ?_
        refine c_seq ?_
        refine c_region ?_
        refine st (v := .slice A_long n_long k_long) (x_move (.tmp rfl hρ61)) ?_
        refine st_c cb22 .func (evs1 (.tmp rfl rfl)) (clone_item hs66 long sp_long ) ?_
        rintro e w162 ⟨v164, cs167, rfl, ok165, hk168, hs163⟩
        have := sp_long.len
        refine ⟨_, rfl, ?_⟩
        refine st (v := v164) (x_assign (.tmp rfl rfl)) ?_
        refine st (v := .bool true) (x_assign .const) ?_
        refine c_nil ?_
        refine n_then ?_
        refine c_ret ?_
        refine leave_ret (res_two (v := v164) (u := .bool true) rfl (.mk rfl rfl) (.mk rfl rfl)) ?_
        have hans169 : totS acc del = (long, true) := (totS_yes (by rw [← hL]; exact preS_end ha (by omega)) (by rw [← hL]; exact okAll_end hok (by omega))).trans (by rw [← hL])
        rw [hans169]
        exact ⟨v164, cs167, rfl, ok165, hk168, (hs163.pick 1 rfl rfl).drop⟩

end Go.Proofs.YtnikcgcbkdeeeaaDoor
