/- Steps of the proofs over the functions of this seat, printed by a program (gen.py) and checked by Lean. -/
import Derived.Test.YtmjgphaobdplcaaUty
import Derived.Test.YtmjgphaobdplcaaFmM2
import Derived.Test.YtmjgphaobdplcaaFmS2
import Derived.Test.YtmjgphaobdplcaaFmG
import Derived.Test.YtmjgphaobdplcaaFmP
import Derived.Test.YtmjgphaobdplcaaFmM2c
import Derived.Test.YtmjgphaobdplcaaU2h
import Derived.Test.YtmjgphaobdplcaaFmRd
set_option linter.unusedVariables false
set_option linter.unusedSimpArgs false
namespace Go.Proofs.Ytmjgphaobdplcaa
open Go Go.FM Go.Proofs
attribute [local irreducible] wpList wpQuiet wpS Code.wp Calls
set_option maxHeartbeats 8000000 in
theorem codeReads_spec {H : Hp} {w : World} {L : List Res} (hs : St H w (L)) {A_p : Option Addr} {n_p c_p : Nat} (p : List Nat) (h_p : By H A_p n_p c_p p) {A_asks : Option Addr} {n_asks c_asks : Nat} (asks : (List GAsk)) (h_asks : Sl kAsk H A_asks n_asks c_asks asks) : Calls Try.prog 8 #[.slice A_p n_p c_p, .slice A_asks n_asks c_asks] w (fun e w' => e = .returned (.bool true) ∧ St H w' (L)) := by
  have := h_p.len; have := h_p.le; have := h_p.bnd
  have := h_asks.len; have := h_asks.le; have : n_asks * 16 ≤ 140737488351232 := h_asks.bnd
  refine enter (args := [.slice A_p n_p c_p, .slice A_asks n_asks c_asks]) (N := 79) Try.func8 rfl rfl rfl ?_
  refine c_seq ?_
  refine c_region ?_
  refine st (v := .bool false) (x_assign .const) ?_
  refine c_nil ?_
  refine n_then ?_
  refine c_seq ?_
  refine c_seq ?_
  refine c_region ?_
  refine st_c cb9 .func (evs0 ) (awake_spec hs) ?_
  rintro e w1 ⟨rfl, hs2⟩
  refine ⟨_, rfl, ?_⟩
  refine st (v := .bool false) (x_not (b := true) (.tmp rfl rfl)) ?_
  refine c_nil ?_
  refine n_then ?_
  refine c_cond_f (t := false) (.tmp rfl rfl) rfl ?_
  refine c_skip ?_
  refine n_then ?_
  refine c_seq ?_
  refine c_region ?_
  refine st (v := .slice A_p n_p c_p) (x_move (.tmp rfl rfl)) ?_
  refine st_c cb17 .func (evs1 (.tmp rfl rfl)) (newReader_spec hs2) ?_
  rintro e w4 ⟨g3, rfl, hs5⟩
  refine ⟨_, rfl, ?_⟩
  refine st (v := .pointer (some ⟨g3, 0, none⟩)) (x_assign (.tmp rfl rfl)) ?_
  refine c_nil ?_
  refine n_then ?_
  refine c_seq ?_
  refine c_region ?_
  refine st (v := .slice A_p n_p c_p) (x_move (.tmp rfl rfl)) ?_
  refine st (v := .agg #[.slice A_p n_p c_p, .int .i64 0]) (bl50 (ps := [(0, .slice A_p n_p c_p)]) (.cons (.tmp rfl rfl) Evp.nil) rfl) ?_
  refine st_m (m_box (cs := [.slice A_p n_p c_p, .int .i64 0]) hs5 (v := .agg #[.slice A_p n_p c_p, .int .i64 0]) (.tmp rfl rfl) rfl) ?_
  rintro _ w7 ⟨g6, rfl, hs9⟩
  refine st (v := .pointer (some ⟨g6, 0, none⟩)) (x_assign (.tmp rfl rfl)) ?_
  refine c_nil ?_
  refine n_then ?_
  refine c_seq ?_
  refine c_seq ?_
  refine c_region ?_
  refine st (v := .int .i64 0) (x_assign .const) ?_
  refine c_nil ?_
  refine n_then ?_
  refine c_block ?_
  have ha0 : atOf n_p p false = 0 := by rw [atOf_false]; omega
  refine c_loop (fun ρ w mm => ∃ (i : Nat) (A2 : Option Addr) (n2 : Nat) (c2 : Nat) (cur : List Nat) (bad : Bool), ρ 1 = .slice A_asks n_asks c_asks ∧ ρ 5 = .pointer (some ⟨g3, 0, none⟩) ∧ ρ 6 = .pointer (some ⟨g6, 0, none⟩) ∧ ρ 7 = .int .i64 ((i : Nat) : Int) ∧ (i ≤ n_asks) ∧ (Bs H A2 n2 c2 cur) ∧ (Suf p cur) ∧ St H w (obj g3 58 [.slice A2 n2 c2, .bool bad] :: obj g6 50 [.slice A_p n_p c_p, .int .i64 (atOf n_p cur bad)] :: L) ∧ mm = n_asks - i) _ ⟨0, A_p, n_p, c_p, p, false, rfl, rfl, rfl, rfl, (by omega), h_p.toBs, (Suf.refl p), (by rw [ha0]; exact (hs9.pick 1 rfl rfl)), rfl⟩ ?_
  rintro ρ w mm ⟨i, A2, n2, c2, cur, bad, hρ11, hρ12, hρ13, hρ14, hi, hp2, hsuf, hs15, rfl⟩
  refine c_seq ?_
  refine c_seq ?_
  refine c_region ?_
  refine st (v := .int .i64 ((i : Nat) : Int)) (x_move (.tmp rfl hρ14)) ?_
  refine st (v := .slice A_asks n_asks c_asks) (x_move (.tmp rfl hρ11)) ?_
  refine st (v := .int .i64 ((n_asks : Nat) : Int)) (x_len (n := n_asks) Try.underlying47 (.tmp rfl rfl)) ?_
  refine st (v := .bool (decide ((((i : Nat) : Int) : Int) < ((n_asks : Nat) : Int)))) (x_lss (k := .i64) (a := ((i : Nat) : Int)) (b := ((n_asks : Nat) : Int)) (.tmp rfl rfl) (.tmp rfl rfl)) ?_
  refine st (v := .bool (decide ((((i : Nat) : Int) : Int) < ((n_asks : Nat) : Int)))) (x_move (.tmp rfl rfl)) ?_
  rcases Bool.eq_false_or_eq_true (decide ((((i : Nat) : Int) : Int) < ((n_asks : Nat) : Int))) with hc16 | hc16
  · have hp16 : (((i : Nat) : Int) : Int) < ((n_asks : Nat) : Int) := of_decide_eq_true hc16
    refine g_yes (yl (dj := 20) (b := true) rfl rfl (congrArg Value.bool hc16)) ?_
    refine st (v := .int .i64 ((i : Nat) : Int)) (x_move (.tmp rfl hρ14)) ?_
    refine g_yes (yl (dj := 20) (b := true) rfl rfl (congrArg Value.bool hc16)) ?_
    refine st (v := .bool (decide ((((i : Nat) : Int) : Int) < 50))) (x_lss (k := .i64) (a := ((i : Nat) : Int)) (b := 50) (.tmp rfl rfl) .const) ?_
    refine st (v := .bool (decide ((((i : Nat) : Int) : Int) < 50))) (x_pick_t (.tmp rfl (congrArg Value.bool hc16)) (.tmp rfl rfl)) ?_
    refine c_nil ?_
    refine n_then ?_
    rcases Bool.eq_false_or_eq_true (decide ((((i : Nat) : Int) : Int) < 50)) with hc17 | hc17
    · have hp17 : (((i : Nat) : Int) : Int) < 50 := of_decide_eq_true hc17
      refine c_cond_t (t := true) (.tmp rfl (congrArg Value.bool hc17)) rfl ?_
      refine c_skip ?_
      refine n_then ?_
      refine c_seq ?_
      refine c_block ?_
      refine c_seq ?_
      refine c_region ?_
      have hcl := hp2.len; have hsl := hsuf.len
      refine st (v := .slice A_asks n_asks c_asks) (x_move (.tmp rfl hρ11)) ?_
      refine st (v := .int .i64 ((i : Nat) : Int)) (x_move (.tmp rfl hρ14)) ?_
      obtain ⟨e18, b19, o20, cs21, hx22, hA23, hr24, hat25⟩ := h_asks.get (i := i) (by omega)
      obtain ⟨rfl, b26, ⟨b27, b28⟩⟩ := hr24
      have hat25x : ∀ {w : World} {L : List Res}, St H w L → At w ⟨b19, o20 + i * 2, none⟩ [.int .u8 ((e18.Kind : Nat) : Int), .int .i64 e18.Most] := fun h => hat25 h
      refine st (v := .pointer (some ⟨b19, (o20 + i * 2), none⟩)) (ixo47 (.tmp rfl rfl) hA23 (i := ((i : Nat) : Int)) (.tmp rfl rfl) (by omega) (by omega) (by omega)) ?_
      refine st (v := .agg #[.int .u8 ((e18.Kind : Nat) : Int), .int .i64 e18.Most]) (ld52 (cs := [.int .u8 ((e18.Kind : Nat) : Int), .int .i64 e18.Most]) (.tmp rfl rfl) ((hat25x hs15).sub 0 rfl) rfl) ?_
      refine st_m (al52 (cs := [.int .u8 0, .int .i64 0]) hs15 rfl) ?_
      rintro _ w30 ⟨g29, rfl, hs32⟩
      refine st_m0 (sto52 (cs' := [.int .u8 ((e18.Kind : Nat) : Int), .int .i64 e18.Most]) (i := 0) hs32 (v := .agg #[.int .u8 ((e18.Kind : Nat) : Int), .int .i64 e18.Most]) (.tmp rfl rfl) (.tmp rfl rfl) rfl (Nat.le_of_ble_eq_true rfl) (oneA rfl) rfl) ?_
      rintro w33 hs35
      refine c_nil ?_
      refine n_then ?_
      refine c_seq ?_
      refine c_seq ?_
      refine c_region ?_
      refine st (v := .pointer (some ⟨g29, 0 + 0, none⟩)) (fa52_0 (.tmp rfl rfl)) ?_
      refine st (v := .int .u8 ((e18.Kind : Nat) : Int)) (ld5 (.tmp rfl rfl) (hs35.cell 0 rfl (0 + 0) rfl)) ?_
      refine st (v := .int .u8 (((e18.Kind % 4) : Nat) : Int)) (x_remN (k := .u8) (m := e18.Kind) (n := 4) (.tmp rfl rfl) .const (by omega)) ?_
      refine c_nil ?_
      refine n_then ?_
      refine c_block ?_
      refine c_seq ?_
      refine c_region ?_
      refine st (v := .bool (decide (((((e18.Kind % 4) : Nat) : Int) : Int) = 0))) (x_eql (k := .u8) (a := (((e18.Kind % 4) : Nat) : Int)) (b := 0) (.tmp rfl rfl) .const) ?_
      refine st (v := .bool (decide (((((e18.Kind % 4) : Nat) : Int) : Int) = 0))) (x_assign (.tmp rfl rfl)) ?_
      refine c_nil ?_
      refine n_then ?_
      rcases Bool.eq_false_or_eq_true (decide (((((e18.Kind % 4) : Nat) : Int) : Int) = 0)) with hc36 | hc36
      · have hp36 : ((((e18.Kind % 4) : Nat) : Int) : Int) = 0 := of_decide_eq_true hc36
        refine c_cond_t (t := true) (.tmp rfl (congrArg Value.bool hc36)) rfl ?_
        refine c_seq ?_
        refine c_region ?_
        refine st (v := .pointer (some ⟨g3, 0, none⟩)) (x_move (.tmp rfl hρ12)) ?_
        have hs37 : St H _ (obj g3 58 [.slice A2 n2 c2, .bool bad] :: obj g29 52 [.int .u8 ((e18.Kind : Nat) : Int), .int .i64 e18.Most] :: obj g6 50 [.slice A_p n_p c_p, .int .i64 (atOf n_p cur bad)] :: L) := hs35.pick 1 rfl rfl
        refine st_c cb18 .func (evs1 (.tmp rfl rfl)) (uint_own hp2 bad hs37) ?_
        rintro e w41 ⟨A38, n39, c40, rfl, hp42, hs43⟩
        refine ⟨_, rfl, ?_⟩
        refine st (v := .pointer (some ⟨g6, 0, none⟩)) (x_move (.tmp rfl hρ13)) ?_
        have hs44 : St H _ (obj g6 50 [.slice A_p n_p c_p, .int .i64 (atOf n_p cur bad)] :: obj g3 58 [.slice A38 n39 c40, .bool ((rdU cur bad).2.2)] :: obj g29 52 [.int .u8 ((e18.Kind : Nat) : Int), .int .i64 e18.Most] :: L) := hs43.pick 2 rfl rfl
        refine st_c cb23 .func (evs1 (.tmp rfl rfl)) (ruint_own hs44 h_p.toBs (hsuf) (by omega)) ?_
        rintro e w45 ⟨rfl, hs46⟩
        refine ⟨_, rfl, ?_⟩
        refine st (v := .bool (decide (((((rdU cur bad).1 : Nat) : Int) : Int) ≠ (((rdU cur bad).1 : Nat) : Int)))) (x_neq (k := .u64) (a := (((rdU cur bad).1 : Nat) : Int)) (b := (((rdU cur bad).1 : Nat) : Int)) (.tmp rfl rfl) (.tmp rfl rfl)) ?_
        refine c_nil ?_
        refine n_then ?_
        refine c_cond_f (t := false) (.tmp rfl (congrArg Value.bool (show (decide (((((rdU cur bad).1 : Nat) : Int) : Int) ≠ (((rdU cur bad).1 : Nat) : Int))) = false from by simp))) rfl ?_
        refine c_skip ?_
        refine n_block ?_
        refine n_then ?_
        refine c_seq ?_
        refine s_region (L := obj g6 50 [.slice A_p n_p c_p, .int .i64 (atOf n_p (rdU cur bad).2.1 (rdU cur bad).2.2)] :: obj g3 58 [.slice A38 n39 c40, .bool ((rdU cur bad).2.2)] :: obj g29 52 [.int .u8 ((e18.Kind : Nat) : Int), .int .i64 e18.Most] :: L) (L' := obj g6 50 [.slice A_p n_p c_p, .int .i64 (atOf n_p (rdU cur bad).2.1 (rdU cur bad).2.2)] :: obj g3 58 [.slice A38 n39 c40, .bool ((rdU cur bad).2.2)] :: obj g29 52 [.int .u8 ((e18.Kind : Nat) : Int), .int .i64 e18.Most] :: L) none [(0, true), (2, true), (1, false), (3, false), (4, true), (5, true), (6, true), (8, true), (9, true), (10, true), (11, true), (12, true), (7, false), (13, true), (14, true)] mixed hs46 (fun u hu => hu) (by kernel_rfl) ?_
        intro w47 hs48
        have hl9 := hp42.len; have hs8 := (hsuf.rdU bad).len; have ha9 := atOf_neg' (n := n_p) (cur := (rdU cur bad).2.1) (bad := (rdU cur bad).2.2) (by omega)
        refine s_st (k := 0) (v := .pointer (some ⟨g3, 0, none⟩)) rfl (fun w hs => (x_move (.tmp rfl hρ12))) ?_
        refine s_st (k := 2) (v := .pointer (some ⟨g6, 0, none⟩)) rfl (fun w hs => (x_move (.tmp rfl hρ13))) ?_
        refine s_eff (k := 1) rfl ?_
        have hs49 : St H _ (obj g3 58 [.slice A38 n39 c40, .bool ((rdU cur bad).2.2)] :: obj g6 50 [.slice A_p n_p c_p, .int .i64 (atOf n_p (rdU cur bad).2.1 (rdU cur bad).2.2)] :: obj g29 52 [.int .u8 ((e18.Kind : Nat) : Int), .int .i64 e18.Most] :: L) := hs48.pick 1 rfl rfl
        refine st_c cb20 .func (evs1 (.tmp rfl rfl)) (left_own (b := ((rdU cur bad).2.2)) hs49) ?_
        rintro e w50 ⟨rfl, hs51⟩
        refine ⟨_, rfl, ?_⟩
        refine s_on (S' := fun u => St H u (obj g3 58 [.slice A38 n39 c40, .bool ((rdU cur bad).2.2)] :: obj g6 50 [.slice A_p n_p c_p, .int .i64 (atOf n_p (rdU cur bad).2.1 (rdU cur bad).2.2)] :: obj g29 52 [.int .u8 ((e18.Kind : Nat) : Int), .int .i64 e18.Most] :: L)) (fun u hu => (((hu.pick 2 rfl rfl).pick 1 rfl rfl).pick 2 rfl rfl)) hs51 ?_
        refine s_eff (k := 3) rfl ?_
        have hs52 : St H _ (obj g6 50 [.slice A_p n_p c_p, .int .i64 (atOf n_p (rdU cur bad).2.1 (rdU cur bad).2.2)] :: obj g3 58 [.slice A38 n39 c40, .bool ((rdU cur bad).2.2)] :: obj g29 52 [.int .u8 ((e18.Kind : Nat) : Int), .int .i64 e18.Most] :: L) := hs51.pick 1 rfl rfl
        refine st_c cb26 .func (evs1 (.tmp rfl rfl)) (rleft_own hs52 h_p.toBs (hsuf.rdU bad) (by omega)) ?_
        rintro e w53 ⟨rfl, hs54⟩
        refine ⟨_, rfl, ?_⟩
        refine s_on (S' := fun u => St H u (obj g6 50 [.slice A_p n_p c_p, .int .i64 (atOf n_p (rdU cur bad).2.1 (rdU cur bad).2.2)] :: obj g3 58 [.slice A38 n39 c40, .bool ((rdU cur bad).2.2)] :: obj g29 52 [.int .u8 ((e18.Kind : Nat) : Int), .int .i64 e18.Most] :: L)) (fun u hu => (((hu.pick 2 rfl rfl).pick 1 rfl rfl).pick 2 rfl rfl)) hs54 ?_
        refine s_st (k := 4) (v := .bool (decide (((if ((rdU cur bad).2.2) = true then 0 else ((n39 : Nat) : Int)) : Int) ≠ (if (rdU cur bad).2.2 = true then 0 else ((((rdU cur bad).2.1).length : Nat) : Int))))) rfl (fun w hs => (x_neq (k := .i64) (a := (if ((rdU cur bad).2.2) = true then 0 else ((n39 : Nat) : Int))) (b := (if (rdU cur bad).2.2 = true then 0 else ((((rdU cur bad).2.1).length : Nat) : Int))) (.tmp rfl rfl) (.tmp rfl rfl))) ?_
        refine s_st (k := 5) (v := .bool (decide (((if ((rdU cur bad).2.2) = true then 0 else ((n39 : Nat) : Int)) : Int) ≠ (if (rdU cur bad).2.2 = true then 0 else ((((rdU cur bad).2.1).length : Nat) : Int))))) rfl (fun w hs => (x_move (.tmp rfl rfl))) ?_
        have hc55 : (decide (((if ((rdU cur bad).2.2) = true then 0 else ((n39 : Nat) : Int)) : Int) ≠ (if (rdU cur bad).2.2 = true then 0 else ((((rdU cur bad).2.1).length : Nat) : Int)))) = false := (decide_eq_false (by rw [hl9]; simp))
        refine s_yes (k := 6) (v := .pointer (some ⟨g3, 0, none⟩)) rfl (yl (dj := 69) (b := false) rfl rfl (congrArg Value.bool hc55)) (fun w hs => (x_move (.tmp rfl hρ12))) ?_
        refine s_yes (k := 8) (v := .pointer (some ⟨g6, 0, none⟩)) rfl (yl (dj := 69) (b := false) rfl rfl (congrArg Value.bool hc55)) (fun w hs => (x_move (.tmp rfl hρ13))) ?_
        refine s_yes (k := 9) (v := .pointer (some ⟨g6, 0, none⟩)) rfl (yl (dj := 69) (b := false) rfl rfl (congrArg Value.bool hc55)) (fun w hs => (x_nilCheck (.tmp rfl rfl))) ?_
        refine s_yes (k := 10) (v := .pointer (some ⟨g6, 0 + 1, none⟩)) rfl (yl (dj := 69) (b := false) rfl rfl (congrArg Value.bool hc55)) (fun w hs => (fa50_1 (.tmp rfl rfl))) ?_
        refine s_yes (k := 11) (v := .int .i64 (atOf n_p (rdU cur bad).2.1 (rdU cur bad).2.2)) rfl (yl (dj := 69) (b := false) rfl rfl (congrArg Value.bool hc55)) (fun w hs => (ld3 (.tmp rfl rfl) (hs.cell 0 rfl (0 + 1) rfl))) ?_
        refine s_yes (k := 12) (v := .bool (decide (((atOf n_p (rdU cur bad).2.1 (rdU cur bad).2.2) : Int) < 0))) rfl (yl (dj := 69) (b := false) rfl rfl (congrArg Value.bool hc55)) (fun w hs => (x_lss (k := .i64) (a := (atOf n_p (rdU cur bad).2.1 (rdU cur bad).2.2)) (b := 0) (.tmp rfl rfl) .const)) ?_
        refine s_eff (k := 7) rfl ?_
        refine g_yes (yl (dj := 69) (b := false) rfl rfl (congrArg Value.bool hc55)) ?_
        have hs56 : St H _ (obj g3 58 [.slice A38 n39 c40, .bool ((rdU cur bad).2.2)] :: obj g6 50 [.slice A_p n_p c_p, .int .i64 (atOf n_p (rdU cur bad).2.1 (rdU cur bad).2.2)] :: obj g29 52 [.int .u8 ((e18.Kind : Nat) : Int), .int .i64 e18.Most] :: L) := hs54.pick 1 rfl rfl
        refine st_c cb19 .func (evs1 (.tmp rfl rfl)) (bad_own hs56) ?_
        rintro e w57 ⟨rfl, hs58⟩
        refine ⟨_, rfl, ?_⟩
        refine s_on (S' := fun u => St H u (obj g3 58 [.slice A38 n39 c40, .bool ((rdU cur bad).2.2)] :: obj g6 50 [.slice A_p n_p c_p, .int .i64 (atOf n_p (rdU cur bad).2.1 (rdU cur bad).2.2)] :: obj g29 52 [.int .u8 ((e18.Kind : Nat) : Int), .int .i64 e18.Most] :: L)) (fun u hu => (((hu.pick 2 rfl rfl).pick 1 rfl rfl).pick 2 rfl rfl)) hs58 ?_
        refine s_yes (k := 13) (v := .bool (((rdU cur bad).2.2) != (decide (((atOf n_p (rdU cur bad).2.1 (rdU cur bad).2.2) : Int) < 0)))) rfl (yl (dj := 69) (b := false) rfl rfl (congrArg Value.bool hc55)) (fun w hs => (x_neqB Try.underlying4 (.tmp rfl rfl) (.tmp rfl rfl))) ?_
        refine s_st (k := 14) (v := .bool (((rdU cur bad).2.2) != (decide (((atOf n_p (rdU cur bad).2.1 (rdU cur bad).2.2) : Int) < 0)))) rfl (fun w hs => (x_pick_f (.tmp rfl (congrArg Value.bool hc55)) (.tmp rfl rfl))) ?_
        refine s_nil ?_
        refine n_then ?_
        have hc59 : (((rdU cur bad).2.2) != (decide (((atOf n_p (rdU cur bad).2.1 (rdU cur bad).2.2) : Int) < 0))) = false := (by rw [ha9]; simp)
        refine c_cond_f (t := false) (.tmp rfl (congrArg Value.bool hc59)) rfl ?_
        refine c_skip ?_
        refine n_block ?_
        refine n_then ?_
        refine c_region ?_
        refine st (v := .int .i64 ((i : Nat) : Int)) (x_move (.tmp rfl hρ14)) ?_
        refine st (v := .int .i64 (((i + 1) : Nat) : Int)) (x_add (k := .i64) (a := ((i : Nat) : Int)) (b := 1) (.tmp rfl rfl) .const ((w64 (by omega) (by omega)).trans (by omega))) ?_
        refine st (v := .int .i64 (((i + 1) : Nat) : Int)) (x_assign (.tmp rfl rfl)) ?_
        refine c_nil ?_
        refine n_then ⟨_, _, rfl, ?_, (i + 1), A38, n39, c40, ((rdU cur bad).2.1), ((rdU cur bad).2.2), hρ11, hρ12, hρ13, rfl, (by omega), hp42, hsuf.rdU bad, (((hs58.pick 2 rfl rfl).drop.pick 1 rfl rfl).pick 1 rfl rfl), rfl⟩
        omega
      · have hp36 : ¬ (((((e18.Kind % 4) : Nat) : Int) : Int) = 0) := of_decide_eq_false hc36
        refine c_cond_f (t := false) (.tmp rfl (congrArg Value.bool hc36)) rfl ?_
        refine c_seq ?_
        refine c_region ?_
        refine st (v := .bool (decide (((((e18.Kind % 4) : Nat) : Int) : Int) = 1))) (x_eql (k := .u8) (a := (((e18.Kind % 4) : Nat) : Int)) (b := 1) (.tmp rfl rfl) .const) ?_
        refine st (v := .bool (decide (((((e18.Kind % 4) : Nat) : Int) : Int) = 1))) (x_assign (.tmp rfl rfl)) ?_
        refine c_nil ?_
        refine n_then ?_
        rcases Bool.eq_false_or_eq_true (decide (((((e18.Kind % 4) : Nat) : Int) : Int) = 1)) with hc60 | hc60
        · have hp60 : ((((e18.Kind % 4) : Nat) : Int) : Int) = 1 := of_decide_eq_true hc60
          refine c_cond_t (t := true) (.tmp rfl (congrArg Value.bool hc60)) rfl ?_
          refine c_seq ?_
          refine s_region (L := obj g29 52 [.int .u8 ((e18.Kind : Nat) : Int), .int .i64 e18.Most] :: obj g3 58 [.slice A2 n2 c2, .bool bad] :: obj g6 50 [.slice A_p n_p c_p, .int .i64 (atOf n_p cur bad)] :: L) (L' := obj g29 52 [.int .u8 ((e18.Kind : Nat) : Int), .int .i64 e18.Most] :: L) none [(0, true), (1, true), (2, true), (4, true), (5, true), (6, true), (3, false), (7, false), (8, true)] mixed hs35 (fun u hu => ((hu.pick 1 rfl rfl).drop.pick 1 rfl rfl).drop) (by kernel_rfl) ?_
          intro w61 hs62
          refine s_st (k := 0) (v := .pointer (some ⟨g3, 0, none⟩)) rfl (fun w hs => (x_move (.tmp rfl hρ12))) ?_
          refine s_st (k := 1) (v := .pointer (some ⟨g29, 0 + 1, none⟩)) rfl (fun w hs => (fa52_1 (.tmp rfl rfl))) ?_
          refine s_st (k := 2) (v := .int .i64 e18.Most) rfl (fun w hs => (ld3 (.tmp rfl rfl) (hs.cell 0 rfl (0 + 1) rfl))) ?_
          refine s_st (k := 4) (v := .pointer (some ⟨g6, 0, none⟩)) rfl (fun w hs => (x_move (.tmp rfl hρ13))) ?_
          refine s_st (k := 5) (v := .pointer (some ⟨g29, 0 + 1, none⟩)) rfl (fun w hs => (fa52_1 (.tmp rfl rfl))) ?_
          refine s_st (k := 6) (v := .int .i64 e18.Most) rfl (fun w hs => (ld3 (.tmp rfl rfl) (hs.cell 0 rfl (0 + 1) rfl))) ?_
          refine s_eff (k := 3) rfl ?_
          have hs63 : St H _ (obj g3 58 [.slice A2 n2 c2, .bool bad] :: obj g29 52 [.int .u8 ((e18.Kind : Nat) : Int), .int .i64 e18.Most] :: obj g6 50 [.slice A_p n_p c_p, .int .i64 (atOf n_p cur bad)] :: L) := hs62.pick 1 rfl rfl
          refine st_c cb21 .func (evs2 (.tmp rfl rfl) (.tmp rfl rfl)) (int_own hp2 bad e18.Most (by omega) (by omega) hs63) ?_
          rintro e w67 ⟨A64, n65, c66, rfl, hp68, hs69⟩
          refine ⟨_, rfl, ?_⟩
          refine s_on (S' := fun u => St H u (obj g29 52 [.int .u8 ((e18.Kind : Nat) : Int), .int .i64 e18.Most] :: L)) (fun u hu => hu) (hs69.drop.pick 1 rfl rfl).drop ?_
          refine s_eff (k := 7) rfl ?_
          have hs70 : St H _ (obj g6 50 [.slice A_p n_p c_p, .int .i64 (atOf n_p cur bad)] :: obj g3 58 [.slice A64 n65 c66, .bool ((rdI cur bad e18.Most).2.2)] :: obj g29 52 [.int .u8 ((e18.Kind : Nat) : Int), .int .i64 e18.Most] :: L) := hs69.pick 2 rfl rfl
          refine st_c cb24 .func (evs2 (.tmp rfl rfl) (.tmp rfl rfl)) (rint_own hs70 h_p.toBs (hsuf) (by omega) e18.Most (by omega) (by omega)) ?_
          rintro e w71 ⟨rfl, hs72⟩
          refine ⟨_, rfl, ?_⟩
          have := rdI_le cur bad e18.Most (by omega)
          refine s_on (S' := fun u => St H u (obj g29 52 [.int .u8 ((e18.Kind : Nat) : Int), .int .i64 e18.Most] :: L)) (fun u hu => hu) hs72.drop.drop ?_
          refine s_st (k := 8) (v := .bool (decide (((((rdI cur bad e18.Most).1 : Nat) : Int) : Int) ≠ (((rdI cur bad e18.Most).1 : Nat) : Int)))) rfl (fun w hs => (x_neq (k := .i64) (a := (((rdI cur bad e18.Most).1 : Nat) : Int)) (b := (((rdI cur bad e18.Most).1 : Nat) : Int)) (.tmp rfl rfl) (.tmp rfl rfl))) ?_
          refine s_nil ?_
          refine n_then ?_
          refine c_cond_f (t := false) (.tmp rfl (congrArg Value.bool (show (decide (((((rdI cur bad e18.Most).1 : Nat) : Int) : Int) ≠ (((rdI cur bad e18.Most).1 : Nat) : Int))) = false from by simp))) rfl ?_
          refine c_skip ?_
          refine n_block ?_
          refine n_then ?_
          refine c_seq ?_
          refine s_region (L := obj g6 50 [.slice A_p n_p c_p, .int .i64 (atOf n_p (rdI cur bad e18.Most).2.1 (rdI cur bad e18.Most).2.2)] :: obj g3 58 [.slice A64 n65 c66, .bool ((rdI cur bad e18.Most).2.2)] :: obj g29 52 [.int .u8 ((e18.Kind : Nat) : Int), .int .i64 e18.Most] :: L) (L' := obj g6 50 [.slice A_p n_p c_p, .int .i64 (atOf n_p (rdI cur bad e18.Most).2.1 (rdI cur bad e18.Most).2.2)] :: obj g3 58 [.slice A64 n65 c66, .bool ((rdI cur bad e18.Most).2.2)] :: obj g29 52 [.int .u8 ((e18.Kind : Nat) : Int), .int .i64 e18.Most] :: L) none [(0, true), (2, true), (1, false), (3, false), (4, true), (5, true), (6, true), (8, true), (9, true), (10, true), (11, true), (12, true), (7, false), (13, true), (14, true)] mixed hs72 (fun u hu => hu) (by kernel_rfl) ?_
          intro w73 hs74
          have hl9 := hp68.len; have hs8 := (hsuf.rdI bad e18.Most).len; have ha9 := atOf_neg' (n := n_p) (cur := (rdI cur bad e18.Most).2.1) (bad := (rdI cur bad e18.Most).2.2) (by omega)
          refine s_st (k := 0) (v := .pointer (some ⟨g3, 0, none⟩)) rfl (fun w hs => (x_move (.tmp rfl hρ12))) ?_
          refine s_st (k := 2) (v := .pointer (some ⟨g6, 0, none⟩)) rfl (fun w hs => (x_move (.tmp rfl hρ13))) ?_
          refine s_eff (k := 1) rfl ?_
          have hs75 : St H _ (obj g3 58 [.slice A64 n65 c66, .bool ((rdI cur bad e18.Most).2.2)] :: obj g6 50 [.slice A_p n_p c_p, .int .i64 (atOf n_p (rdI cur bad e18.Most).2.1 (rdI cur bad e18.Most).2.2)] :: obj g29 52 [.int .u8 ((e18.Kind : Nat) : Int), .int .i64 e18.Most] :: L) := hs74.pick 1 rfl rfl
          refine st_c cb20 .func (evs1 (.tmp rfl rfl)) (left_own (b := ((rdI cur bad e18.Most).2.2)) hs75) ?_
          rintro e w76 ⟨rfl, hs77⟩
          refine ⟨_, rfl, ?_⟩
          refine s_on (S' := fun u => St H u (obj g3 58 [.slice A64 n65 c66, .bool ((rdI cur bad e18.Most).2.2)] :: obj g6 50 [.slice A_p n_p c_p, .int .i64 (atOf n_p (rdI cur bad e18.Most).2.1 (rdI cur bad e18.Most).2.2)] :: obj g29 52 [.int .u8 ((e18.Kind : Nat) : Int), .int .i64 e18.Most] :: L)) (fun u hu => (((hu.pick 2 rfl rfl).pick 1 rfl rfl).pick 2 rfl rfl)) hs77 ?_
          refine s_eff (k := 3) rfl ?_
          have hs78 : St H _ (obj g6 50 [.slice A_p n_p c_p, .int .i64 (atOf n_p (rdI cur bad e18.Most).2.1 (rdI cur bad e18.Most).2.2)] :: obj g3 58 [.slice A64 n65 c66, .bool ((rdI cur bad e18.Most).2.2)] :: obj g29 52 [.int .u8 ((e18.Kind : Nat) : Int), .int .i64 e18.Most] :: L) := hs77.pick 1 rfl rfl
          refine st_c cb26 .func (evs1 (.tmp rfl rfl)) (rleft_own hs78 h_p.toBs (hsuf.rdI bad e18.Most) (by omega)) ?_
          rintro e w79 ⟨rfl, hs80⟩
          refine ⟨_, rfl, ?_⟩
          refine s_on (S' := fun u => St H u (obj g6 50 [.slice A_p n_p c_p, .int .i64 (atOf n_p (rdI cur bad e18.Most).2.1 (rdI cur bad e18.Most).2.2)] :: obj g3 58 [.slice A64 n65 c66, .bool ((rdI cur bad e18.Most).2.2)] :: obj g29 52 [.int .u8 ((e18.Kind : Nat) : Int), .int .i64 e18.Most] :: L)) (fun u hu => (((hu.pick 2 rfl rfl).pick 1 rfl rfl).pick 2 rfl rfl)) hs80 ?_
          refine s_st (k := 4) (v := .bool (decide (((if ((rdI cur bad e18.Most).2.2) = true then 0 else ((n65 : Nat) : Int)) : Int) ≠ (if (rdI cur bad e18.Most).2.2 = true then 0 else ((((rdI cur bad e18.Most).2.1).length : Nat) : Int))))) rfl (fun w hs => (x_neq (k := .i64) (a := (if ((rdI cur bad e18.Most).2.2) = true then 0 else ((n65 : Nat) : Int))) (b := (if (rdI cur bad e18.Most).2.2 = true then 0 else ((((rdI cur bad e18.Most).2.1).length : Nat) : Int))) (.tmp rfl rfl) (.tmp rfl rfl))) ?_
          refine s_st (k := 5) (v := .bool (decide (((if ((rdI cur bad e18.Most).2.2) = true then 0 else ((n65 : Nat) : Int)) : Int) ≠ (if (rdI cur bad e18.Most).2.2 = true then 0 else ((((rdI cur bad e18.Most).2.1).length : Nat) : Int))))) rfl (fun w hs => (x_move (.tmp rfl rfl))) ?_
          have hc81 : (decide (((if ((rdI cur bad e18.Most).2.2) = true then 0 else ((n65 : Nat) : Int)) : Int) ≠ (if (rdI cur bad e18.Most).2.2 = true then 0 else ((((rdI cur bad e18.Most).2.1).length : Nat) : Int)))) = false := (decide_eq_false (by rw [hl9]; simp))
          refine s_yes (k := 6) (v := .pointer (some ⟨g3, 0, none⟩)) rfl (yl (dj := 69) (b := false) rfl rfl (congrArg Value.bool hc81)) (fun w hs => (x_move (.tmp rfl hρ12))) ?_
          refine s_yes (k := 8) (v := .pointer (some ⟨g6, 0, none⟩)) rfl (yl (dj := 69) (b := false) rfl rfl (congrArg Value.bool hc81)) (fun w hs => (x_move (.tmp rfl hρ13))) ?_
          refine s_yes (k := 9) (v := .pointer (some ⟨g6, 0, none⟩)) rfl (yl (dj := 69) (b := false) rfl rfl (congrArg Value.bool hc81)) (fun w hs => (x_nilCheck (.tmp rfl rfl))) ?_
          refine s_yes (k := 10) (v := .pointer (some ⟨g6, 0 + 1, none⟩)) rfl (yl (dj := 69) (b := false) rfl rfl (congrArg Value.bool hc81)) (fun w hs => (fa50_1 (.tmp rfl rfl))) ?_
          refine s_yes (k := 11) (v := .int .i64 (atOf n_p (rdI cur bad e18.Most).2.1 (rdI cur bad e18.Most).2.2)) rfl (yl (dj := 69) (b := false) rfl rfl (congrArg Value.bool hc81)) (fun w hs => (ld3 (.tmp rfl rfl) (hs.cell 0 rfl (0 + 1) rfl))) ?_
          refine s_yes (k := 12) (v := .bool (decide (((atOf n_p (rdI cur bad e18.Most).2.1 (rdI cur bad e18.Most).2.2) : Int) < 0))) rfl (yl (dj := 69) (b := false) rfl rfl (congrArg Value.bool hc81)) (fun w hs => (x_lss (k := .i64) (a := (atOf n_p (rdI cur bad e18.Most).2.1 (rdI cur bad e18.Most).2.2)) (b := 0) (.tmp rfl rfl) .const)) ?_
          refine s_eff (k := 7) rfl ?_
          refine g_yes (yl (dj := 69) (b := false) rfl rfl (congrArg Value.bool hc81)) ?_
          have hs82 : St H _ (obj g3 58 [.slice A64 n65 c66, .bool ((rdI cur bad e18.Most).2.2)] :: obj g6 50 [.slice A_p n_p c_p, .int .i64 (atOf n_p (rdI cur bad e18.Most).2.1 (rdI cur bad e18.Most).2.2)] :: obj g29 52 [.int .u8 ((e18.Kind : Nat) : Int), .int .i64 e18.Most] :: L) := hs80.pick 1 rfl rfl
          refine st_c cb19 .func (evs1 (.tmp rfl rfl)) (bad_own hs82) ?_
          rintro e w83 ⟨rfl, hs84⟩
          refine ⟨_, rfl, ?_⟩
          refine s_on (S' := fun u => St H u (obj g3 58 [.slice A64 n65 c66, .bool ((rdI cur bad e18.Most).2.2)] :: obj g6 50 [.slice A_p n_p c_p, .int .i64 (atOf n_p (rdI cur bad e18.Most).2.1 (rdI cur bad e18.Most).2.2)] :: obj g29 52 [.int .u8 ((e18.Kind : Nat) : Int), .int .i64 e18.Most] :: L)) (fun u hu => (((hu.pick 2 rfl rfl).pick 1 rfl rfl).pick 2 rfl rfl)) hs84 ?_
          refine s_yes (k := 13) (v := .bool (((rdI cur bad e18.Most).2.2) != (decide (((atOf n_p (rdI cur bad e18.Most).2.1 (rdI cur bad e18.Most).2.2) : Int) < 0)))) rfl (yl (dj := 69) (b := false) rfl rfl (congrArg Value.bool hc81)) (fun w hs => (x_neqB Try.underlying4 (.tmp rfl rfl) (.tmp rfl rfl))) ?_
          refine s_st (k := 14) (v := .bool (((rdI cur bad e18.Most).2.2) != (decide (((atOf n_p (rdI cur bad e18.Most).2.1 (rdI cur bad e18.Most).2.2) : Int) < 0)))) rfl (fun w hs => (x_pick_f (.tmp rfl (congrArg Value.bool hc81)) (.tmp rfl rfl))) ?_
          refine s_nil ?_
          refine n_then ?_
          have hc85 : (((rdI cur bad e18.Most).2.2) != (decide (((atOf n_p (rdI cur bad e18.Most).2.1 (rdI cur bad e18.Most).2.2) : Int) < 0))) = false := (by rw [ha9]; simp)
          refine c_cond_f (t := false) (.tmp rfl (congrArg Value.bool hc85)) rfl ?_
          refine c_skip ?_
          refine n_block ?_
          refine n_then ?_
          refine c_region ?_
          refine st (v := .int .i64 ((i : Nat) : Int)) (x_move (.tmp rfl hρ14)) ?_
          refine st (v := .int .i64 (((i + 1) : Nat) : Int)) (x_add (k := .i64) (a := ((i : Nat) : Int)) (b := 1) (.tmp rfl rfl) .const ((w64 (by omega) (by omega)).trans (by omega))) ?_
          refine st (v := .int .i64 (((i + 1) : Nat) : Int)) (x_assign (.tmp rfl rfl)) ?_
          refine c_nil ?_
          refine n_then ⟨_, _, rfl, ?_, (i + 1), A64, n65, c66, ((rdI cur bad e18.Most).2.1), ((rdI cur bad e18.Most).2.2), hρ11, hρ12, hρ13, rfl, (by omega), hp68, hsuf.rdI bad e18.Most, (((hs84.pick 2 rfl rfl).drop.pick 1 rfl rfl).pick 1 rfl rfl), rfl⟩
          omega
        · have hp60 : ¬ (((((e18.Kind % 4) : Nat) : Int) : Int) = 1) := of_decide_eq_false hc60
          refine c_cond_f (t := false) (.tmp rfl (congrArg Value.bool hc60)) rfl ?_
          refine c_seq ?_
          refine c_region ?_
          refine st (v := .bool (decide (((((e18.Kind % 4) : Nat) : Int) : Int) = 2))) (x_eql (k := .u8) (a := (((e18.Kind % 4) : Nat) : Int)) (b := 2) (.tmp rfl rfl) .const) ?_
          refine st (v := .bool (decide (((((e18.Kind % 4) : Nat) : Int) : Int) = 2))) (x_assign (.tmp rfl rfl)) ?_
          refine c_nil ?_
          refine n_then ?_
          rcases Bool.eq_false_or_eq_true (decide (((((e18.Kind % 4) : Nat) : Int) : Int) = 2)) with hc86 | hc86
          · have hp86 : ((((e18.Kind % 4) : Nat) : Int) : Int) = 2 := of_decide_eq_true hc86
            refine c_cond_t (t := true) (.tmp rfl (congrArg Value.bool hc86)) rfl ?_
            refine c_seq ?_
            refine s_region (L := obj g29 52 [.int .u8 ((e18.Kind : Nat) : Int), .int .i64 e18.Most] :: obj g3 58 [.slice A2 n2 c2, .bool bad] :: obj g6 50 [.slice A_p n_p c_p, .int .i64 (atOf n_p cur bad)] :: L) (L' := obj g29 52 [.int .u8 ((e18.Kind : Nat) : Int), .int .i64 e18.Most] :: L) none [(0, true), (1, true), (2, true), (5, true), (6, true), (7, true), (3, false), (4, true), (8, false), (9, true), (10, true)] mixed hs35 (fun u hu => ((hu.pick 1 rfl rfl).drop.pick 1 rfl rfl).drop) (by kernel_rfl) ?_
            intro w87 hs88
            refine s_st (k := 0) (v := .pointer (some ⟨g3, 0, none⟩)) rfl (fun w hs => (x_move (.tmp rfl hρ12))) ?_
            refine s_st (k := 1) (v := .pointer (some ⟨g29, 0 + 1, none⟩)) rfl (fun w hs => (fa52_1 (.tmp rfl rfl))) ?_
            refine s_st (k := 2) (v := .int .i64 e18.Most) rfl (fun w hs => (ld3 (.tmp rfl rfl) (hs.cell 0 rfl (0 + 1) rfl))) ?_
            refine s_st (k := 5) (v := .pointer (some ⟨g6, 0, none⟩)) rfl (fun w hs => (x_move (.tmp rfl hρ13))) ?_
            refine s_st (k := 6) (v := .pointer (some ⟨g29, 0 + 1, none⟩)) rfl (fun w hs => (fa52_1 (.tmp rfl rfl))) ?_
            refine s_st (k := 7) (v := .int .i64 e18.Most) rfl (fun w hs => (ld3 (.tmp rfl rfl) (hs.cell 0 rfl (0 + 1) rfl))) ?_
            refine s_eff (k := 3) rfl ?_
            have hs89 : St H _ (obj g3 58 [.slice A2 n2 c2, .bool bad] :: obj g29 52 [.int .u8 ((e18.Kind : Nat) : Int), .int .i64 e18.Most] :: obj g6 50 [.slice A_p n_p c_p, .int .i64 (atOf n_p cur bad)] :: L) := hs88.pick 1 rfl rfl
            refine st_c cb22 .func (evs2 (.tmp rfl rfl) (.tmp rfl rfl)) (bytes_own hp2 (by omega) bad e18.Most (by omega) (by omega) hs89) ?_
            rintro e w93 ⟨v96, A90, n91, c92, rfl, ok97, hp94, hs95⟩
            refine ⟨_, rfl, ?_⟩
            refine s_on (S' := fun u => St H u (row 5 1 v96 ((rdB cur bad e18.Most).1.length) (((rdB cur bad e18.Most).1).map encB) :: obj g29 52 [.int .u8 ((e18.Kind : Nat) : Int), .int .i64 e18.Most] :: L)) (fun u hu => hu.drop) ((hs95.pick 1 rfl rfl).drop.pick 2 rfl rfl).drop ?_
            refine s_st (k := 4) (v := .string (bstr ((rdB cur bad e18.Most).1))) rfl (fun w hs => (hs.rowStr Try.underlying22 Try.underlying5 Try.underlying9 0 rfl ok97 (.tmp rfl rfl))) ?_
            refine s_eff (k := 8) rfl ?_
            have hs99 : St H _ (obj g6 50 [.slice A_p n_p c_p, .int .i64 (atOf n_p cur bad)] :: row 5 1 v96 ((rdB cur bad e18.Most).1.length) (((rdB cur bad e18.Most).1).map encB) :: obj g3 58 [.slice A90 n91 c92, .bool ((rdB cur bad e18.Most).2.2)] :: obj g29 52 [.int .u8 ((e18.Kind : Nat) : Int), .int .i64 e18.Most] :: L) := hs95.pick 3 rfl rfl
            refine st_c cb25 .func (evs2 (.tmp rfl rfl) (.tmp rfl rfl)) (rbytes_own hs99 h_p.toBs (hsuf) (by omega) e18.Most (by omega) (by omega)) ?_
            rintro e w100 ⟨A102, n103, c104, rfl, hp105, hs101⟩
            refine ⟨_, rfl, ?_⟩
            refine s_on (S' := fun u => St H u (row 5 1 v96 ((rdB cur bad e18.Most).1.length) (((rdB cur bad e18.Most).1).map encB) :: obj g29 52 [.int .u8 ((e18.Kind : Nat) : Int), .int .i64 e18.Most] :: L)) (fun u hu => hu) (hs101.drop.pick 1 rfl rfl).drop ?_
            refine s_st (k := 9) (v := .string (bstr ((rdB cur bad e18.Most).1))) rfl (fun w hs => (hp105.str Try.underlying22 Try.underlying5 Try.underlying9 hs (.tmp rfl rfl))) ?_
            refine s_st (k := 10) (v := .bool (!decide ((bstr ((rdB cur bad e18.Most).1)) = (bstr ((rdB cur bad e18.Most).1))))) rfl (fun w hs => (x_neqS (.tmp rfl rfl) (.tmp rfl rfl))) ?_
            refine s_nil ?_
            refine n_then ?_
            refine c_cond_f (t := false) (.tmp rfl (congrArg Value.bool (show (!decide ((bstr ((rdB cur bad e18.Most).1)) = (bstr ((rdB cur bad e18.Most).1)))) = false from by simp))) rfl ?_
            refine c_skip ?_
            refine n_block ?_
            refine n_then ?_
            refine c_seq ?_
            refine s_region (L := obj g6 50 [.slice A_p n_p c_p, .int .i64 (atOf n_p (rdB cur bad e18.Most).2.1 (rdB cur bad e18.Most).2.2)] :: row 5 1 v96 ((rdB cur bad e18.Most).1.length) (((rdB cur bad e18.Most).1).map encB) :: obj g3 58 [.slice A90 n91 c92, .bool ((rdB cur bad e18.Most).2.2)] :: obj g29 52 [.int .u8 ((e18.Kind : Nat) : Int), .int .i64 e18.Most] :: L) (L' := obj g6 50 [.slice A_p n_p c_p, .int .i64 (atOf n_p (rdB cur bad e18.Most).2.1 (rdB cur bad e18.Most).2.2)] :: row 5 1 v96 ((rdB cur bad e18.Most).1.length) (((rdB cur bad e18.Most).1).map encB) :: obj g3 58 [.slice A90 n91 c92, .bool ((rdB cur bad e18.Most).2.2)] :: obj g29 52 [.int .u8 ((e18.Kind : Nat) : Int), .int .i64 e18.Most] :: L) none [(0, true), (2, true), (1, false), (3, false), (4, true), (5, true), (6, true), (8, true), (9, true), (10, true), (11, true), (12, true), (7, false), (13, true), (14, true)] mixed hs101 (fun u hu => hu) (by kernel_rfl) ?_
            intro w106 hs107
            have hl9 := hp94.len; have hs8 := (hsuf.rdB bad e18.Most).len; have ha9 := atOf_neg' (n := n_p) (cur := (rdB cur bad e18.Most).2.1) (bad := (rdB cur bad e18.Most).2.2) (by omega)
            refine s_st (k := 0) (v := .pointer (some ⟨g3, 0, none⟩)) rfl (fun w hs => (x_move (.tmp rfl hρ12))) ?_
            refine s_st (k := 2) (v := .pointer (some ⟨g6, 0, none⟩)) rfl (fun w hs => (x_move (.tmp rfl hρ13))) ?_
            refine s_eff (k := 1) rfl ?_
            have hs108 : St H _ (obj g3 58 [.slice A90 n91 c92, .bool ((rdB cur bad e18.Most).2.2)] :: obj g6 50 [.slice A_p n_p c_p, .int .i64 (atOf n_p (rdB cur bad e18.Most).2.1 (rdB cur bad e18.Most).2.2)] :: row 5 1 v96 ((rdB cur bad e18.Most).1.length) (((rdB cur bad e18.Most).1).map encB) :: obj g29 52 [.int .u8 ((e18.Kind : Nat) : Int), .int .i64 e18.Most] :: L) := hs107.pick 2 rfl rfl
            refine st_c cb20 .func (evs1 (.tmp rfl rfl)) (left_own (b := ((rdB cur bad e18.Most).2.2)) hs108) ?_
            rintro e w109 ⟨rfl, hs110⟩
            refine ⟨_, rfl, ?_⟩
            refine s_on (S' := fun u => St H u (obj g3 58 [.slice A90 n91 c92, .bool ((rdB cur bad e18.Most).2.2)] :: obj g6 50 [.slice A_p n_p c_p, .int .i64 (atOf n_p (rdB cur bad e18.Most).2.1 (rdB cur bad e18.Most).2.2)] :: row 5 1 v96 ((rdB cur bad e18.Most).1.length) (((rdB cur bad e18.Most).1).map encB) :: obj g29 52 [.int .u8 ((e18.Kind : Nat) : Int), .int .i64 e18.Most] :: L)) (fun u hu => ((((hu.pick 3 rfl rfl).pick 1 rfl rfl).pick 3 rfl rfl).pick 3 rfl rfl)) hs110 ?_
            refine s_eff (k := 3) rfl ?_
            have hs111 : St H _ (obj g6 50 [.slice A_p n_p c_p, .int .i64 (atOf n_p (rdB cur bad e18.Most).2.1 (rdB cur bad e18.Most).2.2)] :: obj g3 58 [.slice A90 n91 c92, .bool ((rdB cur bad e18.Most).2.2)] :: row 5 1 v96 ((rdB cur bad e18.Most).1.length) (((rdB cur bad e18.Most).1).map encB) :: obj g29 52 [.int .u8 ((e18.Kind : Nat) : Int), .int .i64 e18.Most] :: L) := hs110.pick 1 rfl rfl
            refine st_c cb26 .func (evs1 (.tmp rfl rfl)) (rleft_own hs111 h_p.toBs (hsuf.rdB bad e18.Most) (by omega)) ?_
            rintro e w112 ⟨rfl, hs113⟩
            refine ⟨_, rfl, ?_⟩
            refine s_on (S' := fun u => St H u (obj g6 50 [.slice A_p n_p c_p, .int .i64 (atOf n_p (rdB cur bad e18.Most).2.1 (rdB cur bad e18.Most).2.2)] :: obj g3 58 [.slice A90 n91 c92, .bool ((rdB cur bad e18.Most).2.2)] :: row 5 1 v96 ((rdB cur bad e18.Most).1.length) (((rdB cur bad e18.Most).1).map encB) :: obj g29 52 [.int .u8 ((e18.Kind : Nat) : Int), .int .i64 e18.Most] :: L)) (fun u hu => ((((hu.pick 3 rfl rfl).pick 3 rfl rfl).pick 2 rfl rfl).pick 3 rfl rfl)) hs113 ?_
            refine s_st (k := 4) (v := .bool (decide (((if ((rdB cur bad e18.Most).2.2) = true then 0 else ((n91 : Nat) : Int)) : Int) ≠ (if (rdB cur bad e18.Most).2.2 = true then 0 else ((((rdB cur bad e18.Most).2.1).length : Nat) : Int))))) rfl (fun w hs => (x_neq (k := .i64) (a := (if ((rdB cur bad e18.Most).2.2) = true then 0 else ((n91 : Nat) : Int))) (b := (if (rdB cur bad e18.Most).2.2 = true then 0 else ((((rdB cur bad e18.Most).2.1).length : Nat) : Int))) (.tmp rfl rfl) (.tmp rfl rfl))) ?_
            refine s_st (k := 5) (v := .bool (decide (((if ((rdB cur bad e18.Most).2.2) = true then 0 else ((n91 : Nat) : Int)) : Int) ≠ (if (rdB cur bad e18.Most).2.2 = true then 0 else ((((rdB cur bad e18.Most).2.1).length : Nat) : Int))))) rfl (fun w hs => (x_move (.tmp rfl rfl))) ?_
            have hc114 : (decide (((if ((rdB cur bad e18.Most).2.2) = true then 0 else ((n91 : Nat) : Int)) : Int) ≠ (if (rdB cur bad e18.Most).2.2 = true then 0 else ((((rdB cur bad e18.Most).2.1).length : Nat) : Int)))) = false := (decide_eq_false (by rw [hl9]; simp))
            refine s_yes (k := 6) (v := .pointer (some ⟨g3, 0, none⟩)) rfl (yl (dj := 69) (b := false) rfl rfl (congrArg Value.bool hc114)) (fun w hs => (x_move (.tmp rfl hρ12))) ?_
            refine s_yes (k := 8) (v := .pointer (some ⟨g6, 0, none⟩)) rfl (yl (dj := 69) (b := false) rfl rfl (congrArg Value.bool hc114)) (fun w hs => (x_move (.tmp rfl hρ13))) ?_
            refine s_yes (k := 9) (v := .pointer (some ⟨g6, 0, none⟩)) rfl (yl (dj := 69) (b := false) rfl rfl (congrArg Value.bool hc114)) (fun w hs => (x_nilCheck (.tmp rfl rfl))) ?_
            refine s_yes (k := 10) (v := .pointer (some ⟨g6, 0 + 1, none⟩)) rfl (yl (dj := 69) (b := false) rfl rfl (congrArg Value.bool hc114)) (fun w hs => (fa50_1 (.tmp rfl rfl))) ?_
            refine s_yes (k := 11) (v := .int .i64 (atOf n_p (rdB cur bad e18.Most).2.1 (rdB cur bad e18.Most).2.2)) rfl (yl (dj := 69) (b := false) rfl rfl (congrArg Value.bool hc114)) (fun w hs => (ld3 (.tmp rfl rfl) (hs.cell 0 rfl (0 + 1) rfl))) ?_
            refine s_yes (k := 12) (v := .bool (decide (((atOf n_p (rdB cur bad e18.Most).2.1 (rdB cur bad e18.Most).2.2) : Int) < 0))) rfl (yl (dj := 69) (b := false) rfl rfl (congrArg Value.bool hc114)) (fun w hs => (x_lss (k := .i64) (a := (atOf n_p (rdB cur bad e18.Most).2.1 (rdB cur bad e18.Most).2.2)) (b := 0) (.tmp rfl rfl) .const)) ?_
            refine s_eff (k := 7) rfl ?_
            refine g_yes (yl (dj := 69) (b := false) rfl rfl (congrArg Value.bool hc114)) ?_
            have hs115 : St H _ (obj g3 58 [.slice A90 n91 c92, .bool ((rdB cur bad e18.Most).2.2)] :: obj g6 50 [.slice A_p n_p c_p, .int .i64 (atOf n_p (rdB cur bad e18.Most).2.1 (rdB cur bad e18.Most).2.2)] :: row 5 1 v96 ((rdB cur bad e18.Most).1.length) (((rdB cur bad e18.Most).1).map encB) :: obj g29 52 [.int .u8 ((e18.Kind : Nat) : Int), .int .i64 e18.Most] :: L) := hs113.pick 1 rfl rfl
            refine st_c cb19 .func (evs1 (.tmp rfl rfl)) (bad_own hs115) ?_
            rintro e w116 ⟨rfl, hs117⟩
            refine ⟨_, rfl, ?_⟩
            refine s_on (S' := fun u => St H u (obj g3 58 [.slice A90 n91 c92, .bool ((rdB cur bad e18.Most).2.2)] :: obj g6 50 [.slice A_p n_p c_p, .int .i64 (atOf n_p (rdB cur bad e18.Most).2.1 (rdB cur bad e18.Most).2.2)] :: row 5 1 v96 ((rdB cur bad e18.Most).1.length) (((rdB cur bad e18.Most).1).map encB) :: obj g29 52 [.int .u8 ((e18.Kind : Nat) : Int), .int .i64 e18.Most] :: L)) (fun u hu => ((((hu.pick 3 rfl rfl).pick 3 rfl rfl).pick 2 rfl rfl).pick 3 rfl rfl)) hs117 ?_
            refine s_yes (k := 13) (v := .bool (((rdB cur bad e18.Most).2.2) != (decide (((atOf n_p (rdB cur bad e18.Most).2.1 (rdB cur bad e18.Most).2.2) : Int) < 0)))) rfl (yl (dj := 69) (b := false) rfl rfl (congrArg Value.bool hc114)) (fun w hs => (x_neqB Try.underlying4 (.tmp rfl rfl) (.tmp rfl rfl))) ?_
            refine s_st (k := 14) (v := .bool (((rdB cur bad e18.Most).2.2) != (decide (((atOf n_p (rdB cur bad e18.Most).2.1 (rdB cur bad e18.Most).2.2) : Int) < 0)))) rfl (fun w hs => (x_pick_f (.tmp rfl (congrArg Value.bool hc114)) (.tmp rfl rfl))) ?_
            refine s_nil ?_
            refine n_then ?_
            have hc118 : (((rdB cur bad e18.Most).2.2) != (decide (((atOf n_p (rdB cur bad e18.Most).2.1 (rdB cur bad e18.Most).2.2) : Int) < 0))) = false := (by rw [ha9]; simp)
            refine c_cond_f (t := false) (.tmp rfl (congrArg Value.bool hc118)) rfl ?_
            refine c_skip ?_
            refine n_block ?_
            refine n_then ?_
            refine c_region ?_
            refine st (v := .int .i64 ((i : Nat) : Int)) (x_move (.tmp rfl hρ14)) ?_
            refine st (v := .int .i64 (((i + 1) : Nat) : Int)) (x_add (k := .i64) (a := ((i : Nat) : Int)) (b := 1) (.tmp rfl rfl) .const ((w64 (by omega) (by omega)).trans (by omega))) ?_
            refine st (v := .int .i64 (((i + 1) : Nat) : Int)) (x_assign (.tmp rfl rfl)) ?_
            refine c_nil ?_
            refine n_then ⟨_, _, rfl, ?_, (i + 1), A90, n91, c92, ((rdB cur bad e18.Most).2.1), ((rdB cur bad e18.Most).2.2), hρ11, hρ12, hρ13, rfl, (by omega), hp94, hsuf.rdB bad e18.Most, ((((hs117.pick 2 rfl rfl).drop.pick 2 rfl rfl).drop.pick 1 rfl rfl).pick 1 rfl rfl), rfl⟩
            omega
          · have hp86 : ¬ (((((e18.Kind % 4) : Nat) : Int) : Int) = 2) := of_decide_eq_false hc86
            refine c_cond_f (t := false) (.tmp rfl (congrArg Value.bool hc86)) rfl ?_
            refine c_skip ?_
            refine n_block ?_
            refine n_then ?_
            refine c_seq ?_
            refine s_region (L := obj g29 52 [.int .u8 ((e18.Kind : Nat) : Int), .int .i64 e18.Most] :: obj g3 58 [.slice A2 n2 c2, .bool bad] :: obj g6 50 [.slice A_p n_p c_p, .int .i64 (atOf n_p cur bad)] :: L) (L' := obj g29 52 [.int .u8 ((e18.Kind : Nat) : Int), .int .i64 e18.Most] :: obj g3 58 [.slice A2 n2 c2, .bool bad] :: obj g6 50 [.slice A_p n_p c_p, .int .i64 (atOf n_p cur bad)] :: L) none [(0, true), (2, true), (1, false), (3, false), (4, true), (5, true), (6, true), (8, true), (9, true), (10, true), (11, true), (12, true), (7, false), (13, true), (14, true)] mixed hs35 (fun u hu => hu) (by kernel_rfl) ?_
            intro w119 hs120
            have hl9 := hp2.len; have hs8 := (hsuf).len; have ha9 := atOf_neg' (n := n_p) (cur := cur) (bad := bad) (by omega)
            refine s_st (k := 0) (v := .pointer (some ⟨g3, 0, none⟩)) rfl (fun w hs => (x_move (.tmp rfl hρ12))) ?_
            refine s_st (k := 2) (v := .pointer (some ⟨g6, 0, none⟩)) rfl (fun w hs => (x_move (.tmp rfl hρ13))) ?_
            refine s_eff (k := 1) rfl ?_
            have hs121 : St H _ (obj g3 58 [.slice A2 n2 c2, .bool bad] :: obj g29 52 [.int .u8 ((e18.Kind : Nat) : Int), .int .i64 e18.Most] :: obj g6 50 [.slice A_p n_p c_p, .int .i64 (atOf n_p cur bad)] :: L) := hs120.pick 1 rfl rfl
            refine st_c cb20 .func (evs1 (.tmp rfl rfl)) (left_own (b := bad) hs121) ?_
            rintro e w122 ⟨rfl, hs123⟩
            refine ⟨_, rfl, ?_⟩
            refine s_on (S' := fun u => St H u (obj g3 58 [.slice A2 n2 c2, .bool bad] :: obj g29 52 [.int .u8 ((e18.Kind : Nat) : Int), .int .i64 e18.Most] :: obj g6 50 [.slice A_p n_p c_p, .int .i64 (atOf n_p cur bad)] :: L)) (fun u hu => (((hu.pick 2 rfl rfl).pick 1 rfl rfl).pick 2 rfl rfl)) hs123 ?_
            refine s_eff (k := 3) rfl ?_
            have hs124 : St H _ (obj g6 50 [.slice A_p n_p c_p, .int .i64 (atOf n_p cur bad)] :: obj g3 58 [.slice A2 n2 c2, .bool bad] :: obj g29 52 [.int .u8 ((e18.Kind : Nat) : Int), .int .i64 e18.Most] :: L) := hs123.pick 2 rfl rfl
            refine st_c cb26 .func (evs1 (.tmp rfl rfl)) (rleft_own hs124 h_p.toBs (hsuf) (by omega)) ?_
            rintro e w125 ⟨rfl, hs126⟩
            refine ⟨_, rfl, ?_⟩
            refine s_on (S' := fun u => St H u (obj g6 50 [.slice A_p n_p c_p, .int .i64 (atOf n_p cur bad)] :: obj g3 58 [.slice A2 n2 c2, .bool bad] :: obj g29 52 [.int .u8 ((e18.Kind : Nat) : Int), .int .i64 e18.Most] :: L)) (fun u hu => ((hu.pick 2 rfl rfl).pick 2 rfl rfl)) hs126 ?_
            refine s_st (k := 4) (v := .bool (decide (((if bad = true then 0 else ((n2 : Nat) : Int)) : Int) ≠ (if bad = true then 0 else ((cur.length : Nat) : Int))))) rfl (fun w hs => (x_neq (k := .i64) (a := (if bad = true then 0 else ((n2 : Nat) : Int))) (b := (if bad = true then 0 else ((cur.length : Nat) : Int))) (.tmp rfl rfl) (.tmp rfl rfl))) ?_
            refine s_st (k := 5) (v := .bool (decide (((if bad = true then 0 else ((n2 : Nat) : Int)) : Int) ≠ (if bad = true then 0 else ((cur.length : Nat) : Int))))) rfl (fun w hs => (x_move (.tmp rfl rfl))) ?_
            have hc127 : (decide (((if bad = true then 0 else ((n2 : Nat) : Int)) : Int) ≠ (if bad = true then 0 else ((cur.length : Nat) : Int)))) = false := (decide_eq_false (by rw [hl9]; simp))
            refine s_yes (k := 6) (v := .pointer (some ⟨g3, 0, none⟩)) rfl (yl (dj := 69) (b := false) rfl rfl (congrArg Value.bool hc127)) (fun w hs => (x_move (.tmp rfl hρ12))) ?_
            refine s_yes (k := 8) (v := .pointer (some ⟨g6, 0, none⟩)) rfl (yl (dj := 69) (b := false) rfl rfl (congrArg Value.bool hc127)) (fun w hs => (x_move (.tmp rfl hρ13))) ?_
            refine s_yes (k := 9) (v := .pointer (some ⟨g6, 0, none⟩)) rfl (yl (dj := 69) (b := false) rfl rfl (congrArg Value.bool hc127)) (fun w hs => (x_nilCheck (.tmp rfl rfl))) ?_
            refine s_yes (k := 10) (v := .pointer (some ⟨g6, 0 + 1, none⟩)) rfl (yl (dj := 69) (b := false) rfl rfl (congrArg Value.bool hc127)) (fun w hs => (fa50_1 (.tmp rfl rfl))) ?_
            refine s_yes (k := 11) (v := .int .i64 (atOf n_p cur bad)) rfl (yl (dj := 69) (b := false) rfl rfl (congrArg Value.bool hc127)) (fun w hs => (ld3 (.tmp rfl rfl) (hs.cell 0 rfl (0 + 1) rfl))) ?_
            refine s_yes (k := 12) (v := .bool (decide (((atOf n_p cur bad) : Int) < 0))) rfl (yl (dj := 69) (b := false) rfl rfl (congrArg Value.bool hc127)) (fun w hs => (x_lss (k := .i64) (a := (atOf n_p cur bad)) (b := 0) (.tmp rfl rfl) .const)) ?_
            refine s_eff (k := 7) rfl ?_
            refine g_yes (yl (dj := 69) (b := false) rfl rfl (congrArg Value.bool hc127)) ?_
            have hs128 : St H _ (obj g3 58 [.slice A2 n2 c2, .bool bad] :: obj g6 50 [.slice A_p n_p c_p, .int .i64 (atOf n_p cur bad)] :: obj g29 52 [.int .u8 ((e18.Kind : Nat) : Int), .int .i64 e18.Most] :: L) := hs126.pick 1 rfl rfl
            refine st_c cb19 .func (evs1 (.tmp rfl rfl)) (bad_own hs128) ?_
            rintro e w129 ⟨rfl, hs130⟩
            refine ⟨_, rfl, ?_⟩
            refine s_on (S' := fun u => St H u (obj g3 58 [.slice A2 n2 c2, .bool bad] :: obj g6 50 [.slice A_p n_p c_p, .int .i64 (atOf n_p cur bad)] :: obj g29 52 [.int .u8 ((e18.Kind : Nat) : Int), .int .i64 e18.Most] :: L)) (fun u hu => (((hu.pick 2 rfl rfl).pick 1 rfl rfl).pick 2 rfl rfl)) hs130 ?_
            refine s_yes (k := 13) (v := .bool (bad != (decide (((atOf n_p cur bad) : Int) < 0)))) rfl (yl (dj := 69) (b := false) rfl rfl (congrArg Value.bool hc127)) (fun w hs => (x_neqB Try.underlying4 (.tmp rfl rfl) (.tmp rfl rfl))) ?_
            refine s_st (k := 14) (v := .bool (bad != (decide (((atOf n_p cur bad) : Int) < 0)))) rfl (fun w hs => (x_pick_f (.tmp rfl (congrArg Value.bool hc127)) (.tmp rfl rfl))) ?_
            refine s_nil ?_
            refine n_then ?_
            have hc131 : (bad != (decide (((atOf n_p cur bad) : Int) < 0))) = false := (by rw [ha9]; simp)
            refine c_cond_f (t := false) (.tmp rfl (congrArg Value.bool hc131)) rfl ?_
            refine c_skip ?_
            refine n_block ?_
            refine n_then ?_
            refine c_region ?_
            refine st (v := .int .i64 ((i : Nat) : Int)) (x_move (.tmp rfl hρ14)) ?_
            refine st (v := .int .i64 (((i + 1) : Nat) : Int)) (x_add (k := .i64) (a := ((i : Nat) : Int)) (b := 1) (.tmp rfl rfl) .const ((w64 (by omega) (by omega)).trans (by omega))) ?_
            refine st (v := .int .i64 (((i + 1) : Nat) : Int)) (x_assign (.tmp rfl rfl)) ?_
            refine c_nil ?_
            refine n_then ⟨_, _, rfl, ?_, (i + 1), A2, n2, c2, cur, bad, hρ11, hρ12, hρ13, rfl, (by omega), hp2, hsuf, (((hs130.pick 2 rfl rfl).drop.pick 1 rfl rfl).pick 1 rfl rfl), rfl⟩
            omega
    · have hp17 : ¬ ((((i : Nat) : Int) : Int) < 50) := of_decide_eq_false hc17
      refine c_cond_f (t := false) (.tmp rfl (congrArg Value.bool hc17)) rfl ?_
      refine c_exit ?_
      refine x_then ?_
      refine x_then ?_
      refine x_here ?_
      refine n_then ?_
      refine c_seq ?_
      refine c_region ?_
      refine st (v := .bool true) (x_assign .const) ?_
      refine c_nil ?_
      refine n_then ?_
      refine c_ret ?_
      refine leave_ret (res_one (v := .bool true) rfl (.mk rfl rfl)) ?_
      exact ⟨rfl, hs15.drop.drop⟩
  · have hp16 : ¬ ((((i : Nat) : Int) : Int) < ((n_asks : Nat) : Int)) := of_decide_eq_false hc16
    refine g_no (yl (dj := 20) (b := false) rfl rfl (congrArg Value.bool hc16)) rfl ?_
    refine g_no (yl (dj := 20) (b := false) rfl rfl (congrArg Value.bool hc16)) rfl ?_
    refine st (v := .bool false) (x_pick_f (.tmp rfl (congrArg Value.bool hc16)) .const) ?_
    refine c_nil ?_
    refine n_then ?_
    refine c_cond_f (t := false) (.tmp rfl rfl) rfl ?_
    refine c_exit ?_
    refine x_then ?_
    refine x_then ?_
    refine x_here ?_
    refine n_then ?_
    refine c_seq ?_
    refine c_region ?_
    refine st (v := .bool true) (x_assign .const) ?_
    refine c_nil ?_
    refine n_then ?_
    refine c_ret ?_
    refine leave_ret (res_one (v := .bool true) rfl (.mk rfl rfl)) ?_
    exact ⟨rfl, hs15.drop.drop⟩

end Go.Proofs.Ytmjgphaobdplcaa
