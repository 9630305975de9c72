/- Steps of the proofs over the functions of this seat, printed by a program (gen.py) and checked by Lean. -/
import Derived.Test.YtmjgphaobdplcaaTy
import Derived.Test.YtmjgphaobdplcaaFmM2
import Derived.Test.YtmjgphaobdplcaaFmS2
import Derived.Test.YtmjgphaobdplcaaFmG
import Derived.Test.YtmjgphaobdplcaaU2dawake
set_option linter.unusedVariables false
set_option linter.unusedSimpArgs false
namespace Go.Proofs.Ytmjgphaobdplcaa
open Go Go.FM Go.Proofs
attribute [local irreducible] wpList wpQuiet wpS Code.wp Calls
set_option maxHeartbeats 8000000 in
theorem codeSeals_spec {H : Hp} {w : World} {L : List Res} (hs : St H w L) {A : Option Addr} {n c : Nat} {bs : List Nat} (hp : Bs H A n c bs) (hn : n ≤ 140737488351232) {A2 : Option Addr} {n2 c2 : Nat} {qs : List Nat} (hq : Bs H A2 n2 c2 qs) (hn2 : n2 ≤ 140737488351232) : Calls Try.prog 3 #[.slice A n c, .slice A2 n2 c2] w (fun e w' => e = .returned (.bool true) ∧ St H w' L) := by
  refine enter (args := [.slice A n c, .slice A2 n2 c2]) (N := 67) Try.func3 rfl rfl rfl ?_
  refine c_seq ?_
  refine c_region ?_
  refine st (v := .bool false) (x_assign .const) ?_
  refine c_nil ?_
  refine n_then ?_
  refine c_seq ?_
  refine c_seq ?_
  refine c_region ?_
  refine st_c cb9 .func (evs0 ) (awake_spec hs) ?_
  rintro e w1 ⟨rfl, hs2⟩
  refine ⟨_, rfl, ?_⟩
  refine st (v := .bool false) (x_not (b := true) (.tmp rfl rfl)) ?_
  refine st (v := .bool false) (x_move (.tmp rfl rfl)) ?_
  refine g_yes (yl (dj := 14) (b := false) rfl rfl rfl) ?_
  refine st (v := .slice A n c) (x_move (.tmp rfl rfl)) ?_
  refine g_yes (yl (dj := 14) (b := false) rfl rfl rfl) ?_
  refine st_c cb10 .func (evs1 (.tmp rfl rfl)) (sum_spec hs2 hp (by omega)) ?_
  rintro e w3 ⟨rfl, hs4⟩
  refine ⟨_, rfl, ?_⟩
  refine g_yes (yl (dj := 14) (b := false) rfl rfl rfl) ?_
  refine st (v := .slice A n c) (x_move (.tmp rfl rfl)) ?_
  refine g_yes (yl (dj := 14) (b := false) rfl rfl rfl) ?_
  refine st_c cb11 .func (evs1 (.tmp rfl rfl)) (rsum_spec hs4 hp (by omega)) ?_
  rintro e w5 ⟨rfl, hs6⟩
  refine ⟨_, rfl, ?_⟩
  refine g_yes (yl (dj := 14) (b := false) rfl rfl rfl) ?_
  refine st (v := .bool (decide ((((crc bs : Nat) : Int) : Int) ≠ ((crc bs : Nat) : Int)))) (x_neq (k := .u32) (a := ((crc bs : Nat) : Int)) (b := ((crc bs : Nat) : Int)) (.tmp rfl rfl) (.tmp rfl rfl)) ?_
  refine st (v := .bool false) (x_pick_f (.tmp rfl rfl) (.tmp rfl (congrArg Value.bool (show (decide ((((crc bs : Nat) : Int) : Int) ≠ ((crc bs : Nat) : Int))) = false from by simp)))) ?_
  refine c_nil ?_
  refine n_then ?_
  refine c_cond_f (t := false) (.tmp rfl rfl) rfl ?_
  refine c_skip ?_
  refine n_then ?_
  refine c_seq ?_
  refine c_region ?_
  refine st (v := .slice A n c) (x_move (.tmp rfl rfl)) ?_
  refine st_c cb12 .func (evs1 (.tmp rfl rfl)) (seal_spec hs6 hp (by omega)) ?_
  rintro e w8 ⟨v7, rfl, ok9, hs10⟩
  refine ⟨_, rfl, ?_⟩
  obtain ⟨H12, A13, c14, hle15, hs16, rfl, hp17⟩ := hs10.freezeBs ok9 (seal_small hp.lt) (by omega)
  refine st (v := .slice A13 (n + 4) c14) (x_assign (.tmp rfl rfl)) ?_
  refine c_nil ?_
  refine n_then ?_
  refine c_seq ?_
  refine c_region ?_
  refine st (v := .slice A13 (n + 4) c14) (x_move (.tmp rfl rfl)) ?_
  refine st_c cb13 .func (evs1 (.tmp rfl rfl)) (open_spec hs16 hp17 (by omega)) ?_
  rintro e w19 ⟨v18, rfl, ok20, hs21⟩
  refine ⟨_, rfl, ?_⟩
  refine st (v := .tuple #[v18, .int .i64 ((openL (seal_ bs)).2)]) (x_move (.tmp rfl rfl)) ?_
  refine st (v := v18) (x_extract (.tmp rfl rfl) (i := 0) rfl) ?_
  refine st (v := .int .i64 ((openL (seal_ bs)).2)) (x_extract (.tmp rfl rfl) (i := 1) rfl) ?_
  refine st (v := v18) (x_assign (.tmp rfl rfl)) ?_
  refine st (v := .int .i64 ((openL (seal_ bs)).2)) (x_assign (.tmp rfl rfl)) ?_
  refine c_nil ?_
  refine n_then ?_
  refine c_seq ?_
  refine c_region ?_
  refine st (v := .slice A2 n2 c2) (x_move (.tmp rfl rfl)) ?_
  refine st_c cb13 .func (evs1 (.tmp rfl rfl)) (open_spec hs21 (hq.mono hle15) (by omega)) ?_
  rintro e w24 ⟨v23, rfl, ok25, hs26⟩
  refine ⟨_, rfl, ?_⟩
  refine st (v := .tuple #[v23, .int .i64 ((openL qs).2)]) (x_move (.tmp rfl rfl)) ?_
  refine st (v := v23) (x_extract (.tmp rfl rfl) (i := 0) rfl) ?_
  refine st (v := .int .i64 ((openL qs).2)) (x_extract (.tmp rfl rfl) (i := 1) rfl) ?_
  refine st (v := v23) (x_assign (.tmp rfl rfl)) ?_
  refine st (v := .int .i64 ((openL qs).2)) (x_assign (.tmp rfl rfl)) ?_
  refine c_nil ?_
  refine n_then ?_
  refine c_seq ?_
  refine c_region ?_
  refine st (v := .slice A2 n2 c2) (x_move (.tmp rfl rfl)) ?_
  refine st_c cb14 .func (evs1 (.tmp rfl rfl)) (ropen_spec hs26 (hq.mono hle15) (by omega)) ?_
  rintro e w31 ⟨A28, n29, c30, rfl, hp32, hs33⟩
  refine ⟨_, rfl, ?_⟩
  refine st (v := .tuple #[.slice A28 n29 c30, .int .i64 ((openL qs).2)]) (x_move (.tmp rfl rfl)) ?_
  refine st (v := .slice A28 n29 c30) (x_extract (.tmp rfl rfl) (i := 0) rfl) ?_
  refine st (v := .int .i64 ((openL qs).2)) (x_extract (.tmp rfl rfl) (i := 1) rfl) ?_
  refine st (v := .slice A28 n29 c30) (x_assign (.tmp rfl rfl)) ?_
  refine st (v := .int .i64 ((openL qs).2)) (x_assign (.tmp rfl rfl)) ?_
  refine c_nil ?_
  refine n_then ?_
  refine c_seq ?_
  refine s_region (L := row 5 1 v23 ((openL qs).1.length) (((openL qs).1).map encB) :: row 5 1 v18 ((openL (seal_ bs)).1.length) (((openL (seal_ bs)).1).map encB) :: L) (L' := row 5 1 v23 ((openL qs).1.length) (((openL qs).1).map encB) :: row 5 1 v18 ((openL (seal_ bs)).1.length) (((openL (seal_ bs)).1).map encB) :: L) none [(0, true), (1, true), (2, true), (3, false), (4, true), (5, true), (6, true), (7, true), (8, true), (9, true), (10, true), (11, true), (12, true), (13, true), (14, true), (15, true), (16, true), (17, true), (18, true), (19, true), (20, true), (21, true), (22, true), (23, true), (24, true), (25, true), (26, true), (27, true), (28, true), (29, true)] mixed hs33 (fun u hu => hu) (by kernel_rfl) ?_
  intro w34 hs35
  refine s_st (k := 0) (v := .slice A13 (n + 4) c14) rfl (fun w hs => (x_move (.tmp rfl rfl))) ?_
  refine s_st (k := 1) (v := .string (bstr (seal_ bs))) rfl (fun w hs => (hp17.str Try.underlying22 Try.underlying5 Try.underlying9 hs (.tmp rfl rfl))) ?_
  refine s_st (k := 2) (v := .slice A n c) rfl (fun w hs => (x_move (.tmp rfl rfl))) ?_
  refine s_eff (k := 3) rfl ?_
  refine st_c cb15 .func (evs1 (.tmp rfl rfl)) (rseal_spec hs35 (hp.mono hle15) (by omega)) ?_
  rintro e w37 ⟨v36, rfl, ok38, hs39⟩
  refine ⟨_, rfl, ?_⟩
  refine s_on (S' := fun u => St H12 u (row 5 1 v36 (n + 4) ((seal_ bs).map encB) :: row 5 1 v23 ((openL qs).1.length) (((openL qs).1).map encB) :: row 5 1 v18 ((openL (seal_ bs)).1.length) (((openL (seal_ bs)).1).map encB) :: L)) (fun u hu => hu.drop) hs39 ?_
  refine s_st (k := 4) (v := .string (bstr (seal_ bs))) rfl (fun w hs => (hs.rowStr Try.underlying22 Try.underlying5 Try.underlying9 0 rfl ok38 (.tmp rfl rfl))) ?_
  refine s_st (k := 5) (v := .bool (decide ((bstr (seal_ bs)) = (bstr (seal_ bs))))) rfl (fun w hs => (x_eqlS (.tmp rfl rfl) (.tmp rfl rfl))) ?_
  refine s_st (k := 6) (v := .bool true) rfl (fun w hs => (x_move (.tmp rfl (congrArg Value.bool (show (decide ((bstr (seal_ bs)) = (bstr (seal_ bs)))) = true from by simp))))) ?_
  refine s_yes (k := 7) (v := .int .i64 ((openL (seal_ bs)).2)) rfl (yl (dj := 44) (b := true) rfl rfl rfl) (fun w hs => (x_move (.tmp rfl rfl))) ?_
  refine s_yes (k := 8) (v := .bool (decide ((((openL (seal_ bs)).2) : Int) = 0))) rfl (yl (dj := 44) (b := true) rfl rfl rfl) (fun w hs => (x_eql (k := .i64) (a := ((openL (seal_ bs)).2)) (b := 0) (.tmp rfl rfl) .const)) ?_
  refine s_st (k := 9) (v := .bool (decide ((((openL (seal_ bs)).2) : Int) = 0))) rfl (fun w hs => (x_pick_t (.tmp rfl rfl) (.tmp rfl rfl))) ?_
  refine s_st (k := 10) (v := .bool (decide ((((openL (seal_ bs)).2) : Int) = 0))) rfl (fun w hs => (x_move (.tmp rfl rfl))) ?_
  have hc41 : (decide ((((openL (seal_ bs)).2) : Int) = 0)) = true := (decide_eq_true (by rw [open_seal]))
  refine s_yes (k := 11) (v := v18) rfl (yl (dj := 48) (b := true) rfl rfl (congrArg Value.bool hc41)) (fun w hs => (x_move (.tmp rfl rfl))) ?_
  refine s_yes (k := 12) (v := .string (bstr ((openL (seal_ bs)).1))) rfl (yl (dj := 48) (b := true) rfl rfl (congrArg Value.bool hc41)) (fun w hs => (hs.rowStr Try.underlying22 Try.underlying5 Try.underlying9 2 rfl ok20 (.tmp rfl rfl))) ?_
  refine s_yes (k := 13) (v := .slice A n c) rfl (yl (dj := 48) (b := true) rfl rfl (congrArg Value.bool hc41)) (fun w hs => (x_move (.tmp rfl rfl))) ?_
  refine s_yes (k := 14) (v := .string (bstr bs)) rfl (yl (dj := 48) (b := true) rfl rfl (congrArg Value.bool hc41)) (fun w hs => ((hp.mono hle15).str Try.underlying22 Try.underlying5 Try.underlying9 hs (.tmp rfl rfl))) ?_
  refine s_yes (k := 15) (v := .bool (decide ((bstr ((openL (seal_ bs)).1)) = (bstr bs)))) rfl (yl (dj := 48) (b := true) rfl rfl (congrArg Value.bool hc41)) (fun w hs => (x_eqlS (.tmp rfl rfl) (.tmp rfl rfl))) ?_
  refine s_st (k := 16) (v := .bool (decide ((bstr ((openL (seal_ bs)).1)) = (bstr bs)))) rfl (fun w hs => (x_pick_t (.tmp rfl (congrArg Value.bool hc41)) (.tmp rfl rfl))) ?_
  refine s_st (k := 17) (v := .bool (decide ((bstr ((openL (seal_ bs)).1)) = (bstr bs)))) rfl (fun w hs => (x_move (.tmp rfl rfl))) ?_
  have hc42 : (decide ((bstr ((openL (seal_ bs)).1)) = (bstr bs))) = true := (decide_eq_true (by rw [open_seal]))
  refine s_yes (k := 18) (v := .int .i64 ((openL qs).2)) rfl (yl (dj := 55) (b := true) rfl rfl (congrArg Value.bool hc42)) (fun w hs => (x_move (.tmp rfl rfl))) ?_
  refine s_yes (k := 19) (v := .int .i64 ((openL qs).2)) rfl (yl (dj := 55) (b := true) rfl rfl (congrArg Value.bool hc42)) (fun w hs => (x_move (.tmp rfl rfl))) ?_
  refine s_yes (k := 20) (v := .bool (decide ((((openL qs).2) : Int) = ((openL qs).2)))) rfl (yl (dj := 55) (b := true) rfl rfl (congrArg Value.bool hc42)) (fun w hs => (x_eql (k := .i64) (a := ((openL qs).2)) (b := ((openL qs).2)) (.tmp rfl rfl) (.tmp rfl rfl))) ?_
  refine s_st (k := 21) (v := .bool true) rfl (fun w hs => (x_pick_t (.tmp rfl (congrArg Value.bool hc42)) (.tmp rfl (congrArg Value.bool (show (decide ((((openL qs).2) : Int) = ((openL qs).2))) = true from by simp))))) ?_
  refine s_st (k := 22) (v := .bool true) rfl (fun w hs => (x_move (.tmp rfl rfl))) ?_
  refine s_yes (k := 23) (v := v23) rfl (yl (dj := 60) (b := true) rfl rfl rfl) (fun w hs => (x_move (.tmp rfl rfl))) ?_
  refine s_yes (k := 24) (v := .string (bstr ((openL qs).1))) rfl (yl (dj := 60) (b := true) rfl rfl rfl) (fun w hs => (hs.rowStr Try.underlying22 Try.underlying5 Try.underlying9 1 rfl ok25 (.tmp rfl rfl))) ?_
  refine s_yes (k := 25) (v := .slice A28 n29 c30) rfl (yl (dj := 60) (b := true) rfl rfl rfl) (fun w hs => (x_move (.tmp rfl rfl))) ?_
  refine s_yes (k := 26) (v := .string (bstr ((openL qs).1))) rfl (yl (dj := 60) (b := true) rfl rfl rfl) (fun w hs => (hp32.str Try.underlying22 Try.underlying5 Try.underlying9 hs (.tmp rfl rfl))) ?_
  refine s_yes (k := 27) (v := .bool (decide ((bstr ((openL qs).1)) = (bstr ((openL qs).1))))) rfl (yl (dj := 60) (b := true) rfl rfl rfl) (fun w hs => (x_eqlS (.tmp rfl rfl) (.tmp rfl rfl))) ?_
  refine s_st (k := 28) (v := .bool true) rfl (fun w hs => (x_pick_t (.tmp rfl rfl) (.tmp rfl (congrArg Value.bool (show (decide ((bstr ((openL qs).1)) = (bstr ((openL qs).1)))) = true from by simp))))) ?_
  refine s_st (k := 29) (v := .bool true) rfl (fun w hs => (x_assign (.tmp rfl rfl))) ?_
  refine s_nil ?_
  refine n_then ?_
  refine c_ret ?_
  refine leave_ret (res_one (v := .bool true) rfl (.mk rfl rfl)) ?_
  exact ⟨rfl, (hs39.drop.drop.drop.weaken hle15)⟩

end Go.Proofs.Ytmjgphaobdplcaa
