/- Steps of the proofs over the functions of this seat, printed by a program (gen.py) and checked by Lean. -/
import Derived.Test.YtdllflllhjaimaaDoorTy
import Derived.Test.YtdllflllhjaimaaDoorFmM4b
import Derived.Test.YtdllflllhjaimaaDoorT2c
set_option linter.unusedVariables false
set_option linter.unusedSimpArgs false
namespace Go.Proofs.YtdllflllhjaimaaDoor
open Go Go.FM Go.Proofs
attribute [local irreducible] wpList wpQuiet Code.wp Calls
set_option maxHeartbeats 8000000 in
theorem awake_spec {H : Hp} {w : World} {L : List Res} (hs : St H w L) (htab : Tab H) : Calls Tryd.prog 9 #[] w (fun e w' => e = .returned (.bool true) ∧ St H w' L) := by
  refine enter (args := []) (N := 25) Tryd.func9 rfl rfl rfl ?_
  refine c_seq ?_
  refine c_region ?_
  refine st (v := .bool false) (x_assign .const) ?_
  refine c_nil ?_
  refine n_then ?_
  refine c_seq ?_
  refine c_region ?_
  refine st_c cb11 .func (evs1 .const) (list_spec hs htab 5 (by decide)) ?_
  rintro e w2 ⟨v1, rfl, ok3, hs4⟩
  refine ⟨_, rfl, ?_⟩
  refine st (v := v1) (x_assign (.tmp rfl rfl)) ?_
  refine c_nil ?_
  refine n_then ?_
  refine c_seq ?_
  refine c_region ?_
  refine st (v := v1) (x_move (.tmp rfl rfl)) ?_
  obtain ⟨A6, c7, hv8, hc9⟩ := ok3.slice
  refine st (v := .int .i64 (((lst 5).length : Nat) : Int)) (x_len (n := (lst 5).length) Tryd.underlying28 (.tmp rfl hv8)) ?_
  refine st (v := .bool (decide (((((lst 5).length : Nat) : Int) : Int) = 2))) (x_eql (k := .i64) (a := (((lst 5).length : Nat) : Int)) (b := 2) (.tmp rfl rfl) .const) ?_
  refine st (v := .bool (decide (((((lst 5).length : Nat) : Int) : Int) = 2))) (x_move (.tmp rfl rfl)) ?_
  have hc10 : (decide (((((lst 5).length : Nat) : Int) : Int) = 2)) = true := (by first | decide +kernel | (simp only [show lst 5 = [0, 2] from by decide +kernel] at *; simp_all <;> omega))
  refine g_yes (yl (dj := 6) (b := true) rfl rfl (congrArg Value.bool hc10)) ?_
  refine st (v := v1) (x_move (.tmp rfl rfl)) ?_
  refine g_yes (yl (dj := 6) (b := true) rfl rfl (congrArg Value.bool hc10)) ?_
  have h5 : (lst 5).length = 2 := by decide +kernel
  obtain ⟨g11, c12, hv13⟩ := ok3.pos (by omega)
  refine st (v := .pointer (some ⟨g11, (0), none⟩)) (ixo28 (.tmp rfl hv13) rfl (i := 0) .const (by omega) (by omega) (by omega)) ?_
  refine g_yes (yl (dj := 6) (b := true) rfl rfl (congrArg Value.bool hc10)) ?_
  obtain ⟨z14, hz15⟩ : ∃ x, (lst 5)[0]? = some x := ⟨_, List.getElem?_eq_getElem (by omega)⟩
  refine st (v := .int .i64 ((z14 : Nat) : Int)) (ld3 (.tmp rfl rfl) (hs4.rowEnc (enc := encI) 0 rfl hv13 0 hz15)) ?_
  refine g_yes (yl (dj := 6) (b := true) rfl rfl (congrArg Value.bool hc10)) ?_
  refine st (v := .bool (decide ((((z14 : Nat) : Int) : Int) = 0))) (x_eql (k := .i64) (a := ((z14 : Nat) : Int)) (b := 0) (.tmp rfl rfl) .const) ?_
  refine st (v := .bool (decide ((((z14 : Nat) : Int) : Int) = 0))) (x_pick_t (.tmp rfl (congrArg Value.bool hc10)) (.tmp rfl rfl)) ?_
  refine st (v := .bool (decide ((((z14 : Nat) : Int) : Int) = 0))) (x_move (.tmp rfl rfl)) ?_
  have hc16 : (decide ((((z14 : Nat) : Int) : Int) = 0)) = true := (by first | decide +kernel | (simp only [show lst 5 = [0, 2] from by decide +kernel] at *; simp_all <;> omega))
  refine g_yes (yl (dj := 12) (b := true) rfl rfl (congrArg Value.bool hc16)) ?_
  refine st (v := v1) (x_move (.tmp rfl rfl)) ?_
  refine g_yes (yl (dj := 12) (b := true) rfl rfl (congrArg Value.bool hc16)) ?_
  obtain ⟨g17, c18, hv19⟩ := ok3.pos (by omega)
  refine st (v := .pointer (some ⟨g17, (1), none⟩)) (ixo28 (.tmp rfl hv19) rfl (i := 1) .const (by omega) (by omega) (by omega)) ?_
  refine g_yes (yl (dj := 12) (b := true) rfl rfl (congrArg Value.bool hc16)) ?_
  obtain ⟨z20, hz21⟩ : ∃ x, (lst 5)[1]? = some x := ⟨_, List.getElem?_eq_getElem (by omega)⟩
  refine st (v := .int .i64 ((z20 : Nat) : Int)) (ld3 (.tmp rfl rfl) (hs4.rowEnc (enc := encI) 0 rfl hv19 1 hz21)) ?_
  refine g_yes (yl (dj := 12) (b := true) rfl rfl (congrArg Value.bool hc16)) ?_
  refine st (v := .bool (decide ((((z20 : Nat) : Int) : Int) = 2))) (x_eql (k := .i64) (a := ((z20 : Nat) : Int)) (b := 2) (.tmp rfl rfl) .const) ?_
  refine st (v := .bool (decide ((((z20 : Nat) : Int) : Int) = 2))) (x_pick_t (.tmp rfl (congrArg Value.bool hc16)) (.tmp rfl rfl)) ?_
  refine st (v := .bool (decide ((((z20 : Nat) : Int) : Int) = 2))) (x_move (.tmp rfl rfl)) ?_
  have hc22 : (decide ((((z20 : Nat) : Int) : Int) = 2)) = true := (by first | decide +kernel | (simp only [show lst 5 = [0, 2] from by decide +kernel] at *; simp_all <;> omega))
  refine g_yes (yl (dj := 18) (b := true) rfl rfl (congrArg Value.bool hc22)) ?_
  refine st_c cb8 .func (evs2 .const .const) (most_spec hs4 3 3 (by decide) (by omega)) ?_
  rintro e w23 ⟨rfl, hs24⟩
  refine ⟨_, rfl, ?_⟩
  refine st (v := .bool (most 3 3)) (x_pick_t (.tmp rfl (congrArg Value.bool hc22)) (.tmp rfl rfl)) ?_
  refine st (v := .bool (most 3 3)) (x_move (.tmp rfl rfl)) ?_
  have hc25 : (most 3 3) = true := (by first | decide +kernel | (simp only [show lst 5 = [0, 2] from by decide +kernel] at *; simp_all <;> omega))
  refine g_yes (yl (dj := 21) (b := true) rfl rfl (congrArg Value.bool hc25)) ?_
  refine st_c cb8 .func (evs2 .const .const) (most_spec hs24 3 4 (by decide) (by omega)) ?_
  rintro e w26 ⟨rfl, hs27⟩
  refine ⟨_, rfl, ?_⟩
  refine g_yes (yl (dj := 21) (b := true) rfl rfl (congrArg Value.bool hc25)) ?_
  refine st (v := .bool (!(most 3 4))) (x_not (.tmp rfl rfl)) ?_
  refine st (v := .bool (!(most 3 4))) (x_pick_t (.tmp rfl (congrArg Value.bool hc25)) (.tmp rfl rfl)) ?_
  refine st (v := .bool (!(most 3 4))) (x_assign (.tmp rfl rfl)) ?_
  refine c_nil ?_
  refine n_then ?_
  refine c_ret ?_
  refine leave_ret (res_one (v := .bool (!(most 3 4))) rfl (.mk rfl rfl)) ?_
  exact ⟨ret_true (b := (!(most 3 4))) (by decide), hs27.drop⟩

end Go.Proofs.YtdllflllhjaimaaDoor
