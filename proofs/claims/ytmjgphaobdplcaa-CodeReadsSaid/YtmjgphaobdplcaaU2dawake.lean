/- Steps of the proofs over the functions of this seat, printed by a program (gen.py) and checked by Lean. -/
import Derived.Test.YtmjgphaobdplcaaUty
import Derived.Test.YtmjgphaobdplcaaFmM2
import Derived.Test.YtmjgphaobdplcaaFmS2
import Derived.Test.YtmjgphaobdplcaaFmG
import Derived.Test.YtmjgphaobdplcaaFmP
import Derived.Test.YtmjgphaobdplcaaFmM2c
import Derived.Test.YtmjgphaobdplcaaU2c
set_option linter.unusedVariables false
set_option linter.unusedSimpArgs false
namespace Go.Proofs.Ytmjgphaobdplcaa
open Go Go.FM Go.Proofs
attribute [local irreducible] wpList wpQuiet wpS Code.wp Calls
set_option maxHeartbeats 8000000 in
theorem awake_spec {H : Hp} {w : World} {L : List Res} (hs : St H w L) : Calls Try.prog 9 #[] w (fun e w' => e = .returned (.bool true) ∧ St H w' L) := by
  refine enter (args := []) (N := 10) Try.func9 rfl rfl rfl ?_
  refine c_seq ?_
  refine c_region ?_
  refine st (v := .bool false) (x_assign .const) ?_
  refine c_nil ?_
  refine n_then ?_
  refine c_seq ?_
  refine c_region ?_
  have hs1 : St H _ (row 5 1 (.slice none 0 0) 0 ([].map encB) :: L) := hs.rowNil 5 1
  have ok3 : RowOk 1 (.slice none 0 0) 0 (([] : List Nat).map encB) := RowOk.nil 1
  refine st_c cb16 .func (evs2 .const .const) (uint_spec hs1 ok3 Small.nil 300 (by omega) (by decide)) ?_
  rintro e w5 ⟨v4, rfl, ok6, hs7⟩
  refine ⟨_, rfl, ?_⟩
  refine st (v := .string (bstr ([] ++ uenc 300))) (hs7.rowStr Try.underlying22 Try.underlying5 Try.underlying9 0 rfl ok6 (.tmp rfl rfl)) ?_
  refine st (v := .bool (decide ((bstr ([] ++ uenc 300)) = (⟨#[172, 2]⟩)))) (x_eqlS (.tmp rfl rfl) .const) ?_
  refine st (v := .bool (decide ((bstr ([] ++ uenc 300)) = (⟨#[172, 2]⟩)))) (x_move (.tmp rfl rfl)) ?_
  have hc8 : (decide ((bstr ([] ++ uenc 300)) = (⟨#[172, 2]⟩))) = true := (decide_eq_true uenc_300)
  refine g_yes (yl (dj := 4) (b := true) rfl rfl (congrArg Value.bool hc8)) ?_
  refine st_m (m_lit (n := 9) (ps := [(0, .int .u8 49), (1, .int .u8 50), (2, .int .u8 51), (3, .int .u8 52), (4, .int .u8 53), (5, .int .u8 54), (6, .int .u8 55), (7, .int .u8 56), (8, .int .u8 57)]) (cs := [.int .u8 49, .int .u8 50, .int .u8 51, .int .u8 52, .int .u8 53, .int .u8 54, .int .u8 55, .int .u8 56, .int .u8 57]) Try.underlying22 inf5 (.cons .const (.cons .const (.cons .const (.cons .const (.cons .const (.cons .const (.cons .const (.cons .const (.cons .const Evp.nil))))))))) (by decide) (by decide) rfl rfl hs7) ?_
  rintro _ w10 ⟨g9, rfl, hs12⟩
  refine g_yes (yl (dj := 4) (b := true) rfl rfl (congrArg Value.bool hc8)) ?_
  refine st_m (m_litBytes (n := 9) (c := 9) Try.underlying22 Try.underlying5 hs12 (.tmp rfl rfl)) ?_
  rintro _ w13 ⟨rfl, H15, hle16, hs14, rd17⟩
  have hp18 : Bs H15 ((some ⟨g9, 0, none⟩)) 9 9 [49, 50, 51, 52, 53, 54, 55, 56, 57] := ⟨rd17, rfl, Nat.le_refl _, by decide, by unfold Small; decide⟩
  refine g_yes (yl (dj := 4) (b := true) rfl rfl (congrArg Value.bool hc8)) ?_
  refine st_c cb10 .func (evs1 (.tmp rfl rfl)) (sum_spec hs14 hp18 (by omega)) ?_
  rintro e w19 ⟨rfl, hs20⟩
  refine ⟨_, rfl, ?_⟩
  refine g_yes (yl (dj := 4) (b := true) rfl rfl (congrArg Value.bool hc8)) ?_
  refine st (v := .bool (decide ((((crc [49, 50, 51, 52, 53, 54, 55, 56, 57] : Nat) : Int) : Int) = 3421780262))) (x_eql (k := .u32) (a := ((crc [49, 50, 51, 52, 53, 54, 55, 56, 57] : Nat) : Int)) (b := 3421780262) (.tmp rfl rfl) .const) ?_
  refine st (v := .bool (decide ((((crc [49, 50, 51, 52, 53, 54, 55, 56, 57] : Nat) : Int) : Int) = 3421780262))) (x_pick_t (.tmp rfl (congrArg Value.bool hc8)) (.tmp rfl rfl)) ?_
  refine st (v := .bool (decide ((((crc [49, 50, 51, 52, 53, 54, 55, 56, 57] : Nat) : Int) : Int) = 3421780262))) (x_assign (.tmp rfl rfl)) ?_
  refine c_nil ?_
  refine n_then ?_
  refine c_ret ?_
  refine leave_ret (res_one (v := .bool (decide ((((crc [49, 50, 51, 52, 53, 54, 55, 56, 57] : Nat) : Int) : Int) = 3421780262))) rfl (.mk rfl rfl)) ?_
  exact ⟨(congrArg (fun b => Ending.returned (Value.bool b)) (decide_eq_true (by have := crc_check; omega))), (hs20.drop.weaken hle16)⟩

end Go.Proofs.Ytmjgphaobdplcaa
