/- Steps of the proofs over the functions of this seat, printed by a program (gen.py) and checked by Lean. -/
import Derived.Test.YtkbllbphkdnmbaaTy
import Derived.Test.YtkbllbphkdnmbaaFmM6
import Derived.Test.YtkbllbphkdnmbaaU6i
set_option linter.unusedVariables false
set_option linter.unusedSimpArgs false
namespace Go.Proofs.Ytkbllbphkdnmbaa
open Go Go.FM Go.Proofs
attribute [local irreducible] wpList wpQuiet wpS Code.wp Calls
set_option maxHeartbeats 8000000 in
theorem cutAgain_spec {H : Hp} {w : World} {L : List Res} (hs : St H w (L)) {A_l : Option Addr} {n_l c_l : Nat} (l : (List GState)) (h_l : Sl kState H A_l n_l c_l l) (at_ : Nat) (b_at_ : at_ < 256) : Calls Try.prog 6 #[.slice A_l n_l c_l, .int .u8 ((at_ : Nat) : Int)] w (fun e w' => e = .returned (.bool true) ∧ St H w' (L)) := by
  have := h_l.len; have := h_l.le; have : n_l * 48 ≤ 140737488351232 := h_l.bnd
  refine enter (args := [.slice A_l n_l c_l, .int .u8 ((at_ : Nat) : Int)]) (N := 44) Try.func6 rfl rfl rfl ?_
  refine c_seq ?_
  refine c_region ?_
  refine st (v := .bool false) (x_assign .const) ?_
  refine c_nil ?_
  refine n_then ?_
  refine c_seq ?_
  refine c_seq ?_
  refine c_region ?_
  refine st_c cb10 .func (evs0 ) (awake_spec hs  ) ?_
  rintro e w1 ⟨rfl, hs2⟩
  refine ⟨_, rfl, ?_⟩
  refine st (v := .bool false) (x_not (b := true) (.tmp rfl rfl)) ?_
  refine st (v := .bool false) (x_move (.tmp rfl rfl)) ?_
  refine g_yes (yl (dj := 9) (b := false) rfl rfl rfl) ?_
  refine st (v := .slice A_l n_l c_l) (x_move (.tmp rfl rfl)) ?_
  refine g_yes (yl (dj := 9) (b := false) rfl rfl rfl) ?_
  refine st_c cb11 .func (evs1 (.tmp rfl rfl)) (right_spec hs2 l h_l ) ?_
  rintro e w3 ⟨rfl, hs4⟩
  refine ⟨_, rfl, ?_⟩
  refine g_yes (yl (dj := 9) (b := false) rfl rfl rfl) ?_
  refine st (v := .bool (!(rightS l))) (x_not (.tmp rfl rfl)) ?_
  refine st (v := .bool (!(rightS l))) (x_pick_f (.tmp rfl rfl) (.tmp rfl rfl)) ?_
  refine c_nil ?_
  refine n_then ?_
  rcases Bool.eq_false_or_eq_true (rightS l) with hc5 | hc5
  · refine c_cond_f (t := false) (.tmp rfl (congrArg Value.bool (by rw [hc5]; rfl))) rfl ?_
    refine c_skip ?_
    refine n_then ?_
    refine c_seq ?_
    refine c_region ?_
    have hrt := rightS_spec hc5; have hl40 := hrt.2; have hjl : (joinS l).length ≤ 40 := Nat.le_trans (joinTo_length l l.length) hrt.2
    refine st (v := .slice A_l n_l c_l) (x_move (.tmp rfl rfl)) ?_
    refine st_c cb17 .func (evs1 (.tmp rfl rfl)) (join_spec hs4 l h_l hrt.1) ?_
    rintro e w6 ⟨v8, cs11, rfl, ok9, hk12, hs7⟩
    have := h_l.len
    refine ⟨_, rfl, ?_⟩
    refine st (v := v8) (x_assign (.tmp rfl rfl)) ?_
    refine c_nil ?_
    refine n_then ?_
    refine c_seq ?_
    refine c_region ?_
    refine st (v := .slice none 0 0) (x_assign .const) ?_
    refine c_nil ?_
    refine n_then ?_
    refine c_seq ?_
    refine c_region ?_
    refine st (v := .slice none 0 0) (x_move (.tmp rfl rfl)) ?_
    refine st (v := v8) (x_move (.tmp rfl rfl)) ?_
    have hs13 : St H _ (row 38 4 (.slice none 0 0) (([] : List GState).length) [] :: row 38 4 v8 ((joinS l).length) cs11 :: L) := hs7.krowNil 38 kState
    have : ([] : List GState).length = 0 := rfl
    refine st_m (m_appRow (d := kState) (ys := (joinS l)) Try.underlying22 inf38 rfl hs13 (RowOk.knil kState) (Kn.rows_nil _ _) (.tmp rfl rfl) 1 rfl ok9 hk12 (.tmp rfl rfl) (by omega) (by decide)) ?_
    rintro v15 w16 ⟨cs17, ok18, hk19, hs20⟩
    have hn21 : (([] : List GState) ++ (joinS l)).length = ([] : List GState).length + (joinS l).length := by simp
    have hn21 : (joinS l).length = (joinS l).length := by simp
    have ok18 : RowOk kState.sz v15 (joinS l).length cs17 := ok18
    have hk19 : kState.toKn.rows H (joinS l) cs17 := hk19
    have hs20 : St H _ (row 38 4 v15 ((joinS l).length) cs17 :: row 38 4 v8 ((joinS l).length) cs11 :: L) := hs20
    refine st (v := v15) (x_assign (.tmp rfl rfl)) ?_
    refine c_nil ?_
    refine n_then ?_
    refine c_seq ?_
    refine c_seq ?_
    refine c_region ?_
    refine st (v := .slice A_l n_l c_l) (x_move (.tmp rfl rfl)) ?_
    refine st (v := .int .i64 ((n_l : Nat) : Int)) (x_len (n := n_l) Try.underlying22 (.tmp rfl rfl)) ?_
    refine st (v := .bool (decide ((0 : Int) < ((n_l : Nat) : Int)))) (x_gtr (k := .i64) (a := ((n_l : Nat) : Int)) (b := 0) (.tmp rfl rfl) .const) ?_
    refine c_nil ?_
    refine n_then ?_
    rcases Bool.eq_false_or_eq_true (decide ((0 : Int) < ((n_l : Nat) : Int))) with hc22 | hc22
    · have hp22 : (0 : Int) < ((n_l : Nat) : Int) := of_decide_eq_true hc22
      refine c_cond_t (t := true) (.tmp rfl (congrArg Value.bool hc22)) rfl ?_
      refine c_region ?_
      refine st (v := v15) (x_move (.tmp rfl rfl)) ?_
      refine st (v := .slice A_l n_l c_l) (x_move (.tmp rfl rfl)) ?_
      refine st (v := .int .u8 ((at_ : Nat) : Int)) (x_move (.tmp rfl rfl)) ?_
      refine st (v := .int .i64 ((at_ : Nat) : Int)) (x_conv (k := .u8) (a := ((at_ : Nat) : Int)) Try.underlying5 Try.underlying3 (.tmp rfl rfl) (w64 (by omega) (by omega))) ?_
      refine st (v := .slice A_l n_l c_l) (x_move (.tmp rfl rfl)) ?_
      refine st (v := .int .i64 ((n_l : Nat) : Int)) (x_len (n := n_l) Try.underlying22 (.tmp rfl rfl)) ?_
      have : at_ % n_l < n_l := Nat.mod_lt _ (by omega)
      refine st (v := .int .i64 (((at_ % n_l) : Nat) : Int)) (x_remN (k := .i64) (m := at_) (n := n_l) (.tmp rfl rfl) (.tmp rfl rfl) (by omega)) ?_
      obtain ⟨e23, b24, o25, cs26, hx27, hA28, hr29, hat30⟩ := h_l.get (i := (at_ % n_l)) (by omega)
      obtain ⟨A36, n37, c38, rfl, b31, ⟨b32, b33⟩, ⟨b34, b35⟩, hl39⟩ := hr29
      have := hl39.len; have : n37 * 32 ≤ 140737488351232 := hl39.bnd; have := hl39.le
      have hat30x : ∀ {w : World} {L : List Res}, St H w L → At w ⟨b24, o25 + (at_ % n_l) * 4, none⟩ [.int .u64 ((e23.V.N : Nat) : Int), .int .i64 e23.V.P, .int .i64 e23.Floor, .slice A36 n37 c38] := fun h => hat30 h
      have := hrt.1 e23 (List.mem_of_getElem? hx27)
      refine st (v := .pointer (some ⟨b24, (o25 + (at_ % n_l) * 4), none⟩)) (ixo22 (.tmp rfl rfl) hA28 (i := (((at_ % n_l) : Nat) : Int)) (.tmp rfl rfl) (by omega) (by omega) (by omega)) ?_
      refine st (v := .agg #[.int .u64 ((e23.V.N : Nat) : Int), .int .i64 e23.V.P, .int .i64 e23.Floor, .slice A36 n37 c38]) (ld38 (cs := [.int .u64 ((e23.V.N : Nat) : Int), .int .i64 e23.V.P, .int .i64 e23.Floor, .slice A36 n37 c38]) (.tmp rfl rfl) ((hat30x hs20).sub 0 rfl) rfl) ?_
      refine st_m (m_lit (n := 1) (ps := [(0, .agg #[.int .u64 ((e23.V.N : Nat) : Int), .int .i64 e23.V.P, .int .i64 e23.Floor, .slice A36 n37 c38])]) (cs := [.int .u64 ((e23.V.N : Nat) : Int), .int .i64 e23.V.P, .int .i64 e23.Floor, .slice A36 n37 c38]) Try.underlying22 inf38 (.cons (.tmp rfl rfl) Evp.nil) (by decide) (by decide) rfl rfl hs20) ?_
      rintro _ w41 ⟨g40, rfl, hs43⟩
      have hs44 : St H _ (row 38 4 v15 ((joinS l).length) cs17 :: obj g40 38 [.int .u64 ((e23.V.N : Nat) : Int), .int .i64 e23.V.P, .int .i64 e23.Floor, .slice A36 n37 c38] :: row 38 4 v8 ((joinS l).length) cs11 :: L) := hs43.pick 1 rfl rfl
      have hr52 : kState.rep H e23 [.int .u64 ((e23.V.N : Nat) : Int), .int .i64 e23.V.P, .int .i64 e23.Floor, .slice A36 n37 c38] := ⟨A36, n37, c38, rfl, b31, ⟨b32, b33⟩, ⟨b34, b35⟩, hl39⟩
      refine st_m (m_appK (d := kState) (ys := [e23]) (news := [.int .u64 ((e23.V.N : Nat) : Int), .int .i64 e23.V.P, .int .i64 e23.Floor, .slice A36 n37 c38]) Try.underlying22 inf38 rfl hs44 ok18 hk19 (.tmp rfl rfl) (.tmp rfl rfl) (Kn.rows_one hr52) rfl (hs44.at_ 1 rfl 0 rfl) (by have : ([e23] : List GState).length = 1 := rfl; omega) (by decide)) ?_
      rintro v45 w46 ⟨cs47, ok48, hk49, hs50⟩
      have hn51 : ((joinS l) ++ [e23]).length = (joinS l).length + 1 := by simp
      refine st (v := v45) (x_assign (.tmp rfl rfl)) ?_
      refine c_nil ?_
      refine n_then ?_
      refine c_seq ?_
      refine c_region ?_
      have hjj := Nat.le_trans (joinTo_length (joinS l) (joinS l).length) hjl; have hj1 : (joinS (joinS l)).length ≤ 40 := hjj; have hmm := joinTo_length (((joinS l) ++ [e23])) (((joinS l) ++ [e23])).length; have hm1 : (joinS (((joinS l) ++ [e23]))).length ≤ (((joinS l) ++ [e23])).length := hmm
      refine st (v := v8) (x_move (.tmp rfl rfl)) ?_
      have hs53 : St H _ (row 38 4 v8 ((joinS l).length) cs11 :: row 38 4 v45 (((joinS l) ++ [e23]).length) cs47 :: obj g40 38 [.int .u64 ((e23.V.N : Nat) : Int), .int .i64 e23.V.P, .int .i64 e23.Floor, .slice A36 n37 c38] :: L) := hs50.pick 2 rfl rfl
      have : (joinS l).length * 48 ≤ 140737488351232 := by omega
      obtain ⟨H54, A55, c56, hle57, hs58, rfl, sp59⟩ := hs53.freezeSl (d := kState) ok9 hk12 this
      have := sp59.len; have := sp59.le
      refine st_c cb17 .func (evs1 (.tmp rfl rfl)) (join_spec hs58 (joinS l) sp59 (fun s hs => hrt.1 s (joinS_sub hs))) ?_
      rintro e w60 ⟨v62, cs65, rfl, ok63, hk66, hs61⟩
      have := sp59.len
      refine ⟨_, rfl, ?_⟩
      refine st (v := .slice A55 ((joinS l).length) c56) (x_move (.tmp rfl rfl)) ?_
      have : (joinS (joinS l)).length * 48 ≤ 140737488351232 := by omega
      obtain ⟨H67, A68, c69, hle70, hs71, rfl, sp72⟩ := hs61.freezeSl (d := kState) ok63 hk66 this
      have := sp72.len; have := sp72.le
      refine st_c cb18 .func (evs2 (.tmp rfl rfl) (.tmp rfl rfl)) (same_spec hs71 (joinS (joinS l)) sp72 (joinS l) (sp59.mono hle70) ) ?_
      rintro e w73 ⟨rfl, hs74⟩
      refine ⟨_, rfl, ?_⟩
      refine st (v := .bool (decide ((joinS (joinS l)) = (joinS l)))) (x_move (.tmp rfl rfl)) ?_
      have hc75 : (decide ((joinS (joinS l)) = (joinS l))) = true := (decide_eq_true (joinS_idem l))
      refine g_yes (yl (dj := 38) (b := true) rfl rfl (congrArg Value.bool hc75)) ?_
      refine st (v := v45) (x_move (.tmp rfl rfl)) ?_
      refine g_yes (yl (dj := 38) (b := true) rfl rfl (congrArg Value.bool hc75)) ?_
      have : ((joinS l) ++ [e23]).length * 48 ≤ 140737488351232 := by omega
      obtain ⟨H76, A77, c78, hle79, hs80, rfl, sp81⟩ := hs74.freezeSl (d := kState) ok48 (Kn.rows_mono (Kn.rows_mono hk49 hle57) hle70) this
      have := sp81.len; have := sp81.le
      refine st_c cb17 .func (evs1 (.tmp rfl rfl)) (join_spec hs80 ((joinS l) ++ [e23]) sp81 (fun s hs => hrt.1 s (by simp at hs; rcases hs with hs | rfl; exact joinS_sub hs; exact List.mem_of_getElem? hx27))) ?_
      rintro e w82 ⟨v84, cs87, rfl, ok85, hk88, hs83⟩
      have := sp81.len
      refine ⟨_, rfl, ?_⟩
      refine g_yes (yl (dj := 38) (b := true) rfl rfl (congrArg Value.bool hc75)) ?_
      refine st (v := .slice A55 ((joinS l).length) c56) (x_move (.tmp rfl rfl)) ?_
      refine g_yes (yl (dj := 38) (b := true) rfl rfl (congrArg Value.bool hc75)) ?_
      have : (joinS ((joinS l) ++ [e23])).length * 48 ≤ 140737488351232 := by omega
      obtain ⟨H89, A90, c91, hle92, hs93, rfl, sp94⟩ := hs83.freezeSl (d := kState) ok85 hk88 this
      have := sp94.len; have := sp94.le
      refine st_c cb18 .func (evs2 (.tmp rfl rfl) (.tmp rfl rfl)) (same_spec hs93 (joinS ((joinS l) ++ [e23])) sp94 (joinS l) (((sp59.mono hle70).mono hle79).mono hle92) ) ?_
      rintro e w95 ⟨rfl, hs96⟩
      refine ⟨_, rfl, ?_⟩
      refine st (v := .bool (decide ((joinS ((joinS l) ++ [e23])) = (joinS l)))) (x_pick_t (.tmp rfl (congrArg Value.bool hc75)) (.tmp rfl rfl)) ?_
      refine st (v := .bool (decide ((joinS ((joinS l) ++ [e23])) = (joinS l)))) (x_assign (.tmp rfl rfl)) ?_
      refine c_nil ?_
      refine n_then ?_
      refine c_ret ?_
      refine leave_ret (res_one (v := .bool (decide ((joinS ((joinS l) ++ [e23])) = (joinS l)))) rfl (.mk rfl rfl)) ?_
      have hyes : (decide ((joinS ((joinS l) ++ [e23])) = (joinS l))) = true := (decide_eq_true (by simpa using joinS_again (l := l) (m := [e23]) (fun s hs => by simp at hs; subst hs; exact List.mem_of_getElem? hx27)))
      rw [hyes]
      exact ⟨rfl, (hs96.drop.weaken (((hle57.trans hle70).trans hle79).trans hle92))⟩
    · have hp22 : ¬ ((0 : Int) < ((n_l : Nat) : Int)) := of_decide_eq_false hc22
      refine c_cond_f (t := false) (.tmp rfl (congrArg Value.bool hc22)) rfl ?_
      refine c_skip ?_
      refine n_then ?_
      refine c_seq ?_
      refine c_region ?_
      have hjj := Nat.le_trans (joinTo_length (joinS l) (joinS l).length) hjl; have hj1 : (joinS (joinS l)).length ≤ 40 := hjj; have hmm := joinTo_length ((joinS l)) ((joinS l)).length; have hm1 : (joinS ((joinS l))).length ≤ ((joinS l)).length := hmm
      refine st (v := v8) (x_move (.tmp rfl rfl)) ?_
      have hs97 : St H _ (row 38 4 v8 ((joinS l).length) cs11 :: row 38 4 v15 ((joinS l).length) cs17 :: L) := hs20.pick 1 rfl rfl
      have : (joinS l).length * 48 ≤ 140737488351232 := by omega
      obtain ⟨H98, A99, c100, hle101, hs102, rfl, sp103⟩ := hs97.freezeSl (d := kState) ok9 hk12 this
      have := sp103.len; have := sp103.le
      refine st_c cb17 .func (evs1 (.tmp rfl rfl)) (join_spec hs102 (joinS l) sp103 (fun s hs => hrt.1 s (joinS_sub hs))) ?_
      rintro e w104 ⟨v106, cs109, rfl, ok107, hk110, hs105⟩
      have := sp103.len
      refine ⟨_, rfl, ?_⟩
      refine st (v := .slice A99 ((joinS l).length) c100) (x_move (.tmp rfl rfl)) ?_
      have : (joinS (joinS l)).length * 48 ≤ 140737488351232 := by omega
      obtain ⟨H111, A112, c113, hle114, hs115, rfl, sp116⟩ := hs105.freezeSl (d := kState) ok107 hk110 this
      have := sp116.len; have := sp116.le
      refine st_c cb18 .func (evs2 (.tmp rfl rfl) (.tmp rfl rfl)) (same_spec hs115 (joinS (joinS l)) sp116 (joinS l) (sp103.mono hle114) ) ?_
      rintro e w117 ⟨rfl, hs118⟩
      refine ⟨_, rfl, ?_⟩
      refine st (v := .bool (decide ((joinS (joinS l)) = (joinS l)))) (x_move (.tmp rfl rfl)) ?_
      have hc119 : (decide ((joinS (joinS l)) = (joinS l))) = true := (decide_eq_true (joinS_idem l))
      refine g_yes (yl (dj := 38) (b := true) rfl rfl (congrArg Value.bool hc119)) ?_
      refine st (v := v15) (x_move (.tmp rfl rfl)) ?_
      refine g_yes (yl (dj := 38) (b := true) rfl rfl (congrArg Value.bool hc119)) ?_
      have : (joinS l).length * 48 ≤ 140737488351232 := by omega
      obtain ⟨H120, A121, c122, hle123, hs124, rfl, sp125⟩ := hs118.freezeSl (d := kState) ok18 (Kn.rows_mono (Kn.rows_mono hk19 hle101) hle114) this
      have := sp125.len; have := sp125.le
      refine st_c cb17 .func (evs1 (.tmp rfl rfl)) (join_spec hs124 (joinS l) sp125 (fun s hs => hrt.1 s (joinS_sub hs))) ?_
      rintro e w126 ⟨v128, cs131, rfl, ok129, hk132, hs127⟩
      have := sp125.len
      refine ⟨_, rfl, ?_⟩
      refine g_yes (yl (dj := 38) (b := true) rfl rfl (congrArg Value.bool hc119)) ?_
      refine st (v := .slice A99 ((joinS l).length) c100) (x_move (.tmp rfl rfl)) ?_
      refine g_yes (yl (dj := 38) (b := true) rfl rfl (congrArg Value.bool hc119)) ?_
      have : (joinS (joinS l)).length * 48 ≤ 140737488351232 := by omega
      obtain ⟨H133, A134, c135, hle136, hs137, rfl, sp138⟩ := hs127.freezeSl (d := kState) ok129 hk132 this
      have := sp138.len; have := sp138.le
      refine st_c cb18 .func (evs2 (.tmp rfl rfl) (.tmp rfl rfl)) (same_spec hs137 (joinS (joinS l)) sp138 (joinS l) (((sp103.mono hle114).mono hle123).mono hle136) ) ?_
      rintro e w139 ⟨rfl, hs140⟩
      refine ⟨_, rfl, ?_⟩
      refine st (v := .bool true) (x_pick_t (.tmp rfl (congrArg Value.bool hc119)) (.tmp rfl (congrArg Value.bool hc119))) ?_
      refine st (v := .bool true) (x_assign (.tmp rfl rfl)) ?_
      refine c_nil ?_
      refine n_then ?_
      refine c_ret ?_
      refine leave_ret (res_one (v := .bool true) rfl (.mk rfl rfl)) ?_
      exact ⟨rfl, (hs140.weaken (((hle101.trans hle114).trans hle123).trans hle136))⟩
  · refine c_cond_t (t := true) (.tmp rfl (congrArg Value.bool (by rw [hc5]; rfl))) rfl ?_
    refine c_seq ?_
    refine c_region ?_
    refine st_c cb10 .func (evs0 ) (awake_spec hs4  ) ?_
    rintro e w141 ⟨rfl, hs142⟩
    refine ⟨_, rfl, ?_⟩
    refine st (v := .bool true) (x_assign (.tmp rfl rfl)) ?_
    refine c_nil ?_
    refine n_then ?_
    refine c_ret ?_
    refine r_then ?_
    refine leave_ret (res_one (v := .bool true) rfl (.mk rfl rfl)) ?_
    exact ⟨rfl, hs142⟩

end Go.Proofs.Ytkbllbphkdnmbaa
