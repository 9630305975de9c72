/- Steps of the proofs over the functions of this seat, printed by a program (gen.py) and checked by Lean. -/
import Derived.Test.YtojlmilkdijiaaaDoorUty
import Derived.Test.YtojlmilkdijiaaaDoorFmM4b
import Derived.Test.YtojlmilkdijiaaaDoorFmP
import Derived.Test.YtojlmilkdijiaaaDoorFmN8
import Derived.Test.YtojlmilkdijiaaaDoorU8d
set_option linter.unusedVariables false
set_option linter.unusedSimpArgs false
namespace Go.Proofs.YtojlmilkdijiaaaDoor
open Go Go.FM Go.Proofs
attribute [local irreducible] wpList wpQuiet wpS Code.wp Calls
set_option maxHeartbeats 8000000 in
theorem keeps_spec {H : Hp} {w : World} {L : List Res} (hs : St H w (L)) {A_p : Option Addr} {n_p c_p : Nat} (p : List Nat) (h_p : By H A_p n_p c_p p) (bit : Nat) (b_bit : bit < 256) (htab : Tab H) : Calls Tryd.prog 8 #[.slice A_p n_p c_p, .int .u8 ((bit : Nat) : Int)] w (fun e w' => e = .returned (.bool true) ∧ St H w' (L)) := by
  have := h_p.len; have := h_p.le; have := h_p.bnd
  refine enter (args := [.slice A_p n_p c_p, .int .u8 ((bit : Nat) : Int)]) (N := 103) Tryd.func8 rfl rfl rfl ?_
  refine c_seq ?_
  refine c_region ?_
  refine st (v := .bool false) (x_assign .const) ?_
  refine c_nil ?_
  refine n_then ?_
  refine c_seq ?_
  refine c_seq ?_
  refine c_region ?_
  refine st_c cb11 .func (evs0 ) (awake_spec hs  htab) ?_
  rintro e w1 ⟨rfl, hs2⟩
  refine ⟨_, rfl, ?_⟩
  refine st (v := .bool false) (x_not (b := true) (.tmp rfl rfl)) ?_
  refine st (v := .bool false) (x_move (.tmp rfl rfl)) ?_
  refine g_yes (yl (dj := 16) (b := false) rfl rfl rfl) ?_
  refine st (v := .slice A_p n_p c_p) (x_move (.tmp rfl rfl)) ?_
  refine g_yes (yl (dj := 16) (b := false) rfl rfl rfl) ?_
  refine st (v := .int .i64 ((n_p : Nat) : Int)) (x_len (n := n_p) Tryd.underlying22 (.tmp rfl rfl)) ?_
  refine g_yes (yl (dj := 16) (b := false) rfl rfl rfl) ?_
  refine st (v := .bool (decide ((((n_p : Nat) : Int) : Int) = 0))) (x_eql (k := .i64) (a := ((n_p : Nat) : Int)) (b := 0) (.tmp rfl rfl) .const) ?_
  refine st (v := .bool (decide ((((n_p : Nat) : Int) : Int) = 0))) (x_pick_f (.tmp rfl rfl) (.tmp rfl rfl)) ?_
  refine st (v := .bool (decide ((((n_p : Nat) : Int) : Int) = 0))) (x_move (.tmp rfl rfl)) ?_
  rcases Bool.eq_false_or_eq_true (decide ((((n_p : Nat) : Int) : Int) = 0)) with hc3 | hc3
  · have hp3 : (((n_p : Nat) : Int) : Int) = 0 := of_decide_eq_true hc3
    refine g_no (yl (dj := 21) (b := true) rfl rfl (congrArg Value.bool hc3)) rfl ?_
    refine g_no (yl (dj := 21) (b := true) rfl rfl (congrArg Value.bool hc3)) rfl ?_
    refine g_no (yl (dj := 21) (b := true) rfl rfl (congrArg Value.bool hc3)) rfl ?_
    refine st (v := .bool true) (x_pick_t (.tmp rfl (congrArg Value.bool hc3)) .const) ?_
    refine c_nil ?_
    refine n_then ?_
    refine c_cond_t (t := true) (.tmp rfl rfl) rfl ?_
    refine c_seq ?_
    refine c_region ?_
    refine st_c cb11 .func (evs0 ) (awake_spec hs2  htab) ?_
    rintro e w4 ⟨rfl, hs5⟩
    refine ⟨_, rfl, ?_⟩
    refine st (v := .bool true) (x_assign (.tmp rfl rfl)) ?_
    refine c_nil ?_
    refine n_then ?_
    refine c_ret ?_
    refine r_then ?_
    refine leave_ret (res_one (v := .bool true) rfl (.mk rfl rfl)) ?_
    exact ⟨rfl, hs5⟩
  · have hp3 : ¬ ((((n_p : Nat) : Int) : Int) = 0) := of_decide_eq_false hc3
    refine g_yes (yl (dj := 21) (b := false) rfl rfl (congrArg Value.bool hc3)) ?_
    refine st (v := .slice A_p n_p c_p) (x_move (.tmp rfl rfl)) ?_
    refine g_yes (yl (dj := 21) (b := false) rfl rfl (congrArg Value.bool hc3)) ?_
    refine st (v := .int .i64 ((n_p : Nat) : Int)) (x_len (n := n_p) Tryd.underlying22 (.tmp rfl rfl)) ?_
    refine g_yes (yl (dj := 21) (b := false) rfl rfl (congrArg Value.bool hc3)) ?_
    refine st (v := .bool (decide ((1000 : Int) < ((n_p : Nat) : Int)))) (x_gtr (k := .i64) (a := ((n_p : Nat) : Int)) (b := 1000) (.tmp rfl rfl) .const) ?_
    refine st (v := .bool (decide ((1000 : Int) < ((n_p : Nat) : Int)))) (x_pick_f (.tmp rfl (congrArg Value.bool hc3)) (.tmp rfl rfl)) ?_
    refine c_nil ?_
    refine n_then ?_
    rcases Bool.eq_false_or_eq_true (decide ((1000 : Int) < ((n_p : Nat) : Int))) with hc6 | hc6
    · have hp6 : (1000 : Int) < ((n_p : Nat) : Int) := of_decide_eq_true hc6
      refine c_cond_t (t := true) (.tmp rfl (congrArg Value.bool hc6)) rfl ?_
      refine c_seq ?_
      refine c_region ?_
      refine st_c cb11 .func (evs0 ) (awake_spec hs2  htab) ?_
      rintro e w7 ⟨rfl, hs8⟩
      refine ⟨_, rfl, ?_⟩
      refine st (v := .bool true) (x_assign (.tmp rfl rfl)) ?_
      refine c_nil ?_
      refine n_then ?_
      refine c_ret ?_
      refine r_then ?_
      refine leave_ret (res_one (v := .bool true) rfl (.mk rfl rfl)) ?_
      exact ⟨rfl, hs8⟩
    · have hp6 : ¬ ((1000 : Int) < ((n_p : Nat) : Int)) := of_decide_eq_false hc6
      refine c_cond_f (t := false) (.tmp rfl (congrArg Value.bool hc6)) rfl ?_
      refine c_skip ?_
      refine n_then ?_
      refine c_seq ?_
      refine c_region ?_
      refine st_c cb12 .func (evs1 .const) (new_spec hs2 2 ⟨by omega, by omega⟩ (by omega) (by omega)) ?_
      rintro e w9 ⟨g11, vb12, cb13, vt14, ct15, rfl, ok16, hs10⟩
      refine ⟨_, rfl, ?_⟩
      refine st (v := .tuple #[.pointer (some ⟨g11, 0, none⟩), .int .i64 0]) (x_move (.tmp rfl rfl)) ?_
      refine st (v := .pointer (some ⟨g11, 0, none⟩)) (x_extract (.tmp rfl rfl) (i := 0) rfl) ?_
      refine st (v := .int .i64 0) (x_extract (.tmp rfl rfl) (i := 1) rfl) ?_
      refine st (v := .pointer (some ⟨g11, 0, none⟩)) (x_assign (.tmp rfl rfl)) ?_
      refine st (v := .int .i64 0) (x_assign (.tmp rfl rfl)) ?_
      refine c_nil ?_
      refine n_then ?_
      refine c_seq ?_
      refine c_region ?_
      refine st (v := .slice A_p n_p c_p) (x_move (.tmp rfl rfl)) ?_
      refine st_m (m_appNil Tryd.underlying22 inf5 hs10 .const (.tmp rfl rfl) h_p.toBs (by omega)) ?_
      rintro v19 w20 ⟨ok21, hs22⟩
      refine st (v := v19) (x_assign (.tmp rfl rfl)) ?_
      refine c_nil ?_
      refine n_then ?_
      refine c_seq ?_
      refine c_seq ?_
      refine c_region ?_
      refine st (v := .pointer (some ⟨g11, 0, none⟩)) (x_move (.tmp rfl rfl)) ?_
      refine st (v := v19) (x_move (.tmp rfl rfl)) ?_
      obtain ⟨A24, c25, rfl, hc26⟩ := ok21.slice
      skip
      refine st (v := .agg #[.int .i64 0, .int .i64 1, .slice A24 n_p c25]) (bl37 (ps := [(1, .int .i64 1), (2, .slice A24 n_p c25)]) (.cons .const (.cons (.tmp rfl rfl) Evp.nil)) rfl) ?_
      obtain ⟨H27, hle30, hs31, hy32, hth33⟩ := hs22.lendBsC ok21 h_p.toBs.lt (by omega)
      have hs35 : St H27 _ (netG 64 37 3 5 g11 (netNew 2) vb12 cb13 vt14 ct15 (L)) := St.netUp [] hs31
      have hr36 : kPacket.rep H27 (GPacket.mk 0 1 p) [.int .i64 0, .int .i64 1, .slice A24 n_p c25] := ⟨A24, n_p, c25, rfl, (show IB 0 from ⟨by omega, by omega⟩), (show IB 1 from ⟨by omega, by omega⟩), hy32⟩
      refine st_c cb17 .func (evs2 (.tmp rfl rfl) (.tmp rfl rfl)) (Put_spec hs35 (NetOk.mono ok16 hle30) (GPacket.mk 0 1 p) hr36 (by decide +kernel)) ?_
      rintro e w37 ⟨nt44, vb39, cb40, vt41, ct42, v_46, rfl, ok43, hnt45, hs38⟩
      refine ⟨_, rfl, ?_⟩
      have hs47 : St H27 _ (netG 64 37 3 5 g11 nt44 vb39 cb40 vt41 ct42 (L)) := St.netDown [] hs38
      have hs34 : St H _ (row 5 1 (.slice A24 n_p c25) n_p (p.map encB) :: netG 64 37 3 5 g11 nt44 vb39 cb40 vt41 ct42 (L)) := hth33 hs47
      have hB1 : TwoAt nt44 [p] [0] := by rw [hnt45]; exact TwoAt.new.put (by decide) p 0 _
      skip
      refine st (v := .bool (decide ((((netNew 2).putE (GPacket.mk 0 1 p).From (GPacket.mk 0 1 p).To) : Int) ≠ 0))) (x_neq (k := .i64) (a := ((netNew 2).putE (GPacket.mk 0 1 p).From (GPacket.mk 0 1 p).To)) (b := 0) (.tmp rfl rfl) .const) ?_
      refine st (v := .bool (decide ((((netNew 2).putE (GPacket.mk 0 1 p).From (GPacket.mk 0 1 p).To) : Int) ≠ 0))) (x_move (.tmp rfl rfl)) ?_
      have hc48 : (decide ((((netNew 2).putE (GPacket.mk 0 1 p).From (GPacket.mk 0 1 p).To) : Int) ≠ 0)) = false := (decide_eq_false (fun h => h (TwoAt.new.putE (by decide))))
      refine g_yes (yl (dj := 38) (b := false) rfl rfl (congrArg Value.bool hc48)) ?_
      refine st (v := .pointer (some ⟨g11, 0, none⟩)) (x_move (.tmp rfl rfl)) ?_
      refine g_yes (yl (dj := 38) (b := false) rfl rfl (congrArg Value.bool hc48)) ?_
      have hs49 : St H _ (netG 64 37 3 5 g11 nt44 vb39 cb40 vt41 ct42 (row 5 1 (.slice A24 n_p c25) n_p (p.map encB) :: L)) := St.netUp [row 5 1 (.slice A24 n_p c25) n_p (p.map encB)] hs34
      refine st_c cb20 .func (evs2 (.tmp rfl rfl) .const) (Double_spec hs49 (NetOk.any ok43) 0 ⟨by omega, by omega⟩ (by have h8 := hB1.lost; omega)) ?_
      rintro e w50 ⟨nt57, vb52, cb53, vt54, ct55, v_59, rfl, ok56, hnt58, hs51⟩
      refine ⟨_, rfl, ?_⟩
      have hs60 : St H _ (row 5 1 (.slice A24 n_p c25) n_p (p.map encB) :: netG 64 37 3 5 g11 nt57 vb52 cb53 vt54 ct55 (L)) := St.netDown [row 5 1 (.slice A24 n_p c25) n_p (p.map encB)] hs51
      refine g_yes (yl (dj := 38) (b := false) rfl rfl (congrArg Value.bool hc48)) ?_
      have hB2 : TwoAt nt57 [p, p] [0, 0] := by rw [hnt58]; exact (hB1.double (i := 0) (m := 0) (b := p) (Nat.le_of_ble_eq_true rfl) rfl rfl).2 _
      skip
      refine st (v := .bool (decide (((nt44.doubleE 0) : Int) ≠ 0))) (x_neq (k := .i64) (a := (nt44.doubleE 0)) (b := 0) (.tmp rfl rfl) .const) ?_
      refine st (v := .bool (decide (((nt44.doubleE 0) : Int) ≠ 0))) (x_pick_f (.tmp rfl (congrArg Value.bool hc48)) (.tmp rfl rfl)) ?_
      refine c_nil ?_
      refine n_then ?_
      have hc61 : (decide (((nt44.doubleE 0) : Int) ≠ 0)) = false := (decide_eq_false (fun h => h (hB1.double (i := 0) (m := 0) (b := p) (Nat.le_of_ble_eq_true rfl) rfl rfl).1))
      refine c_cond_f (t := false) (.tmp rfl (congrArg Value.bool hc61)) rfl ?_
      refine c_skip ?_
      refine n_then ?_
      refine c_seq ?_
      refine c_region ?_
      have hpl := h_p.len
      skip
      refine st (v := .slice A24 n_p c25) (x_move (.tmp rfl rfl)) ?_
      refine st (v := .slice A24 n_p c25) (x_move (.tmp rfl rfl)) ?_
      obtain ⟨g62, c63, hv64⟩ := ok21.pos (by omega)
      refine st (v := .pointer (some ⟨g62, (0), none⟩)) (ixo22 (.tmp rfl hv64) rfl (i := 0) .const (by omega) (by omega) (by omega)) ?_
      obtain ⟨z65, hz66⟩ : ∃ x, p[0]? = some x := ⟨_, List.getElem?_eq_getElem (by omega)⟩
      refine st (v := .int .u8 ((z65 : Nat) : Int)) (ld5 (.tmp rfl rfl) (hs60.rowEnc (enc := encB) 0 rfl hv64 0 hz66)) ?_
      have hb67 : (z65 ^^^ 1) < 256 := Nat.xor_lt_two_pow (n := 8) (h_p.toBs.lt _ (List.mem_of_getElem? hz66)) (by decide)
      refine st (v := .int .u8 (((z65 ^^^ 1) : Nat) : Int)) (x_xor (k := .u8) (m := z65) (n := 1) rfl (.tmp rfl rfl) .const (show _ < 2 ^ 8 from (h_p.toBs.lt _ (List.mem_of_getElem? hz66))) (show _ < 2 ^ 8 from (by decide))) ?_
      obtain ⟨g68, c69, hv70⟩ := ok21.pos (by omega)
      refine st (v := .pointer (some ⟨g68, (0), none⟩)) (ixo22 (.tmp rfl hv70) rfl (i := 0) .const (by omega) (by omega) (by omega)) ?_
      refine st_m0 (stor5 hs60 hv70 (i := 0) (.tmp rfl rfl) (.tmp rfl rfl) rfl (by simp; omega) one1 (splice_set (by omega))) ?_
      rintro w71 hs72
      have ok73 := ok21.setB (i := 0) (a := (z65 ^^^ 1))
      refine c_nil ?_
      refine n_then ?_
      refine c_seq ?_
      refine c_region ?_
      have hpk := (hB2.at_ (i := 0) (m := 0) (b := p) rfl rfl).2
      refine st (v := .pointer (some ⟨g11, 0, none⟩)) (x_move (.tmp rfl rfl)) ?_
      have hs74 : St H _ (netG 64 37 3 5 g11 nt57 vb52 cb53 vt54 ct55 (row 5 1 (.slice A24 n_p c25) n_p ((p.set 0 (z65 ^^^ 1)).map encB) :: L)) := St.netUp [row 5 1 (.slice A24 n_p c25) n_p ((p.set 0 (z65 ^^^ 1)).map encB)] hs72
      refine st_c cb21 .func (evs2 (.tmp rfl rfl) .const) (Peek_spec hs74 ok56 0 ⟨by omega, by omega⟩ ) ?_
      rintro e w75 ⟨v77, rfl, ⟨b82, b83⟩, ⟨b84, b85⟩, sm78, ok79, lb80, hs76⟩
      refine ⟨_, rfl, ?_⟩
      have hs86 := St.netUp [row 5 1 v77 ((nt57.peekP 0).Bytes.length) (((nt57.peekP 0).Bytes).map encB)] hs76
      have hs87 : St H _ (row 5 1 v77 ((nt57.peekP 0).Bytes.length) (((nt57.peekP 0).Bytes).map encB) :: row 5 1 (.slice A24 n_p c25) n_p ((p.set 0 (z65 ^^^ 1)).map encB) :: netG 64 37 3 5 g11 nt57 vb52 cb53 vt54 ct55 (L)) := St.netDown [row 5 1 v77 ((nt57.peekP 0).Bytes.length) (((nt57.peekP 0).Bytes).map encB), row 5 1 (.slice A24 n_p c25) n_p ((p.set 0 (z65 ^^^ 1)).map encB)] hs86
      refine st (v := .tuple #[.agg #[.int .i64 ((nt57.peekP 0).From), .int .i64 ((nt57.peekP 0).To), v77], .int .i64 (nt57.lookE 0)]) (x_move (.tmp rfl rfl)) ?_
      refine st (v := .agg #[.int .i64 ((nt57.peekP 0).From), .int .i64 ((nt57.peekP 0).To), v77]) (x_extract (.tmp rfl rfl) (i := 0) rfl) ?_
      refine st (v := .int .i64 (nt57.lookE 0)) (x_extract (.tmp rfl rfl) (i := 1) rfl) ?_
      refine st_m (al37 (cs := [.int .i64 0, .int .i64 0, .slice none 0 0]) hs87 rfl) ?_
      rintro _ w89 ⟨g88, rfl, hs91⟩
      refine st_m0 (sto37 (cs' := [.int .i64 ((nt57.peekP 0).From), .int .i64 ((nt57.peekP 0).To), v77]) (i := 0) hs91 (v := .agg #[.int .i64 ((nt57.peekP 0).From), .int .i64 ((nt57.peekP 0).To), v77]) (.tmp rfl rfl) (.tmp rfl rfl) rfl (Nat.le_of_ble_eq_true rfl) (oneA (allC rfl (allC rfl (allC (RowOk.oneC ok79) rfl)))) rfl) ?_
      rintro w92 hs94
      refine st (v := .int .i64 (nt57.lookE 0)) (x_assign (.tmp rfl rfl)) ?_
      refine c_nil ?_
      refine n_then ?_
      refine c_seq ?_
      refine s_region (L := obj g88 37 [.int .i64 ((nt57.peekP 0).From), .int .i64 ((nt57.peekP 0).To), v77] :: row 5 1 v77 ((nt57.peekP 0).Bytes.length) (((nt57.peekP 0).Bytes).map encB) :: row 5 1 (.slice A24 n_p c25) n_p ((p.set 0 (z65 ^^^ 1)).map encB) :: netG 64 37 3 5 g11 nt57 vb52 cb53 vt54 ct55 (L)) (L' := obj g88 37 [.int .i64 ((nt57.peekP 0).From), .int .i64 ((nt57.peekP 0).To), v77] :: row 5 1 v77 ((nt57.peekP 0).Bytes.length) (((nt57.peekP 0).Bytes).map encB) :: row 5 1 (.slice A24 n_p c25) n_p ((p.set 0 (z65 ^^^ 1)).map encB) :: netG 64 37 3 5 g11 nt57 vb52 cb53 vt54 ct55 (L)) (some 8) [(0, true), (1, true), (2, true), (3, true), (4, true), (5, true), (6, true), (7, true), (8, false)] mixed hs94 (fun u hu => hu) (by kernel_rfl) ?_
      intro w95 hs96
      have hpl2 : (nt57.peekP 0).Bytes.length = n_p := by rw [hpk]; exact h_p.len
      skip
      refine s_st (k := 0) (v := .pointer (some ⟨g88, 0 + 2, none⟩)) rfl (fun w hs => (fa37_2 (.tmp rfl rfl))) ?_
      refine s_st (k := 1) (v := v77) rfl (fun w hs => (ld22 (.tmp rfl rfl) (hs.cell 0 rfl (0 + 2) rfl))) ?_
      refine s_st (k := 2) (v := .pointer (some ⟨g88, 0 + 2, none⟩)) rfl (fun w hs => (fa37_2 (.tmp rfl rfl))) ?_
      refine s_st (k := 3) (v := v77) rfl (fun w hs => (ld22 (.tmp rfl rfl) (hs.cell 0 rfl (0 + 2) rfl))) ?_
      obtain ⟨g97, c98, hv99⟩ := ok79.pos (by omega)
      refine s_st (k := 4) (v := .pointer (some ⟨g97, (0), none⟩)) rfl (fun w hs => (ixo22 (.tmp rfl hv99) rfl (i := 0) .const (by omega) (by omega) (by omega))) ?_
      obtain ⟨z100, hz101⟩ : ∃ x, ((nt57.peekP 0).Bytes)[0]? = some x := ⟨_, List.getElem?_eq_getElem (by omega)⟩
      refine s_st (k := 5) (v := .int .u8 ((z100 : Nat) : Int)) rfl (fun w hs => (ld5 (.tmp rfl rfl) (hs.rowEnc (enc := encB) 1 rfl hv99 0 hz101))) ?_
      have hb102 : (z100 ^^^ 2) < 256 := Nat.xor_lt_two_pow (n := 8) (sm78 _ (List.mem_of_getElem? hz101)) (by decide)
      refine s_st (k := 6) (v := .int .u8 (((z100 ^^^ 2) : Nat) : Int)) rfl (fun w hs => (x_xor (k := .u8) (m := z100) (n := 2) rfl (.tmp rfl rfl) .const (show _ < 2 ^ 8 from (sm78 _ (List.mem_of_getElem? hz101))) (show _ < 2 ^ 8 from (by decide)))) ?_
      obtain ⟨g103, c104, hv105⟩ := ok79.pos (by omega)
      refine s_st (k := 7) (v := .pointer (some ⟨g103, (0), none⟩)) rfl (fun w hs => (ixo22 (.tmp rfl hv105) rfl (i := 0) .const (by omega) (by omega) (by omega))) ?_
      refine s_eff (k := 8) rfl ?_
      have hs106 : St H _ (row 5 1 v77 ((nt57.peekP 0).Bytes.length) (((nt57.peekP 0).Bytes).map encB) :: obj g88 37 [.int .i64 ((nt57.peekP 0).From), .int .i64 ((nt57.peekP 0).To), v77] :: row 5 1 (.slice A24 n_p c25) n_p ((p.set 0 (z65 ^^^ 1)).map encB) :: netG 64 37 3 5 g11 nt57 vb52 cb53 vt54 ct55 (L)) := hs96.pick 1 rfl rfl
      refine st_m0 (stor5 hs106 hv105 (i := 0) (.tmp rfl rfl) (.tmp rfl rfl) rfl (by simp; omega) one1 (splice_set (by omega))) ?_
      rintro w107 hs108
      have ok109 := ok79.setB (i := 0) (a := (z100 ^^^ 2))
      refine s_end ?_
      refine n_then ?_
      refine c_seq ?_
      refine c_seq ?_
      refine c_region ?_
      refine st (v := .pointer (some ⟨g11, 0, none⟩)) (x_move (.tmp rfl rfl)) ?_
      refine st (v := .int .u8 ((bit : Nat) : Int)) (x_move (.tmp rfl rfl)) ?_
      refine st (v := .int .i64 ((bit : Nat) : Int)) (x_conv (k := .u8) (a := ((bit : Nat) : Int)) Tryd.underlying5 Tryd.underlying3 (.tmp rfl rfl) (w64 (by omega) (by omega))) ?_
      refine st (v := .slice A_p n_p c_p) (x_move (.tmp rfl rfl)) ?_
      refine st (v := .int .i64 ((n_p : Nat) : Int)) (x_len (n := n_p) Tryd.underlying22 (.tmp rfl rfl)) ?_
      refine st (v := .int .i64 (((8 * n_p) : Nat) : Int)) (x_mul (k := .i64) (a := 8) (b := ((n_p : Nat) : Int)) .const (.tmp rfl rfl) ((w64 (by omega) (by omega)).trans (by omega))) ?_
      have : bit % (8 * n_p) < (8 * n_p) := Nat.mod_lt _ (by omega)
      refine st (v := .int .i64 (((bit % (8 * n_p)) : Nat) : Int)) (x_remN (k := .i64) (m := bit) (n := (8 * n_p)) (.tmp rfl rfl) (.tmp rfl rfl) (by omega)) ?_
      have hU := TwoAt.turn (i := 1) (m := 1) (b := p) (j := (bit % (8 * n_p))) hB2 rfl rfl (by omega) (by decide)
      have hs110 : St H _ (netG 64 37 3 5 g11 nt57 vb52 cb53 vt54 ct55 (row 5 1 v77 ((nt57.peekP 0).Bytes.length) ((((nt57.peekP 0).Bytes).set 0 (z100 ^^^ 2)).map encB) :: obj g88 37 [.int .i64 ((nt57.peekP 0).From), .int .i64 ((nt57.peekP 0).To), v77] :: row 5 1 (.slice A24 n_p c25) n_p ((p.set 0 (z65 ^^^ 1)).map encB) :: L)) := St.netUp [row 5 1 v77 ((nt57.peekP 0).Bytes.length) ((((nt57.peekP 0).Bytes).set 0 (z100 ^^^ 2)).map encB), obj g88 37 [.int .i64 ((nt57.peekP 0).From), .int .i64 ((nt57.peekP 0).To), v77], row 5 1 (.slice A24 n_p c25) n_p ((p.set 0 (z65 ^^^ 1)).map encB)] hs108
      refine st_c cb19 .func (evs3 (.tmp rfl rfl) .const (.tmp rfl rfl)) (Turn_spec hs110 ok56 1 ⟨by omega, by omega⟩ (((bit % (8 * n_p)) : Nat) : Int) ⟨by omega, by omega⟩ ) ?_
      rintro e w111 ⟨nt118, vb113, cb114, vt115, ct116, rfl, ok117, hnt119, hs112⟩
      refine ⟨_, rfl, ?_⟩
      have hs120 : St H _ (row 5 1 v77 ((nt57.peekP 0).Bytes.length) ((((nt57.peekP 0).Bytes).set 0 (z100 ^^^ 2)).map encB) :: obj g88 37 [.int .i64 ((nt57.peekP 0).From), .int .i64 ((nt57.peekP 0).To), v77] :: row 5 1 (.slice A24 n_p c25) n_p ((p.set 0 (z65 ^^^ 1)).map encB) :: netG 64 37 3 5 g11 nt118 vb113 cb114 vt115 ct116 (L)) := St.netDown [row 5 1 v77 ((nt57.peekP 0).Bytes.length) ((((nt57.peekP 0).Bytes).set 0 (z100 ^^^ 2)).map encB), obj g88 37 [.int .i64 ((nt57.peekP 0).From), .int .i64 ((nt57.peekP 0).To), v77], row 5 1 (.slice A24 n_p c25) n_p ((p.set 0 (z65 ^^^ 1)).map encB)] hs112
      have hB3 : TwoAt nt118 [p, (turnB p (((bit % (8 * n_p)) : Nat) : Int))] [0, 1] := by rw [hnt119]; exact hU.2
      skip
      refine st (v := .bool (decide (((nt57.turnE 1 (((bit % (8 * n_p)) : Nat) : Int)) : Int) ≠ 0))) (x_neq (k := .i64) (a := (nt57.turnE 1 (((bit % (8 * n_p)) : Nat) : Int))) (b := 0) (.tmp rfl rfl) .const) ?_
      refine c_nil ?_
      refine n_then ?_
      have hc121 : (decide (((nt57.turnE 1 (((bit % (8 * n_p)) : Nat) : Int)) : Int) ≠ 0)) = false := (decide_eq_false (fun h => h hU.1))
      refine c_cond_f (t := false) (.tmp rfl (congrArg Value.bool hc121)) rfl ?_
      refine c_skip ?_
      refine n_then ?_
      refine c_seq ?_
      refine c_region ?_
      have hT1 := hB3.take (i := 0) (m := 0) (b := p) rfl rfl
      refine st (v := .pointer (some ⟨g11, 0, none⟩)) (x_move (.tmp rfl rfl)) ?_
      have hs122 : St H _ (netG 64 37 3 5 g11 nt118 vb113 cb114 vt115 ct116 (row 5 1 v77 ((nt57.peekP 0).Bytes.length) ((((nt57.peekP 0).Bytes).set 0 (z100 ^^^ 2)).map encB) :: obj g88 37 [.int .i64 ((nt57.peekP 0).From), .int .i64 ((nt57.peekP 0).To), v77] :: row 5 1 (.slice A24 n_p c25) n_p ((p.set 0 (z65 ^^^ 1)).map encB) :: L)) := St.netUp [row 5 1 v77 ((nt57.peekP 0).Bytes.length) ((((nt57.peekP 0).Bytes).set 0 (z100 ^^^ 2)).map encB), obj g88 37 [.int .i64 ((nt57.peekP 0).From), .int .i64 ((nt57.peekP 0).To), v77], row 5 1 (.slice A24 n_p c25) n_p ((p.set 0 (z65 ^^^ 1)).map encB)] hs120
      refine st_c cb22 .func (evs2 (.tmp rfl rfl) .const) (Take_spec hs122 ok117 0 ⟨by omega, by omega⟩ (by have h8 := hB3.lost; omega)) ?_
      rintro e w123 ⟨v125, nt139, vb134, cb135, vt136, ct137, rfl, ⟨b130, b131⟩, ⟨b132, b133⟩, sm126, ok127, lb128, ok138, hnt140, hs124⟩
      refine ⟨_, rfl, ?_⟩
      have hs141 := St.netUp [row 5 1 v125 ((nt118.takeP 0).Bytes.length) (((nt118.takeP 0).Bytes).map encB)] hs124
      have hs142 : St H _ (row 5 1 v125 ((nt118.takeP 0).Bytes.length) (((nt118.takeP 0).Bytes).map encB) :: row 5 1 v77 ((nt57.peekP 0).Bytes.length) ((((nt57.peekP 0).Bytes).set 0 (z100 ^^^ 2)).map encB) :: obj g88 37 [.int .i64 ((nt57.peekP 0).From), .int .i64 ((nt57.peekP 0).To), v77] :: row 5 1 (.slice A24 n_p c25) n_p ((p.set 0 (z65 ^^^ 1)).map encB) :: netG 64 37 3 5 g11 nt139 vb134 cb135 vt136 ct137 (L)) := St.netDown [row 5 1 v125 ((nt118.takeP 0).Bytes.length) (((nt118.takeP 0).Bytes).map encB), row 5 1 v77 ((nt57.peekP 0).Bytes.length) ((((nt57.peekP 0).Bytes).set 0 (z100 ^^^ 2)).map encB), obj g88 37 [.int .i64 ((nt57.peekP 0).From), .int .i64 ((nt57.peekP 0).To), v77], row 5 1 (.slice A24 n_p c25) n_p ((p.set 0 (z65 ^^^ 1)).map encB)] hs141
      have hB4 : TwoAt nt139 [(turnB p (((bit % (8 * n_p)) : Nat) : Int))] [1] := by rw [hnt140]; exact hT1.2.2
      skip
      refine st (v := .tuple #[.agg #[.int .i64 ((nt118.takeP 0).From), .int .i64 ((nt118.takeP 0).To), v125], .int .i64 (nt118.takeE 0)]) (x_move (.tmp rfl rfl)) ?_
      refine st (v := .agg #[.int .i64 ((nt118.takeP 0).From), .int .i64 ((nt118.takeP 0).To), v125]) (x_extract (.tmp rfl rfl) (i := 0) rfl) ?_
      refine st (v := .int .i64 (nt118.takeE 0)) (x_extract (.tmp rfl rfl) (i := 1) rfl) ?_
      refine st_m (al37 (cs := [.int .i64 0, .int .i64 0, .slice none 0 0]) hs142 rfl) ?_
      rintro _ w144 ⟨g143, rfl, hs146⟩
      refine st_m0 (sto37 (cs' := [.int .i64 ((nt118.takeP 0).From), .int .i64 ((nt118.takeP 0).To), v125]) (i := 0) hs146 (v := .agg #[.int .i64 ((nt118.takeP 0).From), .int .i64 ((nt118.takeP 0).To), v125]) (.tmp rfl rfl) (.tmp rfl rfl) rfl (Nat.le_of_ble_eq_true rfl) (oneA (allC rfl (allC rfl (allC (RowOk.oneC ok127) rfl)))) rfl) ?_
      rintro w147 hs149
      refine st (v := .int .i64 (nt118.takeE 0)) (x_assign (.tmp rfl rfl)) ?_
      refine c_nil ?_
      refine n_then ?_
      refine c_seq ?_
      refine c_region ?_
      have hT2 := hB4.take (i := 0) (m := 0) (b := (turnB p (((bit % (8 * n_p)) : Nat) : Int))) rfl rfl
      refine st (v := .pointer (some ⟨g11, 0, none⟩)) (x_move (.tmp rfl rfl)) ?_
      have hs150 : St H _ (netG 64 37 3 5 g11 nt139 vb134 cb135 vt136 ct137 (obj g143 37 [.int .i64 ((nt118.takeP 0).From), .int .i64 ((nt118.takeP 0).To), v125] :: row 5 1 v125 ((nt118.takeP 0).Bytes.length) (((nt118.takeP 0).Bytes).map encB) :: row 5 1 v77 ((nt57.peekP 0).Bytes.length) ((((nt57.peekP 0).Bytes).set 0 (z100 ^^^ 2)).map encB) :: obj g88 37 [.int .i64 ((nt57.peekP 0).From), .int .i64 ((nt57.peekP 0).To), v77] :: row 5 1 (.slice A24 n_p c25) n_p ((p.set 0 (z65 ^^^ 1)).map encB) :: L)) := St.netUp [obj g143 37 [.int .i64 ((nt118.takeP 0).From), .int .i64 ((nt118.takeP 0).To), v125], row 5 1 v125 ((nt118.takeP 0).Bytes.length) (((nt118.takeP 0).Bytes).map encB), row 5 1 v77 ((nt57.peekP 0).Bytes.length) ((((nt57.peekP 0).Bytes).set 0 (z100 ^^^ 2)).map encB), obj g88 37 [.int .i64 ((nt57.peekP 0).From), .int .i64 ((nt57.peekP 0).To), v77], row 5 1 (.slice A24 n_p c25) n_p ((p.set 0 (z65 ^^^ 1)).map encB)] hs149
      refine st_c cb22 .func (evs2 (.tmp rfl rfl) .const) (Take_spec hs150 ok138 0 ⟨by omega, by omega⟩ (by have h8 := hB4.lost; omega)) ?_
      rintro e w151 ⟨v153, nt167, vb162, cb163, vt164, ct165, rfl, ⟨b158, b159⟩, ⟨b160, b161⟩, sm154, ok155, lb156, ok166, hnt168, hs152⟩
      refine ⟨_, rfl, ?_⟩
      have hs169 := St.netUp [row 5 1 v153 ((nt139.takeP 0).Bytes.length) (((nt139.takeP 0).Bytes).map encB)] hs152
      have hs170 : St H _ (row 5 1 v153 ((nt139.takeP 0).Bytes.length) (((nt139.takeP 0).Bytes).map encB) :: obj g143 37 [.int .i64 ((nt118.takeP 0).From), .int .i64 ((nt118.takeP 0).To), v125] :: row 5 1 v125 ((nt118.takeP 0).Bytes.length) (((nt118.takeP 0).Bytes).map encB) :: row 5 1 v77 ((nt57.peekP 0).Bytes.length) ((((nt57.peekP 0).Bytes).set 0 (z100 ^^^ 2)).map encB) :: obj g88 37 [.int .i64 ((nt57.peekP 0).From), .int .i64 ((nt57.peekP 0).To), v77] :: row 5 1 (.slice A24 n_p c25) n_p ((p.set 0 (z65 ^^^ 1)).map encB) :: netG 64 37 3 5 g11 nt167 vb162 cb163 vt164 ct165 (L)) := St.netDown [row 5 1 v153 ((nt139.takeP 0).Bytes.length) (((nt139.takeP 0).Bytes).map encB), obj g143 37 [.int .i64 ((nt118.takeP 0).From), .int .i64 ((nt118.takeP 0).To), v125], row 5 1 v125 ((nt118.takeP 0).Bytes.length) (((nt118.takeP 0).Bytes).map encB), row 5 1 v77 ((nt57.peekP 0).Bytes.length) ((((nt57.peekP 0).Bytes).set 0 (z100 ^^^ 2)).map encB), obj g88 37 [.int .i64 ((nt57.peekP 0).From), .int .i64 ((nt57.peekP 0).To), v77], row 5 1 (.slice A24 n_p c25) n_p ((p.set 0 (z65 ^^^ 1)).map encB)] hs169
      refine st (v := .tuple #[.agg #[.int .i64 ((nt139.takeP 0).From), .int .i64 ((nt139.takeP 0).To), v153], .int .i64 (nt139.takeE 0)]) (x_move (.tmp rfl rfl)) ?_
      refine st (v := .agg #[.int .i64 ((nt139.takeP 0).From), .int .i64 ((nt139.takeP 0).To), v153]) (x_extract (.tmp rfl rfl) (i := 0) rfl) ?_
      refine st (v := .int .i64 (nt139.takeE 0)) (x_extract (.tmp rfl rfl) (i := 1) rfl) ?_
      refine st_m (al37 (cs := [.int .i64 0, .int .i64 0, .slice none 0 0]) hs170 rfl) ?_
      rintro _ w172 ⟨g171, rfl, hs174⟩
      refine st_m0 (sto37 (cs' := [.int .i64 ((nt139.takeP 0).From), .int .i64 ((nt139.takeP 0).To), v153]) (i := 0) hs174 (v := .agg #[.int .i64 ((nt139.takeP 0).From), .int .i64 ((nt139.takeP 0).To), v153]) (.tmp rfl rfl) (.tmp rfl rfl) rfl (Nat.le_of_ble_eq_true rfl) (oneA (allC rfl (allC rfl (allC (RowOk.oneC ok155) rfl)))) rfl) ?_
      rintro w175 hs177
      refine st (v := .int .i64 (nt139.takeE 0)) (x_assign (.tmp rfl rfl)) ?_
      refine c_nil ?_
      refine n_then ?_
      refine c_seq ?_
      refine c_region ?_
      refine st (v := .int .i64 (nt118.takeE 0)) (x_move (.tmp rfl rfl)) ?_
      refine st (v := .bool (decide (((nt118.takeE 0) : Int) = 0))) (x_eql (k := .i64) (a := (nt118.takeE 0)) (b := 0) (.tmp rfl rfl) .const) ?_
      refine st (v := .bool (decide (((nt118.takeE 0) : Int) = 0))) (x_move (.tmp rfl rfl)) ?_
      have hc178 : (decide (((nt118.takeE 0) : Int) = 0)) = true := (decide_eq_true hT1.1)
      refine g_yes (yl (dj := 83) (b := true) rfl rfl (congrArg Value.bool hc178)) ?_
      refine st (v := .int .i64 (nt139.takeE 0)) (x_move (.tmp rfl rfl)) ?_
      refine g_yes (yl (dj := 83) (b := true) rfl rfl (congrArg Value.bool hc178)) ?_
      refine st (v := .bool (decide (((nt139.takeE 0) : Int) = 0))) (x_eql (k := .i64) (a := (nt139.takeE 0)) (b := 0) (.tmp rfl rfl) .const) ?_
      refine st (v := .bool (decide (((nt139.takeE 0) : Int) = 0))) (x_pick_t (.tmp rfl (congrArg Value.bool hc178)) (.tmp rfl rfl)) ?_
      refine st (v := .bool (decide (((nt139.takeE 0) : Int) = 0))) (x_move (.tmp rfl rfl)) ?_
      have hc179 : (decide (((nt139.takeE 0) : Int) = 0)) = true := (decide_eq_true hT2.1)
      refine g_yes (yl (dj := 87) (b := true) rfl rfl (congrArg Value.bool hc179)) ?_
      refine st (v := .pointer (some ⟨g143, 0 + 2, none⟩)) (fa37_2 (.tmp rfl rfl)) ?_
      refine g_yes (yl (dj := 87) (b := true) rfl rfl (congrArg Value.bool hc179)) ?_
      refine st (v := v125) (ld22 (.tmp rfl rfl) (hs177.cell 2 rfl (0 + 2) rfl)) ?_
      refine g_yes (yl (dj := 87) (b := true) rfl rfl (congrArg Value.bool hc179)) ?_
      refine st (v := .string (bstr ((nt118.takeP 0).Bytes))) (hs177.rowStr Tryd.underlying22 Tryd.underlying5 Tryd.underlying9 3 rfl ok127 (.tmp rfl rfl)) ?_
      refine g_yes (yl (dj := 87) (b := true) rfl rfl (congrArg Value.bool hc179)) ?_
      refine st (v := .slice A_p n_p c_p) (x_move (.tmp rfl rfl)) ?_
      refine g_yes (yl (dj := 87) (b := true) rfl rfl (congrArg Value.bool hc179)) ?_
      refine st (v := .string (bstr p)) (h_p.toBs.str Tryd.underlying22 Tryd.underlying5 Tryd.underlying9 hs177 (.tmp rfl rfl)) ?_
      refine g_yes (yl (dj := 87) (b := true) rfl rfl (congrArg Value.bool hc179)) ?_
      refine st (v := .bool (decide ((bstr ((nt118.takeP 0).Bytes)) = (bstr p)))) (x_eqlS (.tmp rfl rfl) (.tmp rfl rfl)) ?_
      refine st (v := .bool (decide ((bstr ((nt118.takeP 0).Bytes)) = (bstr p)))) (x_pick_t (.tmp rfl (congrArg Value.bool hc179)) (.tmp rfl rfl)) ?_
      refine st (v := .bool (decide ((bstr ((nt118.takeP 0).Bytes)) = (bstr p)))) (x_move (.tmp rfl rfl)) ?_
      have hc180 : (decide ((bstr ((nt118.takeP 0).Bytes)) = (bstr p))) = true := (decide_eq_true (by rw [hT1.2.1]))
      refine g_yes (yl (dj := 95) (b := true) rfl rfl (congrArg Value.bool hc180)) ?_
      refine st (v := .pointer (some ⟨g171, 0 + 2, none⟩)) (fa37_2 (.tmp rfl rfl)) ?_
      refine g_yes (yl (dj := 95) (b := true) rfl rfl (congrArg Value.bool hc180)) ?_
      refine st (v := v153) (ld22 (.tmp rfl rfl) (hs177.cell 0 rfl (0 + 2) rfl)) ?_
      refine g_yes (yl (dj := 95) (b := true) rfl rfl (congrArg Value.bool hc180)) ?_
      refine st (v := .string (bstr ((nt139.takeP 0).Bytes))) (hs177.rowStr Tryd.underlying22 Tryd.underlying5 Tryd.underlying9 1 rfl ok155 (.tmp rfl rfl)) ?_
      refine g_yes (yl (dj := 95) (b := true) rfl rfl (congrArg Value.bool hc180)) ?_
      refine st (v := .slice A_p n_p c_p) (x_move (.tmp rfl rfl)) ?_
      refine g_yes (yl (dj := 95) (b := true) rfl rfl (congrArg Value.bool hc180)) ?_
      refine st (v := .string (bstr p)) (h_p.toBs.str Tryd.underlying22 Tryd.underlying5 Tryd.underlying9 hs177 (.tmp rfl rfl)) ?_
      refine g_yes (yl (dj := 95) (b := true) rfl rfl (congrArg Value.bool hc180)) ?_
      refine st (v := .bool (!decide ((bstr ((nt139.takeP 0).Bytes)) = (bstr p)))) (x_neqS (.tmp rfl rfl) (.tmp rfl rfl)) ?_
      refine st (v := .bool (!decide ((bstr ((nt139.takeP 0).Bytes)) = (bstr p)))) (x_pick_t (.tmp rfl (congrArg Value.bool hc180)) (.tmp rfl rfl)) ?_
      refine st (v := .bool (!decide ((bstr ((nt139.takeP 0).Bytes)) = (bstr p)))) (x_assign (.tmp rfl rfl)) ?_
      refine c_nil ?_
      refine n_then ?_
      refine c_ret ?_
      refine leave_ret (res_one (v := .bool (!decide ((bstr ((nt139.takeP 0).Bytes)) = (bstr p)))) rfl (.mk rfl rfl)) ?_
      have hyes : (!decide ((bstr ((nt139.takeP 0).Bytes)) = (bstr p))) = true := (by rw [show (decide ((bstr ((nt139.takeP 0).Bytes)) = (bstr p))) = false from (decide_eq_false (by rw [hT2.2.1]; exact turnB_str h_p.lt (by have h9 := h_p.len; omega)))]; rfl)
      rw [hyes]
      exact ⟨rfl, hs177.drop.drop.drop.drop.drop.drop.drop.netDrop⟩

end Go.Proofs.YtojlmilkdijiaaaDoor
