/- Steps of the proofs over the functions of this seat, printed by a program (gen.py) and checked by Lean. -/
import Derived.Test.YtnikcgcbkdeeeaaDoorUty
import Derived.Test.YtnikcgcbkdeeeaaDoorFmM4b
import Derived.Test.YtnikcgcbkdeeeaaDoorFmP
import Derived.Test.YtnikcgcbkdeeeaaDoorFmK
import Derived.Test.YtnikcgcbkdeeeaaDoorFmT
import Derived.Test.YtnikcgcbkdeeeaaDoorU9n
set_option linter.unusedVariables false
set_option linter.unusedSimpArgs false
namespace Go.Proofs.YtnikcgcbkdeeeaaDoor
open Go Go.FM Go.Proofs
attribute [local irreducible] wpList wpQuiet wpS Code.wp Calls
set_option maxHeartbeats 8000000 in
theorem awake_spec {H : Hp} {w : World} {L : List Res} (hs : St H w (L))  : Calls Tryd.prog 10 #[] w (fun e w' => e = .returned (.bool true) ∧ St H w' (L)) := by
  refine enter (args := []) (N := 54) Tryd.func10 rfl rfl rfl ?_
  refine c_seq ?_
  refine c_region ?_
  refine st (v := .bool false) (x_assign .const) ?_
  refine c_nil ?_
  refine n_then ?_
  refine c_seq ?_
  refine c_region ?_
  refine st_m (m_lit (n := 1) (ps := [(0, .int .u8 97)]) (cs := [.int .u8 97]) Tryd.underlying30 inf5 (.cons .const Evp.nil) (by decide) (by decide) rfl rfl hs) ?_
  rintro _ w2 ⟨g1, rfl, hs4⟩
  refine st_m (m_litBytes (n := 1) (c := 1) Tryd.underlying30 Tryd.underlying5 hs4 (.tmp rfl rfl)) ?_
  rintro _ w5 ⟨rfl, H7, hle8, hs6, rd9⟩
  have hp10 : Bs H7 ((some ⟨g1, 0, none⟩)) 1 1 [97] := ⟨rd9, rfl, Nat.le_refl _, by decide, by unfold Small; decide⟩
  refine st_m (m_lit (n := 1) (ps := [(0, .int .u8 98)]) (cs := [.int .u8 98]) Tryd.underlying30 inf5 (.cons .const Evp.nil) (by decide) (by decide) rfl rfl hs6) ?_
  rintro _ w12 ⟨g11, rfl, hs14⟩
  refine st_m (m_litBytes (n := 1) (c := 1) Tryd.underlying30 Tryd.underlying5 hs14 (.tmp rfl rfl)) ?_
  rintro _ w15 ⟨rfl, H17, hle18, hs16, rd19⟩
  have hp20 : Bs H17 ((some ⟨g11, 0, none⟩)) 1 1 [98] := ⟨rd19, rfl, Nat.le_refl _, by decide, by unfold Small; decide⟩
  refine st_m (m_lit (n := 2) (ps := [(0, .slice (some ⟨g1, 0, none⟩) 1 1), (1, .slice (some ⟨g11, 0, none⟩) 1 1)]) (cs := [.slice (some ⟨g1, 0, none⟩) 1 1, .slice (some ⟨g11, 0, none⟩) 1 1]) Tryd.underlying32 inf30 (.cons (.tmp rfl rfl) (.cons (.tmp rfl rfl) Evp.nil)) (by decide) (by decide) rfl rfl hs16) ?_
  rintro _ w22 ⟨g21, rfl, hs24⟩
  have hr30 : kBs.rep H17 [97] [.slice (some ⟨g1, 0, none⟩) 1 1] := ⟨(some ⟨g1, 0, none⟩), 1, 1, rfl, ⟨(hp10.mono hle18), by omega⟩⟩
  have hr31 : kBs.rep H17 [98] [.slice (some ⟨g11, 0, none⟩) 1 1] := ⟨(some ⟨g11, 0, none⟩), 1, 1, rfl, ⟨hp20, by omega⟩⟩
  have hk32 : kBs.toKn.rows H17 [[97], [98]] [.slice (some ⟨g1, 0, none⟩) 1 1, .slice (some ⟨g11, 0, none⟩) 1 1] := Kn.rows_snoc (Kn.rows_one hr30) hr31
  obtain ⟨H25, hle26, hs27, rd28, hb29⟩ := hs24.freezeObj
  have sp33 : Sl kBs H25 ((some ⟨g21, 0, none⟩)) 2 2 [[97], [98]] := ⟨⟨_, rd28, Kn.rows_mono hk32 hle26⟩, rfl, Nat.le_refl _, by decide, by decide⟩
  refine st_m (m_lit (n := 1) (ps := [(0, .slice (some ⟨g21, 0, none⟩) 2 2)]) (cs := [.slice (some ⟨g21, 0, none⟩) 2 2]) Tryd.underlying22 inf32 (.cons (.tmp rfl rfl) Evp.nil) (by decide) (by decide) rfl rfl hs27) ?_
  rintro _ w35 ⟨g34, rfl, hs37⟩
  refine st_m (m_lit (n := 1) (ps := [(0, .int .u8 97)]) (cs := [.int .u8 97]) Tryd.underlying30 inf5 (.cons .const Evp.nil) (by decide) (by decide) rfl rfl hs37) ?_
  rintro _ w39 ⟨g38, rfl, hs41⟩
  refine st_m (m_litBytes (n := 1) (c := 1) Tryd.underlying30 Tryd.underlying5 hs41 (.tmp rfl rfl)) ?_
  rintro _ w42 ⟨rfl, H44, hle45, hs43, rd46⟩
  have hp47 : Bs H44 ((some ⟨g38, 0, none⟩)) 1 1 [97] := ⟨rd46, rfl, Nat.le_refl _, by decide, by unfold Small; decide⟩
  refine st (v := .agg #[.int .i64 0, .slice (some ⟨g38, 0, none⟩) 1 1]) (bl34 (ps := [(1, .slice (some ⟨g38, 0, none⟩) 1 1)]) (.cons (.tmp rfl rfl) Evp.nil) rfl) ?_
  refine st_m (m_lit (n := 1) (ps := [(0, .agg #[.int .i64 0, .slice (some ⟨g38, 0, none⟩) 1 1])]) (cs := [.int .i64 0, .slice (some ⟨g38, 0, none⟩) 1 1]) Tryd.underlying25 inf34 (.cons (.tmp rfl rfl) Evp.nil) (by decide) (by decide) rfl rfl hs43) ?_
  rintro _ w49 ⟨g48, rfl, hs51⟩
  have hr57 : kItem.rep H44 (GItem.mk 0 [97]) [.int .i64 0, .slice (some ⟨g38, 0, none⟩) 1 1] := ⟨(some ⟨g38, 0, none⟩), 1, 1, rfl, (show IB 0 from ⟨by omega, by omega⟩), ⟨hp47, by omega⟩⟩
  have hk58 : kItem.toKn.rows H44 [(GItem.mk 0 [97])] [.int .i64 0, .slice (some ⟨g38, 0, none⟩) 1 1] := Kn.rows_one hr57
  obtain ⟨H52, hle53, hs54, rd55, hb56⟩ := hs51.freezeObj
  have sp59 : Sl kItem H52 ((some ⟨g48, 0, none⟩)) 1 1 [(GItem.mk 0 [97])] := ⟨⟨_, rd55, Kn.rows_mono hk58 hle53⟩, rfl, Nat.le_refl _, by decide, by decide⟩
  refine st_m (m_lit (n := 2) (ps := [(0, .slice (some ⟨g48, 0, none⟩) 1 1), (1, .slice none 0 0)]) (cs := [.slice (some ⟨g48, 0, none⟩) 1 1, .slice none 0 0]) Tryd.underlying23 inf25 (.cons (.tmp rfl rfl) (.cons .const Evp.nil)) (by decide) (by decide) rfl rfl hs54) ?_
  rintro _ w61 ⟨g60, rfl, hs63⟩
  have hs64 : St H52 _ (obj g34 32 [.slice (some ⟨g21, 0, none⟩) 2 2] :: obj g60 25 [.slice (some ⟨g48, 0, none⟩) 1 1, .slice none 0 0] :: L) := hs63.pick 1 rfl rfl
  have hr70 : (kSl kBs).rep H52 [[97], [98]] [.slice (some ⟨g21, 0, none⟩) 2 2] := ⟨(some ⟨g21, 0, none⟩), 2, 2, rfl, ((sp33.mono hle45).mono hle53)⟩
  have hk71 : (kSl kBs).toKn.rows H52 [[[97], [98]]] [.slice (some ⟨g21, 0, none⟩) 2 2] := Kn.rows_one hr70
  obtain ⟨H65, hle66, hs67, rd68, hb69⟩ := hs64.freezeObj
  have sp72 : Sl (kSl kBs) H65 ((some ⟨g34, 0, none⟩)) 1 1 [[[97], [98]]] := ⟨⟨_, rd68, Kn.rows_mono hk71 hle66⟩, rfl, Nat.le_refl _, by decide, by decide⟩
  have hr78 : (kSl kItem).rep H65 [(GItem.mk 0 [97])] [.slice (some ⟨g48, 0, none⟩) 1 1] := ⟨(some ⟨g48, 0, none⟩), 1, 1, rfl, (sp59.mono hle66)⟩
  have hr79 : (kSl kItem).rep H65 [] [.slice none 0 0] := ⟨none, 0, 0, rfl, (Sl.nil _ _ none)⟩
  have hk80 : (kSl kItem).toKn.rows H65 [[(GItem.mk 0 [97])], []] [.slice (some ⟨g48, 0, none⟩) 1 1, .slice none 0 0] := Kn.rows_snoc (Kn.rows_one hr78) hr79
  obtain ⟨H73, hle74, hs75, rd76, hb77⟩ := hs67.freezeObj
  have sp81 : Sl (kSl kItem) H73 ((some ⟨g60, 0, none⟩)) 2 2 [[(GItem.mk 0 [97])], []] := ⟨⟨_, rd76, Kn.rows_mono hk80 hle74⟩, rfl, Nat.le_refl _, by decide, by decide⟩
  refine st_c cb11 .func (evs2 (.tmp rfl rfl) (.tmp rfl rfl)) (total_spec hs75 [[[97], [98]]] (sp72.mono hle74) [[(GItem.mk 0 [97])], []] sp81 ) ?_
  rintro e w82 ⟨v84, cs87, rfl, ok85, hk88, hs83⟩
  have := (sp72.mono hle74).len
  have := sp81.len
  refine ⟨_, rfl, ?_⟩
  refine st (v := .tuple #[v84, .bool ((totS [[[97], [98]]] [[(GItem.mk 0 [97])], []]).2)]) (x_move (.tmp rfl rfl)) ?_
  refine st (v := v84) (x_extract (.tmp rfl rfl) (i := 0) rfl) ?_
  refine st (v := .bool ((totS [[[97], [98]]] [[(GItem.mk 0 [97])], []]).2)) (x_extract (.tmp rfl rfl) (i := 1) rfl) ?_
  refine st (v := v84) (x_assign (.tmp rfl rfl)) ?_
  refine st (v := .bool ((totS [[[97], [98]]] [[(GItem.mk 0 [97])], []]).2)) (x_assign (.tmp rfl rfl)) ?_
  refine c_nil ?_
  refine n_then ?_
  refine c_seq ?_
  refine c_region ?_
  refine st_m (m_lit (n := 1) (ps := [(0, .int .u8 97)]) (cs := [.int .u8 97]) Tryd.underlying30 inf5 (.cons .const Evp.nil) (by decide) (by decide) rfl rfl hs83) ?_
  rintro _ w90 ⟨g89, rfl, hs92⟩
  refine st_m (m_litBytes (n := 1) (c := 1) Tryd.underlying30 Tryd.underlying5 hs92 (.tmp rfl rfl)) ?_
  rintro _ w93 ⟨rfl, H95, hle96, hs94, rd97⟩
  have hp98 : Bs H95 ((some ⟨g89, 0, none⟩)) 1 1 [97] := ⟨rd97, rfl, Nat.le_refl _, by decide, by unfold Small; decide⟩
  refine st_m (m_lit (n := 1) (ps := [(0, .slice (some ⟨g89, 0, none⟩) 1 1)]) (cs := [.slice (some ⟨g89, 0, none⟩) 1 1]) Tryd.underlying32 inf30 (.cons (.tmp rfl rfl) Evp.nil) (by decide) (by decide) rfl rfl hs94) ?_
  rintro _ w100 ⟨g99, rfl, hs102⟩
  have hr108 : kBs.rep H95 [97] [.slice (some ⟨g89, 0, none⟩) 1 1] := ⟨(some ⟨g89, 0, none⟩), 1, 1, rfl, ⟨hp98, by omega⟩⟩
  have hk109 : kBs.toKn.rows H95 [[97]] [.slice (some ⟨g89, 0, none⟩) 1 1] := Kn.rows_one hr108
  obtain ⟨H103, hle104, hs105, rd106, hb107⟩ := hs102.freezeObj
  have sp110 : Sl kBs H103 ((some ⟨g99, 0, none⟩)) 1 1 [[97]] := ⟨⟨_, rd106, Kn.rows_mono hk109 hle104⟩, rfl, Nat.le_refl _, by decide, by decide⟩
  refine st_m (m_lit (n := 1) (ps := [(0, .slice (some ⟨g99, 0, none⟩) 1 1)]) (cs := [.slice (some ⟨g99, 0, none⟩) 1 1]) Tryd.underlying22 inf32 (.cons (.tmp rfl rfl) Evp.nil) (by decide) (by decide) rfl rfl hs105) ?_
  rintro _ w112 ⟨g111, rfl, hs114⟩
  refine st_m (m_lit (n := 1) (ps := [(0, .int .u8 98)]) (cs := [.int .u8 98]) Tryd.underlying30 inf5 (.cons .const Evp.nil) (by decide) (by decide) rfl rfl hs114) ?_
  rintro _ w116 ⟨g115, rfl, hs118⟩
  refine st_m (m_litBytes (n := 1) (c := 1) Tryd.underlying30 Tryd.underlying5 hs118 (.tmp rfl rfl)) ?_
  rintro _ w119 ⟨rfl, H121, hle122, hs120, rd123⟩
  have hp124 : Bs H121 ((some ⟨g115, 0, none⟩)) 1 1 [98] := ⟨rd123, rfl, Nat.le_refl _, by decide, by unfold Small; decide⟩
  refine st (v := .agg #[.int .i64 0, .slice (some ⟨g115, 0, none⟩) 1 1]) (bl34 (ps := [(1, .slice (some ⟨g115, 0, none⟩) 1 1)]) (.cons (.tmp rfl rfl) Evp.nil) rfl) ?_
  refine st_m (m_lit (n := 1) (ps := [(0, .agg #[.int .i64 0, .slice (some ⟨g115, 0, none⟩) 1 1])]) (cs := [.int .i64 0, .slice (some ⟨g115, 0, none⟩) 1 1]) Tryd.underlying25 inf34 (.cons (.tmp rfl rfl) Evp.nil) (by decide) (by decide) rfl rfl hs120) ?_
  rintro _ w126 ⟨g125, rfl, hs128⟩
  have hr134 : kItem.rep H121 (GItem.mk 0 [98]) [.int .i64 0, .slice (some ⟨g115, 0, none⟩) 1 1] := ⟨(some ⟨g115, 0, none⟩), 1, 1, rfl, (show IB 0 from ⟨by omega, by omega⟩), ⟨hp124, by omega⟩⟩
  have hk135 : kItem.toKn.rows H121 [(GItem.mk 0 [98])] [.int .i64 0, .slice (some ⟨g115, 0, none⟩) 1 1] := Kn.rows_one hr134
  obtain ⟨H129, hle130, hs131, rd132, hb133⟩ := hs128.freezeObj
  have sp136 : Sl kItem H129 ((some ⟨g125, 0, none⟩)) 1 1 [(GItem.mk 0 [98])] := ⟨⟨_, rd132, Kn.rows_mono hk135 hle130⟩, rfl, Nat.le_refl _, by decide, by decide⟩
  refine st_m (m_lit (n := 1) (ps := [(0, .slice (some ⟨g125, 0, none⟩) 1 1)]) (cs := [.slice (some ⟨g125, 0, none⟩) 1 1]) Tryd.underlying23 inf25 (.cons (.tmp rfl rfl) Evp.nil) (by decide) (by decide) rfl rfl hs131) ?_
  rintro _ w138 ⟨g137, rfl, hs140⟩
  have hs141 : St H129 _ (obj g111 32 [.slice (some ⟨g99, 0, none⟩) 1 1] :: obj g137 25 [.slice (some ⟨g125, 0, none⟩) 1 1] :: row 34 2 v84 (((totS [[[97], [98]]] [[(GItem.mk 0 [97])], []]).1).length) cs87 :: L) := hs140.pick 1 rfl rfl
  have hr147 : (kSl kBs).rep H129 [[97]] [.slice (some ⟨g99, 0, none⟩) 1 1] := ⟨(some ⟨g99, 0, none⟩), 1, 1, rfl, ((sp110.mono hle122).mono hle130)⟩
  have hk148 : (kSl kBs).toKn.rows H129 [[[97]]] [.slice (some ⟨g99, 0, none⟩) 1 1] := Kn.rows_one hr147
  obtain ⟨H142, hle143, hs144, rd145, hb146⟩ := hs141.freezeObj
  have sp149 : Sl (kSl kBs) H142 ((some ⟨g111, 0, none⟩)) 1 1 [[[97]]] := ⟨⟨_, rd145, Kn.rows_mono hk148 hle143⟩, rfl, Nat.le_refl _, by decide, by decide⟩
  have hr155 : (kSl kItem).rep H142 [(GItem.mk 0 [98])] [.slice (some ⟨g125, 0, none⟩) 1 1] := ⟨(some ⟨g125, 0, none⟩), 1, 1, rfl, (sp136.mono hle143)⟩
  have hk156 : (kSl kItem).toKn.rows H142 [[(GItem.mk 0 [98])]] [.slice (some ⟨g125, 0, none⟩) 1 1] := Kn.rows_one hr155
  obtain ⟨H150, hle151, hs152, rd153, hb154⟩ := hs144.freezeObj
  have sp157 : Sl (kSl kItem) H150 ((some ⟨g137, 0, none⟩)) 1 1 [[(GItem.mk 0 [98])]] := ⟨⟨_, rd153, Kn.rows_mono hk156 hle151⟩, rfl, Nat.le_refl _, by decide, by decide⟩
  refine st_c cb11 .func (evs2 (.tmp rfl rfl) (.tmp rfl rfl)) (total_spec hs152 [[[97]]] (sp149.mono hle151) [[(GItem.mk 0 [98])]] sp157 ) ?_
  rintro e w158 ⟨v160, cs163, rfl, ok161, hk164, hs159⟩
  have := (sp149.mono hle151).len
  have := sp157.len
  refine ⟨_, rfl, ?_⟩
  refine st (v := .tuple #[v160, .bool ((totS [[[97]]] [[(GItem.mk 0 [98])]]).2)]) (x_move (.tmp rfl rfl)) ?_
  refine st (v := v160) (x_extract (.tmp rfl rfl) (i := 0) rfl) ?_
  refine st (v := .bool ((totS [[[97]]] [[(GItem.mk 0 [98])]]).2)) (x_extract (.tmp rfl rfl) (i := 1) rfl) ?_
  refine st (v := v160) (x_assign (.tmp rfl rfl)) ?_
  refine st (v := .bool ((totS [[[97]]] [[(GItem.mk 0 [98])]]).2)) (x_assign (.tmp rfl rfl)) ?_
  refine c_nil ?_
  refine n_then ?_
  refine c_seq ?_
  refine c_region ?_
  have hrn : ((totS [[[97], [98]]] [[(GItem.mk 0 [97])], []]).1).length = 1 := by decide +kernel
  skip
  refine st (v := .bool ((totS [[[97], [98]]] [[(GItem.mk 0 [97])], []]).2)) (x_move (.tmp rfl rfl)) ?_
  refine st (v := .bool ((totS [[[97], [98]]] [[(GItem.mk 0 [97])], []]).2)) (x_move (.tmp rfl rfl)) ?_
  have hc165 : ((totS [[[97], [98]]] [[(GItem.mk 0 [97])], []]).2) = true := (by decide +kernel)
  refine g_yes (yl (dj := 34) (b := true) rfl rfl (congrArg Value.bool hc165)) ?_
  refine st (v := v84) (x_move (.tmp rfl rfl)) ?_
  refine g_yes (yl (dj := 34) (b := true) rfl rfl (congrArg Value.bool hc165)) ?_
  obtain ⟨A166, c167, hv168, hc169⟩ := ok85.slice
  refine st (v := .int .i64 ((((totS [[[97], [98]]] [[(GItem.mk 0 [97])], []]).1).length : Nat) : Int)) (x_len (n := ((totS [[[97], [98]]] [[(GItem.mk 0 [97])], []]).1).length) Tryd.underlying25 (.tmp rfl hv168)) ?_
  refine g_yes (yl (dj := 34) (b := true) rfl rfl (congrArg Value.bool hc165)) ?_
  refine st (v := .bool (decide ((((((totS [[[97], [98]]] [[(GItem.mk 0 [97])], []]).1).length : Nat) : Int) : Int) = 1))) (x_eql (k := .i64) (a := ((((totS [[[97], [98]]] [[(GItem.mk 0 [97])], []]).1).length : Nat) : Int)) (b := 1) (.tmp rfl rfl) .const) ?_
  refine st (v := .bool (decide ((((((totS [[[97], [98]]] [[(GItem.mk 0 [97])], []]).1).length : Nat) : Int) : Int) = 1))) (x_pick_t (.tmp rfl (congrArg Value.bool hc165)) (.tmp rfl rfl)) ?_
  refine st (v := .bool (decide ((((((totS [[[97], [98]]] [[(GItem.mk 0 [97])], []]).1).length : Nat) : Int) : Int) = 1))) (x_move (.tmp rfl rfl)) ?_
  have hc170 : (decide ((((((totS [[[97], [98]]] [[(GItem.mk 0 [97])], []]).1).length : Nat) : Int) : Int) = 1)) = true := (decide_eq_true (by decide +kernel))
  refine g_yes (yl (dj := 39) (b := true) rfl rfl (congrArg Value.bool hc170)) ?_
  refine st (v := v84) (x_move (.tmp rfl rfl)) ?_
  refine g_yes (yl (dj := 39) (b := true) rfl rfl (congrArg Value.bool hc170)) ?_
  obtain ⟨g171, c172, hv173⟩ := ok85.pos (by omega)
  obtain ⟨e174, cs175, hx176, hr177, hsub178⟩ := Kn.rows_get (i := 0) (Kn.rows_mono (Kn.rows_mono (Kn.rows_mono (Kn.rows_mono (Kn.rows_mono (Kn.rows_mono hk88 hle96) hle104) hle122) hle130) hle143) hle151) (by omega)
  obtain ⟨A181, n182, c183, rfl, ⟨b179, b180⟩, hy184⟩ := hr177
  have := hy184.len; have := hy184.bnd; have := hy184.le
  have he1 : e174 = GItem.mk 0 [97] := by have h9 := hx176; rw [show ((totS [[[97], [98]]] [[(GItem.mk 0 [97])], []]).1) = [GItem.mk 0 [97]] from by decide +kernel] at h9; exact (Option.some.inj h9).symm
  refine st (v := .pointer (some ⟨g171, (0 * 2), none⟩)) (ixo25 (.tmp rfl hv173) rfl (i := 0) .const (by omega) (by omega) (by omega)) ?_
  refine g_yes (yl (dj := 39) (b := true) rfl rfl (congrArg Value.bool hc170)) ?_
  refine st (v := .pointer (some ⟨g171, (0 * 2) + 1, none⟩)) (fa34_1 (.tmp rfl rfl)) ?_
  refine g_yes (yl (dj := 39) (b := true) rfl rfl (congrArg Value.bool hc170)) ?_
  refine st (v := .slice A181 n182 c183) (ld30 (.tmp rfl rfl) ((hs159.rowAt 1 rfl hv173 (0 * 2) hsub178).cell 1 rfl)) ?_
  refine g_yes (yl (dj := 39) (b := true) rfl rfl (congrArg Value.bool hc170)) ?_
  refine st (v := .string (bstr e174.M)) (hy184.toBs.str Tryd.underlying30 Tryd.underlying5 Tryd.underlying9 hs159 (.tmp rfl rfl)) ?_
  refine g_yes (yl (dj := 39) (b := true) rfl rfl (congrArg Value.bool hc170)) ?_
  refine st (v := .bool (decide ((bstr e174.M) = (⟨#[97]⟩)))) (x_eqlS (.tmp rfl rfl) .const) ?_
  refine st (v := .bool (decide ((bstr e174.M) = (⟨#[97]⟩)))) (x_pick_t (.tmp rfl (congrArg Value.bool hc170)) (.tmp rfl rfl)) ?_
  refine st (v := .bool (decide ((bstr e174.M) = (⟨#[97]⟩)))) (x_move (.tmp rfl rfl)) ?_
  have hc185 : (decide ((bstr e174.M) = (⟨#[97]⟩))) = true := (decide_eq_true (by rw [he1]; rfl))
  refine g_yes (yl (dj := 47) (b := true) rfl rfl (congrArg Value.bool hc185)) ?_
  refine st (v := .bool ((totS [[[97]]] [[(GItem.mk 0 [98])]]).2)) (x_move (.tmp rfl rfl)) ?_
  refine g_yes (yl (dj := 47) (b := true) rfl rfl (congrArg Value.bool hc185)) ?_
  refine st (v := .bool (!((totS [[[97]]] [[(GItem.mk 0 [98])]]).2))) (x_not (.tmp rfl rfl)) ?_
  refine st (v := .bool (!((totS [[[97]]] [[(GItem.mk 0 [98])]]).2))) (x_pick_t (.tmp rfl (congrArg Value.bool hc185)) (.tmp rfl rfl)) ?_
  refine st (v := .bool (!((totS [[[97]]] [[(GItem.mk 0 [98])]]).2))) (x_move (.tmp rfl rfl)) ?_
  have hc186 : ((totS [[[97]]] [[(GItem.mk 0 [98])]]).2) = false := (by decide +kernel)
  refine g_yes (yl (dj := 51) (b := true) rfl rfl (congrArg Value.bool (by rw [hc186]; rfl))) ?_
  refine st_c cb15 .func (evs1 .const) (views_nil hs159  ) ?_
  rintro e w187 ⟨rfl, hs188⟩
  refine ⟨_, rfl, ?_⟩
  refine st (v := .bool true) (x_pick_t (.tmp rfl (congrArg Value.bool (by rw [hc186]; rfl))) (.tmp rfl rfl)) ?_
  refine st (v := .bool true) (x_assign (.tmp rfl rfl)) ?_
  refine c_nil ?_
  refine n_then ?_
  refine c_ret ?_
  refine leave_ret (res_one (v := .bool true) rfl (.mk rfl rfl)) ?_
  exact ⟨rfl, (hs188.drop.drop.weaken ((((((((((((hle8.trans hle18).trans hle26).trans hle45).trans hle53).trans hle66).trans hle74).trans hle96).trans hle104).trans hle122).trans hle130).trans hle143).trans hle151))⟩

end Go.Proofs.YtnikcgcbkdeeeaaDoor
