/- Steps of the proofs over the functions of this seat, printed by a program (gen.py) and checked by Lean. -/
import Derived.Test.YtojlmilkdijiaaaDoorW01
import Derived.Test.YtojlmilkdijiaaaDoorW00
import Derived.Test.YtojlmilkdijiaaaDoorW02
import Derived.Test.YtojlmilkdijiaaaDoorW05
set_option linter.unusedVariables false
set_option linter.unusedSimpArgs false
namespace Go.Proofs.YtojlmilkdijiaaaDoor
open Go Go.FM Go.Proofs
attribute [local irreducible] wpList wpQuiet wpS Code.wp Calls
set_option maxHeartbeats 8000000 in
theorem rsame_spec {H:Hp} {w:World} {L:List Res} {v_a:Value} {a:GPacket}  {v_b:Value} {b:GPacket} (hs:St H w (row 5 1 v_a a.Bytes.length (a.Bytes.map encB)::row 5 1 v_b b.Bytes.length (b.Bytes.map encB)::L)) (fr_a:IB a.From) (to_a:IB a.To) (sm_a:Small a.Bytes) (ok_a:RowOk 1 v_a a.Bytes.length (a.Bytes.map encB)) (fr_b:IB b.From) (to_b:IB b.To) (sm_b:Small b.Bytes) (ok_b:RowOk 1 v_b b.Bytes.length (b.Bytes.map encB)):Calls Tryd.prog 42 #[.agg #[.int .i64 a.From,.int .i64 a.To,v_a],.agg #[.int .i64 b.From,.int .i64 b.To,v_b]] w (fun e w' => e = .returned (.bool (decide (a = b)))∧St H w' (row 5 1 v_a a.Bytes.length (a.Bytes.map encB)::row 5 1 v_b b.Bytes.length (b.Bytes.map encB)::L)):=by
 refine enter (args:=[.agg #[.int .i64 a.From,.int .i64 a.To,v_a],.agg #[.int .i64 b.From,.int .i64 b.To,v_b]]) (N:=26) Tryd.func42 rfl rfl rfl ?_
 refine c_seq ?_
 refine c_region ?_
 refine st_m (m_box (cs:=[.int .i64 a.From,.int .i64 a.To,v_a]) hs (v:=.agg #[.int .i64 a.From,.int .i64 a.To,v_a]) (.tmp rfl rfl) rfl) ?_
 rintro _ w2 ⟨g1,rfl,hs4⟩
 refine st_m (m_box (cs:=[.int .i64 b.From,.int .i64 b.To,v_b]) hs4 (v:=.agg #[.int .i64 b.From,.int .i64 b.To,v_b]) (.tmp rfl rfl) rfl) ?_
 rintro _ w6 ⟨g5,rfl,hs8⟩
 refine st (v:=.bool false) (x_assign .const) ?_
 refine c_nil ?_
 refine n_then ?_
 refine c_seq ?_
 refine c_region ?_
 refine st (v:=.pointer (some ⟨g1,0 + 0,none⟩)) (fa37_0 (.tmp rfl rfl)) ?_
 refine st (v:=.int .i64 a.From) (ld3 (.tmp rfl rfl) (hs8.cell 1 rfl (0 + 0) rfl)) ?_
 refine st (v:=.pointer (some ⟨g5,0 + 0,none⟩)) (fa37_0 (.tmp rfl rfl)) ?_
 refine st (v:=.int .i64 b.From) (ld3 (.tmp rfl rfl) (hs8.cell 0 rfl (0 + 0) rfl)) ?_
 refine st (v:=.bool (decide ((a.From:Int) = b.From))) (x_eql (k:=.i64) (a:=a.From) (b:=b.From) (.tmp rfl rfl) (.tmp rfl rfl)) ?_
 refine st (v:=.bool (decide ((a.From:Int) = b.From))) (x_move (.tmp rfl rfl)) ?_
 refine jw 6 (fun ρ w => ρ 16 = .bool ((decide ((a.From:Int) = b.From)) && (decide ((a.To:Int) = b.To)))∧ρ 2 = .pointer (some ⟨g1,0,none⟩)∧ρ 3 = .pointer (some ⟨g5,0,none⟩)∧ρ 4 = .bool false∧St H w (obj g5 37 [.int .i64 b.From,.int .i64 b.To,v_b]::obj g1 37 [.int .i64 a.From,.int .i64 a.To,v_a]::row 5 1 v_a a.Bytes.length (a.Bytes.map encB)::row 5 1 v_b b.Bytes.length (b.Bytes.map encB)::L)) ?_ ?_
 rcases Bool.eq_false_or_eq_true (decide ((a.From:Int) = b.From)) with hc9 | hc9
 have hp9:(a.From:Int) = b.From:=of_decide_eq_true hc9
 refine g_yes (yl (dj:=10) (b:=true) rfl rfl (congrArg Value.bool hc9)) ?_
 refine st (v:=.pointer (some ⟨g1,0 + 1,none⟩)) (fa37_1 (.tmp rfl rfl)) ?_
 refine g_yes (yl (dj:=10) (b:=true) rfl rfl (congrArg Value.bool hc9)) ?_
 refine st (v:=.int .i64 a.To) (ld3 (.tmp rfl rfl) (hs8.cell 1 rfl (0 + 1) rfl)) ?_
 refine g_yes (yl (dj:=10) (b:=true) rfl rfl (congrArg Value.bool hc9)) ?_
 refine st (v:=.pointer (some ⟨g5,0 + 1,none⟩)) (fa37_1 (.tmp rfl rfl)) ?_
 refine g_yes (yl (dj:=10) (b:=true) rfl rfl (congrArg Value.bool hc9)) ?_
 refine st (v:=.int .i64 b.To) (ld3 (.tmp rfl rfl) (hs8.cell 0 rfl (0 + 1) rfl)) ?_
 refine g_yes (yl (dj:=10) (b:=true) rfl rfl (congrArg Value.bool hc9)) ?_
 refine st (v:=.bool (decide ((a.To:Int) = b.To))) (x_eql (k:=.i64) (a:=a.To) (b:=b.To) (.tmp rfl rfl) (.tmp rfl rfl)) ?_
 refine st (v:=.bool (decide ((a.To:Int) = b.To))) (x_pick_t (.tmp rfl (congrArg Value.bool hc9)) (.tmp rfl rfl)) ?_
 exact jw_end ⟨(congrArg Value.bool (jand_t hc9)),rfl,rfl,rfl,hs8⟩
 have hp9:¬ ((a.From:Int) = b.From):=of_decide_eq_false hc9
 refine g_no (yl (dj:=10) (b:=false) rfl rfl (congrArg Value.bool hc9)) rfl ?_
 refine g_no (yl (dj:=10) (b:=false) rfl rfl (congrArg Value.bool hc9)) rfl ?_
 refine g_no (yl (dj:=10) (b:=false) rfl rfl (congrArg Value.bool hc9)) rfl ?_
 refine g_no (yl (dj:=10) (b:=false) rfl rfl (congrArg Value.bool hc9)) rfl ?_
 refine g_no (yl (dj:=10) (b:=false) rfl rfl (congrArg Value.bool hc9)) rfl ?_
 refine st (v:=.bool false) (x_pick_f (.tmp rfl (congrArg Value.bool hc9)) .const) ?_
 exact jw_end ⟨(congrArg Value.bool (jand_f hc9)),rfl,rfl,rfl,hs8⟩
 rintro ρ w ⟨hρ10,hρ11,hρ12,hρ13,hs14⟩
 refine st (v:=.bool ((decide ((a.From:Int) = b.From)) && (decide ((a.To:Int) = b.To)))) (x_move (.tmp rfl hρ10)) ?_
 refine jw 8 (fun ρ w => ρ 25 = .bool (((decide ((a.From:Int) = b.From)) && (decide ((a.To:Int) = b.To))) && (decide ((bstr a.Bytes) = (bstr b.Bytes))))∧ρ 4 = .bool false∧St H w (obj g5 37 [.int .i64 b.From,.int .i64 b.To,v_b]::obj g1 37 [.int .i64 a.From,.int .i64 a.To,v_a]::row 5 1 v_a a.Bytes.length (a.Bytes.map encB)::row 5 1 v_b b.Bytes.length (b.Bytes.map encB)::L)) ?_ ?_
 rcases Bool.eq_false_or_eq_true ((decide ((a.From:Int) = b.From)) && (decide ((a.To:Int) = b.To))) with hc15 | hc15
 have hp15:((a.From:Int) = b.From)∧((a.To:Int) = b.To):=((J_and decide_eq_true_iff decide_eq_true_iff)).1 hc15
 refine g_yes (yl (dj:=17) (b:=true) rfl rfl (congrArg Value.bool hc15)) ?_
 refine st (v:=.pointer (some ⟨g1,0 + 2,none⟩)) (fa37_2 (.tmp rfl hρ11)) ?_
 refine g_yes (yl (dj:=17) (b:=true) rfl rfl (congrArg Value.bool hc15)) ?_
 refine st (v:=v_a) (ld22 (.tmp rfl rfl) (hs14.cell 1 rfl (0 + 2) rfl)) ?_
 refine g_yes (yl (dj:=17) (b:=true) rfl rfl (congrArg Value.bool hc15)) ?_
 refine st (v:=.string (bstr a.Bytes)) (hs14.rowStr Tryd.underlying22 Tryd.underlying5 Tryd.underlying9 2 rfl ok_a (.tmp rfl rfl)) ?_
 refine g_yes (yl (dj:=17) (b:=true) rfl rfl (congrArg Value.bool hc15)) ?_
 refine st (v:=.pointer (some ⟨g5,0 + 2,none⟩)) (fa37_2 (.tmp rfl hρ12)) ?_
 refine g_yes (yl (dj:=17) (b:=true) rfl rfl (congrArg Value.bool hc15)) ?_
 refine st (v:=v_b) (ld22 (.tmp rfl rfl) (hs14.cell 0 rfl (0 + 2) rfl)) ?_
 refine g_yes (yl (dj:=17) (b:=true) rfl rfl (congrArg Value.bool hc15)) ?_
 refine st (v:=.string (bstr b.Bytes)) (hs14.rowStr Tryd.underlying22 Tryd.underlying5 Tryd.underlying9 3 rfl ok_b (.tmp rfl rfl)) ?_
 refine g_yes (yl (dj:=17) (b:=true) rfl rfl (congrArg Value.bool hc15)) ?_
 refine st (v:=.bool (decide ((bstr a.Bytes) = (bstr b.Bytes)))) (x_eqlS (.tmp rfl rfl) (.tmp rfl rfl)) ?_
 refine st (v:=.bool (decide ((bstr a.Bytes) = (bstr b.Bytes)))) (x_pick_t (.tmp rfl (congrArg Value.bool hc15)) (.tmp rfl rfl)) ?_
 exact jw_end ⟨(congrArg Value.bool (jand_t hc15)),hρ13,hs14⟩
 have hp15:¬ (((a.From:Int) = b.From)∧((a.To:Int) = b.To)):=J_no (J_and decide_eq_true_iff decide_eq_true_iff) hc15
 refine g_no (yl (dj:=17) (b:=false) rfl rfl (congrArg Value.bool hc15)) rfl ?_
 refine g_no (yl (dj:=17) (b:=false) rfl rfl (congrArg Value.bool hc15)) rfl ?_
 refine g_no (yl (dj:=17) (b:=false) rfl rfl (congrArg Value.bool hc15)) rfl ?_
 refine g_no (yl (dj:=17) (b:=false) rfl rfl (congrArg Value.bool hc15)) rfl ?_
 refine g_no (yl (dj:=17) (b:=false) rfl rfl (congrArg Value.bool hc15)) rfl ?_
 refine g_no (yl (dj:=17) (b:=false) rfl rfl (congrArg Value.bool hc15)) rfl ?_
 refine g_no (yl (dj:=17) (b:=false) rfl rfl (congrArg Value.bool hc15)) rfl ?_
 refine st (v:=.bool false) (x_pick_f (.tmp rfl (congrArg Value.bool hc15)) .const) ?_
 exact jw_end ⟨(congrArg Value.bool (jand_f hc15)),hρ13,hs14⟩
 rintro ρ w ⟨hρ16,hρ17,hs18⟩
 refine st (v:=.bool (((decide ((a.From:Int) = b.From)) && (decide ((a.To:Int) = b.To))) && (decide ((bstr a.Bytes) = (bstr b.Bytes))))) (x_assign (.tmp rfl hρ16)) ?_
 refine c_nil ?_
 refine n_then ?_
 refine c_ret ?_
 refine leave_ret (res_one (v:=.bool (((decide ((a.From:Int) = b.From)) && (decide ((a.To:Int) = b.To))) && (decide ((bstr a.Bytes) = (bstr b.Bytes))))) rfl (.mk rfl rfl)) ?_
 have hans19:(decide (a = b)) = (((decide ((a.From:Int) = b.From)) && (decide ((a.To:Int) = b.To))) && (decide ((bstr a.Bytes) = (bstr b.Bytes)))):=(gp_same sm_a sm_b)
 rw [hans19]
 exact ⟨rfl,((hs18.drop.drop.pick 1 rfl rfl).pick 1 rfl rfl)⟩
end Go.Proofs.YtojlmilkdijiaaaDoor
