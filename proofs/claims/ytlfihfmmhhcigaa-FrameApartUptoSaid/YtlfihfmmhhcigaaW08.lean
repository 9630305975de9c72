/- Steps of the proofs over the functions of this seat, printed by a program (gen.py) and checked by Lean. -/
import Derived.Test.YtlfihfmmhhcigaaW02
import Derived.Test.YtlfihfmmhhcigaaW00
import Derived.Test.YtlfihfmmhhcigaaW01
import Derived.Test.YtlfihfmmhhcigaaW07
set_option linter.unusedVariables false
set_option linter.unusedSimpArgs false
namespace Go.Proofs.Ytlfihfmmhhcigaa
open Go Go.FM Go.Proofs
attribute [local irreducible] wpList wpQuiet wpS Code.wp Calls
set_option maxHeartbeats 8000000 in
theorem same_frame {H:Hp} {w:World} {L:List Res} (hs:St H w (L)) (a:GFrame) {k_a:List Value} (h_a:kFrame.rep H a k_a) (b:GFrame) {k_b:List Value} (h_b:kFrame.rep H b k_b):Calls Try.prog 14 #[.agg k_a.toArray,.agg k_b.toArray] w (fun e w' => e = .returned (.bool (decide (a = b)))∧St H w' (L)):=by
 obtain ⟨A14,n15,c16,A19,n20,c21,A23,n24,c25,rfl,b1,⟨b2,b3⟩,b4,⟨b5,b6⟩,b7,b8,⟨b9,b10⟩,b11,⟨b12,b13⟩,hl17,b18,hl22,hl26,b27,b28⟩:=h_a
 have:=hl17.len; have:n15 * 48 ≤ 140737488351232:=hl17.bnd; have:=hl17.le
 have:=hl22.len; have:n20 * 24 ≤ 140737488351232:=hl22.bnd; have:=hl22.le
 have:=hl26.len; have:n24 * 32 ≤ 140737488351232:=hl26.bnd; have:=hl26.le
 obtain ⟨A42,n43,c44,A47,n48,c49,A51,n52,c53,rfl,b29,⟨b30,b31⟩,b32,⟨b33,b34⟩,b35,b36,⟨b37,b38⟩,b39,⟨b40,b41⟩,hl45,b46,hl50,hl54,b55,b56⟩:=h_b
 have:=hl45.len; have:n43 * 48 ≤ 140737488351232:=hl45.bnd; have:=hl45.le
 have:=hl50.len; have:n48 * 24 ≤ 140737488351232:=hl50.bnd; have:=hl50.le
 have:=hl54.len; have:n52 * 32 ≤ 140737488351232:=hl54.bnd; have:=hl54.le
 refine enter (args:=[.agg #[.int .u8 ((a.Kind:Nat):Int),.int .i64 a.From,.int .u64 ((a.ID.N:Nat):Int),.int .i64 a.ID.P,.int .u16 ((a.Set:Nat):Int),.int .u64 ((a.Cur.N:Nat):Int),.int .i64 a.Cur.P,.int .u64 ((a.Prom.N:Nat):Int),.int .i64 a.Prom.P,.slice A14 n15 c16,.int .u64 ((a.Base:Nat):Int),.slice A19 n20 c21,.slice A23 n24 c25,.int .u64 ((a.Ack:Nat):Int),.int .u64 ((a.Safe:Nat):Int)],.agg #[.int .u8 ((b.Kind:Nat):Int),.int .i64 b.From,.int .u64 ((b.ID.N:Nat):Int),.int .i64 b.ID.P,.int .u16 ((b.Set:Nat):Int),.int .u64 ((b.Cur.N:Nat):Int),.int .i64 b.Cur.P,.int .u64 ((b.Prom.N:Nat):Int),.int .i64 b.Prom.P,.slice A42 n43 c44,.int .u64 ((b.Base:Nat):Int),.slice A47 n48 c49,.slice A51 n52 c53,.int .u64 ((b.Ack:Nat):Int),.int .u64 ((b.Safe:Nat):Int)]]) (N:=108) Try.func14 rfl rfl rfl ?_
 refine c_seq (c_region (st_m (m_box (cs:=[.int .u8 ((a.Kind:Nat):Int),.int .i64 a.From,.int .u64 ((a.ID.N:Nat):Int),.int .i64 a.ID.P,.int .u16 ((a.Set:Nat):Int),.int .u64 ((a.Cur.N:Nat):Int),.int .i64 a.Cur.P,.int .u64 ((a.Prom.N:Nat):Int),.int .i64 a.Prom.P,.slice A14 n15 c16,.int .u64 ((a.Base:Nat):Int),.slice A19 n20 c21,.slice A23 n24 c25,.int .u64 ((a.Ack:Nat):Int),.int .u64 ((a.Safe:Nat):Int)]) hs (v:=.agg #[.int .u8 ((a.Kind:Nat):Int),.int .i64 a.From,.int .u64 ((a.ID.N:Nat):Int),.int .i64 a.ID.P,.int .u16 ((a.Set:Nat):Int),.int .u64 ((a.Cur.N:Nat):Int),.int .i64 a.Cur.P,.int .u64 ((a.Prom.N:Nat):Int),.int .i64 a.Prom.P,.slice A14 n15 c16,.int .u64 ((a.Base:Nat):Int),.slice A19 n20 c21,.slice A23 n24 c25,.int .u64 ((a.Ack:Nat):Int),.int .u64 ((a.Safe:Nat):Int)]) (.tmp rfl rfl) rfl) ?_))
 rintro _ w58 ⟨g57,rfl,hs60⟩
 refine st_m (m_box (cs:=[.int .u8 ((b.Kind:Nat):Int),.int .i64 b.From,.int .u64 ((b.ID.N:Nat):Int),.int .i64 b.ID.P,.int .u16 ((b.Set:Nat):Int),.int .u64 ((b.Cur.N:Nat):Int),.int .i64 b.Cur.P,.int .u64 ((b.Prom.N:Nat):Int),.int .i64 b.Prom.P,.slice A42 n43 c44,.int .u64 ((b.Base:Nat):Int),.slice A47 n48 c49,.slice A51 n52 c53,.int .u64 ((b.Ack:Nat):Int),.int .u64 ((b.Safe:Nat):Int)]) hs60 (v:=.agg #[.int .u8 ((b.Kind:Nat):Int),.int .i64 b.From,.int .u64 ((b.ID.N:Nat):Int),.int .i64 b.ID.P,.int .u16 ((b.Set:Nat):Int),.int .u64 ((b.Cur.N:Nat):Int),.int .i64 b.Cur.P,.int .u64 ((b.Prom.N:Nat):Int),.int .i64 b.Prom.P,.slice A42 n43 c44,.int .u64 ((b.Base:Nat):Int),.slice A47 n48 c49,.slice A51 n52 c53,.int .u64 ((b.Ack:Nat):Int),.int .u64 ((b.Safe:Nat):Int)]) (.tmp rfl rfl) rfl) ?_
 rintro _ w62 ⟨g61,rfl,hs64⟩
 refine st (v:=.bool false) (x_assign .const) ?_
 refine c_nil (n_then (c_seq (c_seq (c_region (st (v:=.pointer (some ⟨g57,0 + 0,none⟩)) (fa30_0 (.tmp rfl rfl)) ?_)))))
 refine st (v:=.int .u8 ((a.Kind:Nat):Int)) (ld5 (.tmp rfl rfl) (hs64.cell 1 rfl (0 + 0) rfl)) ?_
 refine st (v:=.pointer (some ⟨g61,0 + 0,none⟩)) (fa30_0 (.tmp rfl rfl)) ?_
 refine st (v:=.int .u8 ((b.Kind:Nat):Int)) (ld5 (.tmp rfl rfl) (hs64.cell 0 rfl (0 + 0) rfl)) ?_
 refine st (v:=.bool (decide ((((a.Kind:Nat):Int):Int) ≠ ((b.Kind:Nat):Int)))) (x_neq (k:=.u8) (a:=((a.Kind:Nat):Int)) (b:=((b.Kind:Nat):Int)) (.tmp rfl rfl) (.tmp rfl rfl)) ?_
 refine st (v:=.bool (decide ((((a.Kind:Nat):Int):Int) ≠ ((b.Kind:Nat):Int)))) (x_move (.tmp rfl rfl)) ?_
 refine jw 6 (fun ρ w => ρ 17 = .bool ((decide ((((a.Kind:Nat):Int):Int) ≠ ((b.Kind:Nat):Int))) || (decide ((a.From:Int) ≠ b.From)))∧ρ 2 = .pointer (some ⟨g57,0,none⟩)∧ρ 3 = .pointer (some ⟨g61,0,none⟩)∧St H w (obj g61 30 [.int .u8 ((b.Kind:Nat):Int),.int .i64 b.From,.int .u64 ((b.ID.N:Nat):Int),.int .i64 b.ID.P,.int .u16 ((b.Set:Nat):Int),.int .u64 ((b.Cur.N:Nat):Int),.int .i64 b.Cur.P,.int .u64 ((b.Prom.N:Nat):Int),.int .i64 b.Prom.P,.slice A42 n43 c44,.int .u64 ((b.Base:Nat):Int),.slice A47 n48 c49,.slice A51 n52 c53,.int .u64 ((b.Ack:Nat):Int),.int .u64 ((b.Safe:Nat):Int)]::obj g57 30 [.int .u8 ((a.Kind:Nat):Int),.int .i64 a.From,.int .u64 ((a.ID.N:Nat):Int),.int .i64 a.ID.P,.int .u16 ((a.Set:Nat):Int),.int .u64 ((a.Cur.N:Nat):Int),.int .i64 a.Cur.P,.int .u64 ((a.Prom.N:Nat):Int),.int .i64 a.Prom.P,.slice A14 n15 c16,.int .u64 ((a.Base:Nat):Int),.slice A19 n20 c21,.slice A23 n24 c25,.int .u64 ((a.Ack:Nat):Int),.int .u64 ((a.Safe:Nat):Int)]::L)) ?_ ?_
 rcases Bool.eq_false_or_eq_true (decide ((((a.Kind:Nat):Int):Int) ≠ ((b.Kind:Nat):Int))) with hc65 | hc65
 have hp65:(((a.Kind:Nat):Int):Int) ≠ ((b.Kind:Nat):Int):=of_decide_eq_true hc65
 refine g_no (yk 11 true rfl rfl hc65) rfl ?_
 refine g_no (yk 11 true rfl rfl hc65) rfl ?_
 refine g_no (yk 11 true rfl rfl hc65) rfl ?_
 refine g_no (yk 11 true rfl rfl hc65) rfl ?_
 refine g_no (yk 11 true rfl rfl hc65) rfl ?_
 refine st (v:=.bool true) (x_pick_t (.tmp rfl (congrArg Value.bool hc65)) .const) ?_
 exact jw_end ⟨(congrArg Value.bool (jor_t hc65)),rfl,rfl,hs64⟩
 have hp65:¬ ((((a.Kind:Nat):Int):Int) ≠ ((b.Kind:Nat):Int)):=of_decide_eq_false hc65
 refine g_yes (yk 11 false rfl rfl hc65) ?_
 refine st (v:=.pointer (some ⟨g57,0 + 1,none⟩)) (fa30_1 (.tmp rfl rfl)) ?_
 refine g_yes (yk 11 false rfl rfl hc65) ?_
 refine st (v:=.int .i64 a.From) (ld3 (.tmp rfl rfl) (hs64.cell 1 rfl (0 + 1) rfl)) ?_
 refine g_yes (yk 11 false rfl rfl hc65) ?_
 refine st (v:=.pointer (some ⟨g61,0 + 1,none⟩)) (fa30_1 (.tmp rfl rfl)) ?_
 refine g_yes (yk 11 false rfl rfl hc65) ?_
 refine st (v:=.int .i64 b.From) (ld3 (.tmp rfl rfl) (hs64.cell 0 rfl (0 + 1) rfl)) ?_
 refine g_yes (yk 11 false rfl rfl hc65) ?_
 refine st (v:=.bool (decide ((a.From:Int) ≠ b.From))) (x_neq (k:=.i64) (a:=a.From) (b:=b.From) (.tmp rfl rfl) (.tmp rfl rfl)) ?_
 refine st (v:=.bool (decide ((a.From:Int) ≠ b.From))) (x_pick_f (.tmp rfl (congrArg Value.bool hc65)) (.tmp rfl rfl)) ?_
 exact jw_end ⟨(congrArg Value.bool (jor_f hc65)),rfl,rfl,hs64⟩
 rintro ρ w ⟨hρ66,hρ67,hρ68,hs69⟩
 refine st (v:=.bool ((decide ((((a.Kind:Nat):Int):Int) ≠ ((b.Kind:Nat):Int))) || (decide ((a.From:Int) ≠ b.From)))) (x_move (.tmp rfl hρ66)) ?_
 refine jw 6 (fun ρ w => ρ 24 = .bool (((decide ((((a.Kind:Nat):Int):Int) ≠ ((b.Kind:Nat):Int))) || (decide ((a.From:Int) ≠ b.From))) || (!(decide (a.ID = b.ID))))∧ρ 2 = .pointer (some ⟨g57,0,none⟩)∧ρ 3 = .pointer (some ⟨g61,0,none⟩)∧St H w (obj g61 30 [.int .u8 ((b.Kind:Nat):Int),.int .i64 b.From,.int .u64 ((b.ID.N:Nat):Int),.int .i64 b.ID.P,.int .u16 ((b.Set:Nat):Int),.int .u64 ((b.Cur.N:Nat):Int),.int .i64 b.Cur.P,.int .u64 ((b.Prom.N:Nat):Int),.int .i64 b.Prom.P,.slice A42 n43 c44,.int .u64 ((b.Base:Nat):Int),.slice A47 n48 c49,.slice A51 n52 c53,.int .u64 ((b.Ack:Nat):Int),.int .u64 ((b.Safe:Nat):Int)]::obj g57 30 [.int .u8 ((a.Kind:Nat):Int),.int .i64 a.From,.int .u64 ((a.ID.N:Nat):Int),.int .i64 a.ID.P,.int .u16 ((a.Set:Nat):Int),.int .u64 ((a.Cur.N:Nat):Int),.int .i64 a.Cur.P,.int .u64 ((a.Prom.N:Nat):Int),.int .i64 a.Prom.P,.slice A14 n15 c16,.int .u64 ((a.Base:Nat):Int),.slice A19 n20 c21,.slice A23 n24 c25,.int .u64 ((a.Ack:Nat):Int),.int .u64 ((a.Safe:Nat):Int)]::L)) ?_ ?_
 rcases Bool.eq_false_or_eq_true ((decide ((((a.Kind:Nat):Int):Int) ≠ ((b.Kind:Nat):Int))) || (decide ((a.From:Int) ≠ b.From))) with hc70 | hc70
 have hp70:((((a.Kind:Nat):Int):Int) ≠ ((b.Kind:Nat):Int)) ∨ ((a.From:Int) ≠ b.From):=((J_or decide_eq_true_iff decide_eq_true_iff)).1 hc70
 refine g_no (yk 18 true rfl rfl hc70) rfl ?_
 refine g_no (yk 18 true rfl rfl hc70) rfl ?_
 refine g_no (yk 18 true rfl rfl hc70) rfl ?_
 refine g_no (yk 18 true rfl rfl hc70) rfl ?_
 refine g_no (yk 18 true rfl rfl hc70) rfl ?_
 refine st (v:=.bool true) (x_pick_t (.tmp rfl (congrArg Value.bool hc70)) .const) ?_
 exact jw_end ⟨(congrArg Value.bool (jor_t hc70)),hρ67,hρ68,hs69⟩
 have hp70:¬ (((((a.Kind:Nat):Int):Int) ≠ ((b.Kind:Nat):Int)) ∨ ((a.From:Int) ≠ b.From)):=J_no (J_or decide_eq_true_iff decide_eq_true_iff) hc70
 refine g_yes (yk 18 false rfl rfl hc70) ?_
 refine st (v:=.pointer (some ⟨g57,0 + 2,none⟩)) (fa30_2 (.tmp rfl hρ67)) ?_
 refine g_yes (yk 18 false rfl rfl hc70) ?_
 refine st (v:=.agg #[.int .u64 ((a.ID.N:Nat):Int),.int .i64 a.ID.P]) (ld24 (cs:=[.int .u64 ((a.ID.N:Nat):Int),.int .i64 a.ID.P]) (.tmp rfl rfl) (hs69.at_ 1 rfl (0 + 2) rfl) rfl) ?_
 refine g_yes (yk 18 false rfl rfl hc70) ?_
 refine st (v:=.pointer (some ⟨g61,0 + 2,none⟩)) (fa30_2 (.tmp rfl hρ68)) ?_
 refine g_yes (yk 18 false rfl rfl hc70) ?_
 refine st (v:=.agg #[.int .u64 ((b.ID.N:Nat):Int),.int .i64 b.ID.P]) (ld24 (cs:=[.int .u64 ((b.ID.N:Nat):Int),.int .i64 b.ID.P]) (.tmp rfl rfl) (hs69.at_ 0 rfl (0 + 2) rfl) rfl) ?_
 refine g_yes (yk 18 false rfl rfl hc70) ?_
 refine st (v:=.bool (!((((a.ID.N:Nat):Int) == ((b.ID.N:Nat):Int)) && ((a.ID.P == b.ID.P) && true)))) (x_neqA eqg24 (.tmp rfl rfl) (.tmp rfl rfl) (fun d => eqs24 (d + 98) _ ((a.ID.N:Nat):Int) ((b.ID.N:Nat):Int) a.ID.P b.ID.P)) ?_
 refine st (v:=.bool (!(decide (a.ID = b.ID)))) (x_pick_f (.tmp rfl (congrArg Value.bool hc70)) (.tmp rfl (congrArg (fun z => Value.bool (!z)) (GViewID.beq_dec a.ID b.ID)))) ?_
 exact jw_end ⟨(congrArg Value.bool (jor_f hc70)),hρ67,hρ68,hs69⟩
 rintro ρ w ⟨hρ71,hρ72,hρ73,hs74⟩
 refine st (v:=.bool (((decide ((((a.Kind:Nat):Int):Int) ≠ ((b.Kind:Nat):Int))) || (decide ((a.From:Int) ≠ b.From))) || (!(decide (a.ID = b.ID))))) (x_move (.tmp rfl hρ71)) ?_
 refine jw 6 (fun ρ w => ρ 31 = .bool ((((decide ((((a.Kind:Nat):Int):Int) ≠ ((b.Kind:Nat):Int))) || (decide ((a.From:Int) ≠ b.From))) || (!(decide (a.ID = b.ID)))) || (decide ((((a.Set:Nat):Int):Int) ≠ ((b.Set:Nat):Int))))∧ρ 2 = .pointer (some ⟨g57,0,none⟩)∧ρ 3 = .pointer (some ⟨g61,0,none⟩)∧St H w (obj g61 30 [.int .u8 ((b.Kind:Nat):Int),.int .i64 b.From,.int .u64 ((b.ID.N:Nat):Int),.int .i64 b.ID.P,.int .u16 ((b.Set:Nat):Int),.int .u64 ((b.Cur.N:Nat):Int),.int .i64 b.Cur.P,.int .u64 ((b.Prom.N:Nat):Int),.int .i64 b.Prom.P,.slice A42 n43 c44,.int .u64 ((b.Base:Nat):Int),.slice A47 n48 c49,.slice A51 n52 c53,.int .u64 ((b.Ack:Nat):Int),.int .u64 ((b.Safe:Nat):Int)]::obj g57 30 [.int .u8 ((a.Kind:Nat):Int),.int .i64 a.From,.int .u64 ((a.ID.N:Nat):Int),.int .i64 a.ID.P,.int .u16 ((a.Set:Nat):Int),.int .u64 ((a.Cur.N:Nat):Int),.int .i64 a.Cur.P,.int .u64 ((a.Prom.N:Nat):Int),.int .i64 a.Prom.P,.slice A14 n15 c16,.int .u64 ((a.Base:Nat):Int),.slice A19 n20 c21,.slice A23 n24 c25,.int .u64 ((a.Ack:Nat):Int),.int .u64 ((a.Safe:Nat):Int)]::L)) ?_ ?_
 rcases Bool.eq_false_or_eq_true (((decide ((((a.Kind:Nat):Int):Int) ≠ ((b.Kind:Nat):Int))) || (decide ((a.From:Int) ≠ b.From))) || (!(decide (a.ID = b.ID)))) with hc75 | hc75
 have hp75:(((((a.Kind:Nat):Int):Int) ≠ ((b.Kind:Nat):Int)) ∨ ((a.From:Int) ≠ b.From)) ∨ (¬ (a.ID = b.ID)):=((J_or (J_or decide_eq_true_iff decide_eq_true_iff) (J_not decide_eq_true_iff))).1 hc75
 refine g_no (yk 25 true rfl rfl hc75) rfl ?_
 refine g_no (yk 25 true rfl rfl hc75) rfl ?_
 refine g_no (yk 25 true rfl rfl hc75) rfl ?_
 refine g_no (yk 25 true rfl rfl hc75) rfl ?_
 refine g_no (yk 25 true rfl rfl hc75) rfl ?_
 refine st (v:=.bool true) (x_pick_t (.tmp rfl (congrArg Value.bool hc75)) .const) ?_
 exact jw_end ⟨(congrArg Value.bool (jor_t hc75)),hρ72,hρ73,hs74⟩
 have hp75:¬ ((((((a.Kind:Nat):Int):Int) ≠ ((b.Kind:Nat):Int)) ∨ ((a.From:Int) ≠ b.From)) ∨ (¬ (a.ID = b.ID))):=J_no (J_or (J_or decide_eq_true_iff decide_eq_true_iff) (J_not decide_eq_true_iff)) hc75
 refine g_yes (yk 25 false rfl rfl hc75) ?_
 refine st (v:=.pointer (some ⟨g57,0 + 4,none⟩)) (fa30_3 (.tmp rfl hρ72)) ?_
 refine g_yes (yk 25 false rfl rfl hc75) ?_
 refine st (v:=.int .u16 ((a.Set:Nat):Int)) (ld25 (.tmp rfl rfl) (hs74.cell 1 rfl (0 + 4) rfl)) ?_
 refine g_yes (yk 25 false rfl rfl hc75) ?_
 refine st (v:=.pointer (some ⟨g61,0 + 4,none⟩)) (fa30_3 (.tmp rfl hρ73)) ?_
 refine g_yes (yk 25 false rfl rfl hc75) ?_
 refine st (v:=.int .u16 ((b.Set:Nat):Int)) (ld25 (.tmp rfl rfl) (hs74.cell 0 rfl (0 + 4) rfl)) ?_
 refine g_yes (yk 25 false rfl rfl hc75) ?_
 refine st (v:=.bool (decide ((((a.Set:Nat):Int):Int) ≠ ((b.Set:Nat):Int)))) (x_neq (k:=.u16) (a:=((a.Set:Nat):Int)) (b:=((b.Set:Nat):Int)) (.tmp rfl rfl) (.tmp rfl rfl)) ?_
 refine st (v:=.bool (decide ((((a.Set:Nat):Int):Int) ≠ ((b.Set:Nat):Int)))) (x_pick_f (.tmp rfl (congrArg Value.bool hc75)) (.tmp rfl rfl)) ?_
 exact jw_end ⟨(congrArg Value.bool (jor_f hc75)),hρ72,hρ73,hs74⟩
 rintro ρ w ⟨hρ76,hρ77,hρ78,hs79⟩
 refine st (v:=.bool ((((decide ((((a.Kind:Nat):Int):Int) ≠ ((b.Kind:Nat):Int))) || (decide ((a.From:Int) ≠ b.From))) || (!(decide (a.ID = b.ID)))) || (decide ((((a.Set:Nat):Int):Int) ≠ ((b.Set:Nat):Int))))) (x_move (.tmp rfl hρ76)) ?_
 refine jw 6 (fun ρ w => ρ 38 = .bool (((((decide ((((a.Kind:Nat):Int):Int) ≠ ((b.Kind:Nat):Int))) || (decide ((a.From:Int) ≠ b.From))) || (!(decide (a.ID = b.ID)))) || (decide ((((a.Set:Nat):Int):Int) ≠ ((b.Set:Nat):Int)))) || (!(decide (a.Cur = b.Cur))))∧ρ 2 = .pointer (some ⟨g57,0,none⟩)∧ρ 3 = .pointer (some ⟨g61,0,none⟩)∧St H w (obj g61 30 [.int .u8 ((b.Kind:Nat):Int),.int .i64 b.From,.int .u64 ((b.ID.N:Nat):Int),.int .i64 b.ID.P,.int .u16 ((b.Set:Nat):Int),.int .u64 ((b.Cur.N:Nat):Int),.int .i64 b.Cur.P,.int .u64 ((b.Prom.N:Nat):Int),.int .i64 b.Prom.P,.slice A42 n43 c44,.int .u64 ((b.Base:Nat):Int),.slice A47 n48 c49,.slice A51 n52 c53,.int .u64 ((b.Ack:Nat):Int),.int .u64 ((b.Safe:Nat):Int)]::obj g57 30 [.int .u8 ((a.Kind:Nat):Int),.int .i64 a.From,.int .u64 ((a.ID.N:Nat):Int),.int .i64 a.ID.P,.int .u16 ((a.Set:Nat):Int),.int .u64 ((a.Cur.N:Nat):Int),.int .i64 a.Cur.P,.int .u64 ((a.Prom.N:Nat):Int),.int .i64 a.Prom.P,.slice A14 n15 c16,.int .u64 ((a.Base:Nat):Int),.slice A19 n20 c21,.slice A23 n24 c25,.int .u64 ((a.Ack:Nat):Int),.int .u64 ((a.Safe:Nat):Int)]::L)) ?_ ?_
 rcases Bool.eq_false_or_eq_true ((((decide ((((a.Kind:Nat):Int):Int) ≠ ((b.Kind:Nat):Int))) || (decide ((a.From:Int) ≠ b.From))) || (!(decide (a.ID = b.ID)))) || (decide ((((a.Set:Nat):Int):Int) ≠ ((b.Set:Nat):Int)))) with hc80 | hc80
 have hp80:((((((a.Kind:Nat):Int):Int) ≠ ((b.Kind:Nat):Int)) ∨ ((a.From:Int) ≠ b.From)) ∨ (¬ (a.ID = b.ID))) ∨ ((((a.Set:Nat):Int):Int) ≠ ((b.Set:Nat):Int)):=((J_or (J_or (J_or decide_eq_true_iff decide_eq_true_iff) (J_not decide_eq_true_iff)) decide_eq_true_iff)).1 hc80
 refine g_no (yk 32 true rfl rfl hc80) rfl ?_
 refine g_no (yk 32 true rfl rfl hc80) rfl ?_
 refine g_no (yk 32 true rfl rfl hc80) rfl ?_
 refine g_no (yk 32 true rfl rfl hc80) rfl ?_
 refine g_no (yk 32 true rfl rfl hc80) rfl ?_
 refine st (v:=.bool true) (x_pick_t (.tmp rfl (congrArg Value.bool hc80)) .const) ?_
 exact jw_end ⟨(congrArg Value.bool (jor_t hc80)),hρ77,hρ78,hs79⟩
 have hp80:¬ (((((((a.Kind:Nat):Int):Int) ≠ ((b.Kind:Nat):Int)) ∨ ((a.From:Int) ≠ b.From)) ∨ (¬ (a.ID = b.ID))) ∨ ((((a.Set:Nat):Int):Int) ≠ ((b.Set:Nat):Int))):=J_no (J_or (J_or (J_or decide_eq_true_iff decide_eq_true_iff) (J_not decide_eq_true_iff)) decide_eq_true_iff) hc80
 refine g_yes (yk 32 false rfl rfl hc80) ?_
 refine st (v:=.pointer (some ⟨g57,0 + 5,none⟩)) (fa30_4 (.tmp rfl hρ77)) ?_
 refine g_yes (yk 32 false rfl rfl hc80) ?_
 refine st (v:=.agg #[.int .u64 ((a.Cur.N:Nat):Int),.int .i64 a.Cur.P]) (ld24 (cs:=[.int .u64 ((a.Cur.N:Nat):Int),.int .i64 a.Cur.P]) (.tmp rfl rfl) (hs79.at_ 1 rfl (0 + 5) rfl) rfl) ?_
 refine g_yes (yk 32 false rfl rfl hc80) ?_
 refine st (v:=.pointer (some ⟨g61,0 + 5,none⟩)) (fa30_4 (.tmp rfl hρ78)) ?_
 refine g_yes (yk 32 false rfl rfl hc80) ?_
 refine st (v:=.agg #[.int .u64 ((b.Cur.N:Nat):Int),.int .i64 b.Cur.P]) (ld24 (cs:=[.int .u64 ((b.Cur.N:Nat):Int),.int .i64 b.Cur.P]) (.tmp rfl rfl) (hs79.at_ 0 rfl (0 + 5) rfl) rfl) ?_
 refine g_yes (yk 32 false rfl rfl hc80) ?_
 refine st (v:=.bool (!((((a.Cur.N:Nat):Int) == ((b.Cur.N:Nat):Int)) && ((a.Cur.P == b.Cur.P) && true)))) (x_neqA eqg24 (.tmp rfl rfl) (.tmp rfl rfl) (fun d => eqs24 (d + 98) _ ((a.Cur.N:Nat):Int) ((b.Cur.N:Nat):Int) a.Cur.P b.Cur.P)) ?_
 refine st (v:=.bool (!(decide (a.Cur = b.Cur)))) (x_pick_f (.tmp rfl (congrArg Value.bool hc80)) (.tmp rfl (congrArg (fun z => Value.bool (!z)) (GViewID.beq_dec a.Cur b.Cur)))) ?_
 exact jw_end ⟨(congrArg Value.bool (jor_f hc80)),hρ77,hρ78,hs79⟩
 rintro ρ w ⟨hρ81,hρ82,hρ83,hs84⟩
 refine st (v:=.bool (((((decide ((((a.Kind:Nat):Int):Int) ≠ ((b.Kind:Nat):Int))) || (decide ((a.From:Int) ≠ b.From))) || (!(decide (a.ID = b.ID)))) || (decide ((((a.Set:Nat):Int):Int) ≠ ((b.Set:Nat):Int)))) || (!(decide (a.Cur = b.Cur))))) (x_move (.tmp rfl hρ81)) ?_
 refine jw 6 (fun ρ w => ρ 45 = .bool ((((((decide ((((a.Kind:Nat):Int):Int) ≠ ((b.Kind:Nat):Int))) || (decide ((a.From:Int) ≠ b.From))) || (!(decide (a.ID = b.ID)))) || (decide ((((a.Set:Nat):Int):Int) ≠ ((b.Set:Nat):Int)))) || (!(decide (a.Cur = b.Cur)))) || (!(decide (a.Prom = b.Prom))))∧ρ 2 = .pointer (some ⟨g57,0,none⟩)∧ρ 3 = .pointer (some ⟨g61,0,none⟩)∧St H w (obj g61 30 [.int .u8 ((b.Kind:Nat):Int),.int .i64 b.From,.int .u64 ((b.ID.N:Nat):Int),.int .i64 b.ID.P,.int .u16 ((b.Set:Nat):Int),.int .u64 ((b.Cur.N:Nat):Int),.int .i64 b.Cur.P,.int .u64 ((b.Prom.N:Nat):Int),.int .i64 b.Prom.P,.slice A42 n43 c44,.int .u64 ((b.Base:Nat):Int),.slice A47 n48 c49,.slice A51 n52 c53,.int .u64 ((b.Ack:Nat):Int),.int .u64 ((b.Safe:Nat):Int)]::obj g57 30 [.int .u8 ((a.Kind:Nat):Int),.int .i64 a.From,.int .u64 ((a.ID.N:Nat):Int),.int .i64 a.ID.P,.int .u16 ((a.Set:Nat):Int),.int .u64 ((a.Cur.N:Nat):Int),.int .i64 a.Cur.P,.int .u64 ((a.Prom.N:Nat):Int),.int .i64 a.Prom.P,.slice A14 n15 c16,.int .u64 ((a.Base:Nat):Int),.slice A19 n20 c21,.slice A23 n24 c25,.int .u64 ((a.Ack:Nat):Int),.int .u64 ((a.Safe:Nat):Int)]::L)) ?_ ?_
 rcases Bool.eq_false_or_eq_true (((((decide ((((a.Kind:Nat):Int):Int) ≠ ((b.Kind:Nat):Int))) || (decide ((a.From:Int) ≠ b.From))) || (!(decide (a.ID = b.ID)))) || (decide ((((a.Set:Nat):Int):Int) ≠ ((b.Set:Nat):Int)))) || (!(decide (a.Cur = b.Cur)))) with hc85 | hc85
 have hp85:(((((((a.Kind:Nat):Int):Int) ≠ ((b.Kind:Nat):Int)) ∨ ((a.From:Int) ≠ b.From)) ∨ (¬ (a.ID = b.ID))) ∨ ((((a.Set:Nat):Int):Int) ≠ ((b.Set:Nat):Int))) ∨ (¬ (a.Cur = b.Cur)):=((J_or (J_or (J_or (J_or decide_eq_true_iff decide_eq_true_iff) (J_not decide_eq_true_iff)) decide_eq_true_iff) (J_not decide_eq_true_iff))).1 hc85
 refine g_no (yk 39 true rfl rfl hc85) rfl ?_
 refine g_no (yk 39 true rfl rfl hc85) rfl ?_
 refine g_no (yk 39 true rfl rfl hc85) rfl ?_
 refine g_no (yk 39 true rfl rfl hc85) rfl ?_
 refine g_no (yk 39 true rfl rfl hc85) rfl ?_
 refine st (v:=.bool true) (x_pick_t (.tmp rfl (congrArg Value.bool hc85)) .const) ?_
 exact jw_end ⟨(congrArg Value.bool (jor_t hc85)),hρ82,hρ83,hs84⟩
 have hp85:¬ ((((((((a.Kind:Nat):Int):Int) ≠ ((b.Kind:Nat):Int)) ∨ ((a.From:Int) ≠ b.From)) ∨ (¬ (a.ID = b.ID))) ∨ ((((a.Set:Nat):Int):Int) ≠ ((b.Set:Nat):Int))) ∨ (¬ (a.Cur = b.Cur))):=J_no (J_or (J_or (J_or (J_or decide_eq_true_iff decide_eq_true_iff) (J_not decide_eq_true_iff)) decide_eq_true_iff) (J_not decide_eq_true_iff)) hc85
 refine g_yes (yk 39 false rfl rfl hc85) ?_
 refine st (v:=.pointer (some ⟨g57,0 + 7,none⟩)) (fa30_5 (.tmp rfl hρ82)) ?_
 refine g_yes (yk 39 false rfl rfl hc85) ?_
 refine st (v:=.agg #[.int .u64 ((a.Prom.N:Nat):Int),.int .i64 a.Prom.P]) (ld24 (cs:=[.int .u64 ((a.Prom.N:Nat):Int),.int .i64 a.Prom.P]) (.tmp rfl rfl) (hs84.at_ 1 rfl (0 + 7) rfl) rfl) ?_
 refine g_yes (yk 39 false rfl rfl hc85) ?_
 refine st (v:=.pointer (some ⟨g61,0 + 7,none⟩)) (fa30_5 (.tmp rfl hρ83)) ?_
 refine g_yes (yk 39 false rfl rfl hc85) ?_
 refine st (v:=.agg #[.int .u64 ((b.Prom.N:Nat):Int),.int .i64 b.Prom.P]) (ld24 (cs:=[.int .u64 ((b.Prom.N:Nat):Int),.int .i64 b.Prom.P]) (.tmp rfl rfl) (hs84.at_ 0 rfl (0 + 7) rfl) rfl) ?_
 refine g_yes (yk 39 false rfl rfl hc85) ?_
 refine st (v:=.bool (!((((a.Prom.N:Nat):Int) == ((b.Prom.N:Nat):Int)) && ((a.Prom.P == b.Prom.P) && true)))) (x_neqA eqg24 (.tmp rfl rfl) (.tmp rfl rfl) (fun d => eqs24 (d + 98) _ ((a.Prom.N:Nat):Int) ((b.Prom.N:Nat):Int) a.Prom.P b.Prom.P)) ?_
 refine st (v:=.bool (!(decide (a.Prom = b.Prom)))) (x_pick_f (.tmp rfl (congrArg Value.bool hc85)) (.tmp rfl (congrArg (fun z => Value.bool (!z)) (GViewID.beq_dec a.Prom b.Prom)))) ?_
 exact jw_end ⟨(congrArg Value.bool (jor_f hc85)),hρ82,hρ83,hs84⟩
 rintro ρ w ⟨hρ86,hρ87,hρ88,hs89⟩
 refine st (v:=.bool ((((((decide ((((a.Kind:Nat):Int):Int) ≠ ((b.Kind:Nat):Int))) || (decide ((a.From:Int) ≠ b.From))) || (!(decide (a.ID = b.ID)))) || (decide ((((a.Set:Nat):Int):Int) ≠ ((b.Set:Nat):Int)))) || (!(decide (a.Cur = b.Cur)))) || (!(decide (a.Prom = b.Prom))))) (x_move (.tmp rfl hρ86)) ?_
 refine jw 6 (fun ρ w => ρ 52 = .bool (((((((decide ((((a.Kind:Nat):Int):Int) ≠ ((b.Kind:Nat):Int))) || (decide ((a.From:Int) ≠ b.From))) || (!(decide (a.ID = b.ID)))) || (decide ((((a.Set:Nat):Int):Int) ≠ ((b.Set:Nat):Int)))) || (!(decide (a.Cur = b.Cur)))) || (!(decide (a.Prom = b.Prom)))) || (decide ((((a.Base:Nat):Int):Int) ≠ ((b.Base:Nat):Int))))∧ρ 2 = .pointer (some ⟨g57,0,none⟩)∧ρ 3 = .pointer (some ⟨g61,0,none⟩)∧St H w (obj g61 30 [.int .u8 ((b.Kind:Nat):Int),.int .i64 b.From,.int .u64 ((b.ID.N:Nat):Int),.int .i64 b.ID.P,.int .u16 ((b.Set:Nat):Int),.int .u64 ((b.Cur.N:Nat):Int),.int .i64 b.Cur.P,.int .u64 ((b.Prom.N:Nat):Int),.int .i64 b.Prom.P,.slice A42 n43 c44,.int .u64 ((b.Base:Nat):Int),.slice A47 n48 c49,.slice A51 n52 c53,.int .u64 ((b.Ack:Nat):Int),.int .u64 ((b.Safe:Nat):Int)]::obj g57 30 [.int .u8 ((a.Kind:Nat):Int),.int .i64 a.From,.int .u64 ((a.ID.N:Nat):Int),.int .i64 a.ID.P,.int .u16 ((a.Set:Nat):Int),.int .u64 ((a.Cur.N:Nat):Int),.int .i64 a.Cur.P,.int .u64 ((a.Prom.N:Nat):Int),.int .i64 a.Prom.P,.slice A14 n15 c16,.int .u64 ((a.Base:Nat):Int),.slice A19 n20 c21,.slice A23 n24 c25,.int .u64 ((a.Ack:Nat):Int),.int .u64 ((a.Safe:Nat):Int)]::L)) ?_ ?_
 rcases Bool.eq_false_or_eq_true ((((((decide ((((a.Kind:Nat):Int):Int) ≠ ((b.Kind:Nat):Int))) || (decide ((a.From:Int) ≠ b.From))) || (!(decide (a.ID = b.ID)))) || (decide ((((a.Set:Nat):Int):Int) ≠ ((b.Set:Nat):Int)))) || (!(decide (a.Cur = b.Cur)))) || (!(decide (a.Prom = b.Prom)))) with hc90 | hc90
 have hp90:((((((((a.Kind:Nat):Int):Int) ≠ ((b.Kind:Nat):Int)) ∨ ((a.From:Int) ≠ b.From)) ∨ (¬ (a.ID = b.ID))) ∨ ((((a.Set:Nat):Int):Int) ≠ ((b.Set:Nat):Int))) ∨ (¬ (a.Cur = b.Cur))) ∨ (¬ (a.Prom = b.Prom)):=((J_or (J_or (J_or (J_or (J_or decide_eq_true_iff decide_eq_true_iff) (J_not decide_eq_true_iff)) decide_eq_true_iff) (J_not decide_eq_true_iff)) (J_not decide_eq_true_iff))).1 hc90
 refine g_no (yk 46 true rfl rfl hc90) rfl ?_
 refine g_no (yk 46 true rfl rfl hc90) rfl ?_
 refine g_no (yk 46 true rfl rfl hc90) rfl ?_
 refine g_no (yk 46 true rfl rfl hc90) rfl ?_
 refine g_no (yk 46 true rfl rfl hc90) rfl ?_
 refine st (v:=.bool true) (x_pick_t (.tmp rfl (congrArg Value.bool hc90)) .const) ?_
 exact jw_end ⟨(congrArg Value.bool (jor_t hc90)),hρ87,hρ88,hs89⟩
 have hp90:¬ (((((((((a.Kind:Nat):Int):Int) ≠ ((b.Kind:Nat):Int)) ∨ ((a.From:Int) ≠ b.From)) ∨ (¬ (a.ID = b.ID))) ∨ ((((a.Set:Nat):Int):Int) ≠ ((b.Set:Nat):Int))) ∨ (¬ (a.Cur = b.Cur))) ∨ (¬ (a.Prom = b.Prom))):=J_no (J_or (J_or (J_or (J_or (J_or decide_eq_true_iff decide_eq_true_iff) (J_not decide_eq_true_iff)) decide_eq_true_iff) (J_not decide_eq_true_iff)) (J_not decide_eq_true_iff)) hc90
 refine g_yes (yk 46 false rfl rfl hc90) ?_
 refine st (v:=.pointer (some ⟨g57,0 + 10,none⟩)) (fa30_7 (.tmp rfl hρ87)) ?_
 refine g_yes (yk 46 false rfl rfl hc90) ?_
 refine st (v:=.int .u64 ((a.Base:Nat):Int)) (ld22 (.tmp rfl rfl) (hs89.cell 1 rfl (0 + 10) rfl)) ?_
 refine g_yes (yk 46 false rfl rfl hc90) ?_
 refine st (v:=.pointer (some ⟨g61,0 + 10,none⟩)) (fa30_7 (.tmp rfl hρ88)) ?_
 refine g_yes (yk 46 false rfl rfl hc90) ?_
 refine st (v:=.int .u64 ((b.Base:Nat):Int)) (ld22 (.tmp rfl rfl) (hs89.cell 0 rfl (0 + 10) rfl)) ?_
 refine g_yes (yk 46 false rfl rfl hc90) ?_
 refine st (v:=.bool (decide ((((a.Base:Nat):Int):Int) ≠ ((b.Base:Nat):Int)))) (x_neq (k:=.u64) (a:=((a.Base:Nat):Int)) (b:=((b.Base:Nat):Int)) (.tmp rfl rfl) (.tmp rfl rfl)) ?_
 refine st (v:=.bool (decide ((((a.Base:Nat):Int):Int) ≠ ((b.Base:Nat):Int)))) (x_pick_f (.tmp rfl (congrArg Value.bool hc90)) (.tmp rfl rfl)) ?_
 exact jw_end ⟨(congrArg Value.bool (jor_f hc90)),hρ87,hρ88,hs89⟩
 rintro ρ w ⟨hρ91,hρ92,hρ93,hs94⟩
 refine st (v:=.bool (((((((decide ((((a.Kind:Nat):Int):Int) ≠ ((b.Kind:Nat):Int))) || (decide ((a.From:Int) ≠ b.From))) || (!(decide (a.ID = b.ID)))) || (decide ((((a.Set:Nat):Int):Int) ≠ ((b.Set:Nat):Int)))) || (!(decide (a.Cur = b.Cur)))) || (!(decide (a.Prom = b.Prom)))) || (decide ((((a.Base:Nat):Int):Int) ≠ ((b.Base:Nat):Int))))) (x_move (.tmp rfl hρ91)) ?_
 refine jw 6 (fun ρ w => ρ 59 = .bool ((((((((decide ((((a.Kind:Nat):Int):Int) ≠ ((b.Kind:Nat):Int))) || (decide ((a.From:Int) ≠ b.From))) || (!(decide (a.ID = b.ID)))) || (decide ((((a.Set:Nat):Int):Int) ≠ ((b.Set:Nat):Int)))) || (!(decide (a.Cur = b.Cur)))) || (!(decide (a.Prom = b.Prom)))) || (decide ((((a.Base:Nat):Int):Int) ≠ ((b.Base:Nat):Int)))) || (decide ((((a.Ack:Nat):Int):Int) ≠ ((b.Ack:Nat):Int))))∧ρ 2 = .pointer (some ⟨g57,0,none⟩)∧ρ 3 = .pointer (some ⟨g61,0,none⟩)∧St H w (obj g61 30 [.int .u8 ((b.Kind:Nat):Int),.int .i64 b.From,.int .u64 ((b.ID.N:Nat):Int),.int .i64 b.ID.P,.int .u16 ((b.Set:Nat):Int),.int .u64 ((b.Cur.N:Nat):Int),.int .i64 b.Cur.P,.int .u64 ((b.Prom.N:Nat):Int),.int .i64 b.Prom.P,.slice A42 n43 c44,.int .u64 ((b.Base:Nat):Int),.slice A47 n48 c49,.slice A51 n52 c53,.int .u64 ((b.Ack:Nat):Int),.int .u64 ((b.Safe:Nat):Int)]::obj g57 30 [.int .u8 ((a.Kind:Nat):Int),.int .i64 a.From,.int .u64 ((a.ID.N:Nat):Int),.int .i64 a.ID.P,.int .u16 ((a.Set:Nat):Int),.int .u64 ((a.Cur.N:Nat):Int),.int .i64 a.Cur.P,.int .u64 ((a.Prom.N:Nat):Int),.int .i64 a.Prom.P,.slice A14 n15 c16,.int .u64 ((a.Base:Nat):Int),.slice A19 n20 c21,.slice A23 n24 c25,.int .u64 ((a.Ack:Nat):Int),.int .u64 ((a.Safe:Nat):Int)]::L)) ?_ ?_
 rcases Bool.eq_false_or_eq_true (((((((decide ((((a.Kind:Nat):Int):Int) ≠ ((b.Kind:Nat):Int))) || (decide ((a.From:Int) ≠ b.From))) || (!(decide (a.ID = b.ID)))) || (decide ((((a.Set:Nat):Int):Int) ≠ ((b.Set:Nat):Int)))) || (!(decide (a.Cur = b.Cur)))) || (!(decide (a.Prom = b.Prom)))) || (decide ((((a.Base:Nat):Int):Int) ≠ ((b.Base:Nat):Int)))) with hc95 | hc95
 have hp95:(((((((((a.Kind:Nat):Int):Int) ≠ ((b.Kind:Nat):Int)) ∨ ((a.From:Int) ≠ b.From)) ∨ (¬ (a.ID = b.ID))) ∨ ((((a.Set:Nat):Int):Int) ≠ ((b.Set:Nat):Int))) ∨ (¬ (a.Cur = b.Cur))) ∨ (¬ (a.Prom = b.Prom))) ∨ ((((a.Base:Nat):Int):Int) ≠ ((b.Base:Nat):Int)):=((J_or (J_or (J_or (J_or (J_or (J_or decide_eq_true_iff decide_eq_true_iff) (J_not decide_eq_true_iff)) decide_eq_true_iff) (J_not decide_eq_true_iff)) (J_not decide_eq_true_iff)) decide_eq_true_iff)).1 hc95
 refine g_no (yk 53 true rfl rfl hc95) rfl ?_
 refine g_no (yk 53 true rfl rfl hc95) rfl ?_
 refine g_no (yk 53 true rfl rfl hc95) rfl ?_
 refine g_no (yk 53 true rfl rfl hc95) rfl ?_
 refine g_no (yk 53 true rfl rfl hc95) rfl ?_
 refine st (v:=.bool true) (x_pick_t (.tmp rfl (congrArg Value.bool hc95)) .const) ?_
 exact jw_end ⟨(congrArg Value.bool (jor_t hc95)),hρ92,hρ93,hs94⟩
 have hp95:¬ ((((((((((a.Kind:Nat):Int):Int) ≠ ((b.Kind:Nat):Int)) ∨ ((a.From:Int) ≠ b.From)) ∨ (¬ (a.ID = b.ID))) ∨ ((((a.Set:Nat):Int):Int) ≠ ((b.Set:Nat):Int))) ∨ (¬ (a.Cur = b.Cur))) ∨ (¬ (a.Prom = b.Prom))) ∨ ((((a.Base:Nat):Int):Int) ≠ ((b.Base:Nat):Int))):=J_no (J_or (J_or (J_or (J_or (J_or (J_or decide_eq_true_iff decide_eq_true_iff) (J_not decide_eq_true_iff)) decide_eq_true_iff) (J_not decide_eq_true_iff)) (J_not decide_eq_true_iff)) decide_eq_true_iff) hc95
 refine g_yes (yk 53 false rfl rfl hc95) ?_
 refine st (v:=.pointer (some ⟨g57,0 + 13,none⟩)) (fa30_10 (.tmp rfl hρ92)) ?_
 refine g_yes (yk 53 false rfl rfl hc95) ?_
 refine st (v:=.int .u64 ((a.Ack:Nat):Int)) (ld22 (.tmp rfl rfl) (hs94.cell 1 rfl (0 + 13) rfl)) ?_
 refine g_yes (yk 53 false rfl rfl hc95) ?_
 refine st (v:=.pointer (some ⟨g61,0 + 13,none⟩)) (fa30_10 (.tmp rfl hρ93)) ?_
 refine g_yes (yk 53 false rfl rfl hc95) ?_
 refine st (v:=.int .u64 ((b.Ack:Nat):Int)) (ld22 (.tmp rfl rfl) (hs94.cell 0 rfl (0 + 13) rfl)) ?_
 refine g_yes (yk 53 false rfl rfl hc95) ?_
 refine st (v:=.bool (decide ((((a.Ack:Nat):Int):Int) ≠ ((b.Ack:Nat):Int)))) (x_neq (k:=.u64) (a:=((a.Ack:Nat):Int)) (b:=((b.Ack:Nat):Int)) (.tmp rfl rfl) (.tmp rfl rfl)) ?_
 refine st (v:=.bool (decide ((((a.Ack:Nat):Int):Int) ≠ ((b.Ack:Nat):Int)))) (x_pick_f (.tmp rfl (congrArg Value.bool hc95)) (.tmp rfl rfl)) ?_
 exact jw_end ⟨(congrArg Value.bool (jor_f hc95)),hρ92,hρ93,hs94⟩
 rintro ρ w ⟨hρ96,hρ97,hρ98,hs99⟩
 refine st (v:=.bool ((((((((decide ((((a.Kind:Nat):Int):Int) ≠ ((b.Kind:Nat):Int))) || (decide ((a.From:Int) ≠ b.From))) || (!(decide (a.ID = b.ID)))) || (decide ((((a.Set:Nat):Int):Int) ≠ ((b.Set:Nat):Int)))) || (!(decide (a.Cur = b.Cur)))) || (!(decide (a.Prom = b.Prom)))) || (decide ((((a.Base:Nat):Int):Int) ≠ ((b.Base:Nat):Int)))) || (decide ((((a.Ack:Nat):Int):Int) ≠ ((b.Ack:Nat):Int))))) (x_move (.tmp rfl hρ96)) ?_
 refine jw 6 (fun ρ w => ρ 66 = .bool (((((((((decide ((((a.Kind:Nat):Int):Int) ≠ ((b.Kind:Nat):Int))) || (decide ((a.From:Int) ≠ b.From))) || (!(decide (a.ID = b.ID)))) || (decide ((((a.Set:Nat):Int):Int) ≠ ((b.Set:Nat):Int)))) || (!(decide (a.Cur = b.Cur)))) || (!(decide (a.Prom = b.Prom)))) || (decide ((((a.Base:Nat):Int):Int) ≠ ((b.Base:Nat):Int)))) || (decide ((((a.Ack:Nat):Int):Int) ≠ ((b.Ack:Nat):Int)))) || (decide ((((a.Safe:Nat):Int):Int) ≠ ((b.Safe:Nat):Int))))∧ρ 2 = .pointer (some ⟨g57,0,none⟩)∧ρ 3 = .pointer (some ⟨g61,0,none⟩)∧St H w (obj g61 30 [.int .u8 ((b.Kind:Nat):Int),.int .i64 b.From,.int .u64 ((b.ID.N:Nat):Int),.int .i64 b.ID.P,.int .u16 ((b.Set:Nat):Int),.int .u64 ((b.Cur.N:Nat):Int),.int .i64 b.Cur.P,.int .u64 ((b.Prom.N:Nat):Int),.int .i64 b.Prom.P,.slice A42 n43 c44,.int .u64 ((b.Base:Nat):Int),.slice A47 n48 c49,.slice A51 n52 c53,.int .u64 ((b.Ack:Nat):Int),.int .u64 ((b.Safe:Nat):Int)]::obj g57 30 [.int .u8 ((a.Kind:Nat):Int),.int .i64 a.From,.int .u64 ((a.ID.N:Nat):Int),.int .i64 a.ID.P,.int .u16 ((a.Set:Nat):Int),.int .u64 ((a.Cur.N:Nat):Int),.int .i64 a.Cur.P,.int .u64 ((a.Prom.N:Nat):Int),.int .i64 a.Prom.P,.slice A14 n15 c16,.int .u64 ((a.Base:Nat):Int),.slice A19 n20 c21,.slice A23 n24 c25,.int .u64 ((a.Ack:Nat):Int),.int .u64 ((a.Safe:Nat):Int)]::L)) ?_ ?_
 rcases Bool.eq_false_or_eq_true ((((((((decide ((((a.Kind:Nat):Int):Int) ≠ ((b.Kind:Nat):Int))) || (decide ((a.From:Int) ≠ b.From))) || (!(decide (a.ID = b.ID)))) || (decide ((((a.Set:Nat):Int):Int) ≠ ((b.Set:Nat):Int)))) || (!(decide (a.Cur = b.Cur)))) || (!(decide (a.Prom = b.Prom)))) || (decide ((((a.Base:Nat):Int):Int) ≠ ((b.Base:Nat):Int)))) || (decide ((((a.Ack:Nat):Int):Int) ≠ ((b.Ack:Nat):Int)))) with hc100 | hc100
 have hp100:((((((((((a.Kind:Nat):Int):Int) ≠ ((b.Kind:Nat):Int)) ∨ ((a.From:Int) ≠ b.From)) ∨ (¬ (a.ID = b.ID))) ∨ ((((a.Set:Nat):Int):Int) ≠ ((b.Set:Nat):Int))) ∨ (¬ (a.Cur = b.Cur))) ∨ (¬ (a.Prom = b.Prom))) ∨ ((((a.Base:Nat):Int):Int) ≠ ((b.Base:Nat):Int))) ∨ ((((a.Ack:Nat):Int):Int) ≠ ((b.Ack:Nat):Int)):=((J_or (J_or (J_or (J_or (J_or (J_or (J_or decide_eq_true_iff decide_eq_true_iff) (J_not decide_eq_true_iff)) decide_eq_true_iff) (J_not decide_eq_true_iff)) (J_not decide_eq_true_iff)) decide_eq_true_iff) decide_eq_true_iff)).1 hc100
 refine g_no (yk 60 true rfl rfl hc100) rfl ?_
 refine g_no (yk 60 true rfl rfl hc100) rfl ?_
 refine g_no (yk 60 true rfl rfl hc100) rfl ?_
 refine g_no (yk 60 true rfl rfl hc100) rfl ?_
 refine g_no (yk 60 true rfl rfl hc100) rfl ?_
 refine st (v:=.bool true) (x_pick_t (.tmp rfl (congrArg Value.bool hc100)) .const) ?_
 exact jw_end ⟨(congrArg Value.bool (jor_t hc100)),hρ97,hρ98,hs99⟩
 have hp100:¬ (((((((((((a.Kind:Nat):Int):Int) ≠ ((b.Kind:Nat):Int)) ∨ ((a.From:Int) ≠ b.From)) ∨ (¬ (a.ID = b.ID))) ∨ ((((a.Set:Nat):Int):Int) ≠ ((b.Set:Nat):Int))) ∨ (¬ (a.Cur = b.Cur))) ∨ (¬ (a.Prom = b.Prom))) ∨ ((((a.Base:Nat):Int):Int) ≠ ((b.Base:Nat):Int))) ∨ ((((a.Ack:Nat):Int):Int) ≠ ((b.Ack:Nat):Int))):=J_no (J_or (J_or (J_or (J_or (J_or (J_or (J_or decide_eq_true_iff decide_eq_true_iff) (J_not decide_eq_true_iff)) decide_eq_true_iff) (J_not decide_eq_true_iff)) (J_not decide_eq_true_iff)) decide_eq_true_iff) decide_eq_true_iff) hc100
 refine g_yes (yk 60 false rfl rfl hc100) ?_
 refine st (v:=.pointer (some ⟨g57,0 + 14,none⟩)) (fa30_11 (.tmp rfl hρ97)) ?_
 refine g_yes (yk 60 false rfl rfl hc100) ?_
 refine st (v:=.int .u64 ((a.Safe:Nat):Int)) (ld22 (.tmp rfl rfl) (hs99.cell 1 rfl (0 + 14) rfl)) ?_
 refine g_yes (yk 60 false rfl rfl hc100) ?_
 refine st (v:=.pointer (some ⟨g61,0 + 14,none⟩)) (fa30_11 (.tmp rfl hρ98)) ?_
 refine g_yes (yk 60 false rfl rfl hc100) ?_
 refine st (v:=.int .u64 ((b.Safe:Nat):Int)) (ld22 (.tmp rfl rfl) (hs99.cell 0 rfl (0 + 14) rfl)) ?_
 refine g_yes (yk 60 false rfl rfl hc100) ?_
 refine st (v:=.bool (decide ((((a.Safe:Nat):Int):Int) ≠ ((b.Safe:Nat):Int)))) (x_neq (k:=.u64) (a:=((a.Safe:Nat):Int)) (b:=((b.Safe:Nat):Int)) (.tmp rfl rfl) (.tmp rfl rfl)) ?_
 refine st (v:=.bool (decide ((((a.Safe:Nat):Int):Int) ≠ ((b.Safe:Nat):Int)))) (x_pick_f (.tmp rfl (congrArg Value.bool hc100)) (.tmp rfl rfl)) ?_
 exact jw_end ⟨(congrArg Value.bool (jor_f hc100)),hρ97,hρ98,hs99⟩
 rintro ρ w ⟨hρ101,hρ102,hρ103,hs104⟩
 refine st (v:=.bool (((((((((decide ((((a.Kind:Nat):Int):Int) ≠ ((b.Kind:Nat):Int))) || (decide ((a.From:Int) ≠ b.From))) || (!(decide (a.ID = b.ID)))) || (decide ((((a.Set:Nat):Int):Int) ≠ ((b.Set:Nat):Int)))) || (!(decide (a.Cur = b.Cur)))) || (!(decide (a.Prom = b.Prom)))) || (decide ((((a.Base:Nat):Int):Int) ≠ ((b.Base:Nat):Int)))) || (decide ((((a.Ack:Nat):Int):Int) ≠ ((b.Ack:Nat):Int)))) || (decide ((((a.Safe:Nat):Int):Int) ≠ ((b.Safe:Nat):Int))))) (x_move (.tmp rfl hρ101)) ?_
 refine jw 8 (fun ρ w => ρ 75 = .bool ((((((((((decide ((((a.Kind:Nat):Int):Int) ≠ ((b.Kind:Nat):Int))) || (decide ((a.From:Int) ≠ b.From))) || (!(decide (a.ID = b.ID)))) || (decide ((((a.Set:Nat):Int):Int) ≠ ((b.Set:Nat):Int)))) || (!(decide (a.Cur = b.Cur)))) || (!(decide (a.Prom = b.Prom)))) || (decide ((((a.Base:Nat):Int):Int) ≠ ((b.Base:Nat):Int)))) || (decide ((((a.Ack:Nat):Int):Int) ≠ ((b.Ack:Nat):Int)))) || (decide ((((a.Safe:Nat):Int):Int) ≠ ((b.Safe:Nat):Int)))) || (decide ((((n20:Nat):Int):Int) ≠ ((n48:Nat):Int))))∧ρ 2 = .pointer (some ⟨g57,0,none⟩)∧ρ 3 = .pointer (some ⟨g61,0,none⟩)∧St H w (obj g61 30 [.int .u8 ((b.Kind:Nat):Int),.int .i64 b.From,.int .u64 ((b.ID.N:Nat):Int),.int .i64 b.ID.P,.int .u16 ((b.Set:Nat):Int),.int .u64 ((b.Cur.N:Nat):Int),.int .i64 b.Cur.P,.int .u64 ((b.Prom.N:Nat):Int),.int .i64 b.Prom.P,.slice A42 n43 c44,.int .u64 ((b.Base:Nat):Int),.slice A47 n48 c49,.slice A51 n52 c53,.int .u64 ((b.Ack:Nat):Int),.int .u64 ((b.Safe:Nat):Int)]::obj g57 30 [.int .u8 ((a.Kind:Nat):Int),.int .i64 a.From,.int .u64 ((a.ID.N:Nat):Int),.int .i64 a.ID.P,.int .u16 ((a.Set:Nat):Int),.int .u64 ((a.Cur.N:Nat):Int),.int .i64 a.Cur.P,.int .u64 ((a.Prom.N:Nat):Int),.int .i64 a.Prom.P,.slice A14 n15 c16,.int .u64 ((a.Base:Nat):Int),.slice A19 n20 c21,.slice A23 n24 c25,.int .u64 ((a.Ack:Nat):Int),.int .u64 ((a.Safe:Nat):Int)]::L)) ?_ ?_
 rcases Bool.eq_false_or_eq_true (((((((((decide ((((a.Kind:Nat):Int):Int) ≠ ((b.Kind:Nat):Int))) || (decide ((a.From:Int) ≠ b.From))) || (!(decide (a.ID = b.ID)))) || (decide ((((a.Set:Nat):Int):Int) ≠ ((b.Set:Nat):Int)))) || (!(decide (a.Cur = b.Cur)))) || (!(decide (a.Prom = b.Prom)))) || (decide ((((a.Base:Nat):Int):Int) ≠ ((b.Base:Nat):Int)))) || (decide ((((a.Ack:Nat):Int):Int) ≠ ((b.Ack:Nat):Int)))) || (decide ((((a.Safe:Nat):Int):Int) ≠ ((b.Safe:Nat):Int)))) with hc105 | hc105
 have hp105:(((((((((((a.Kind:Nat):Int):Int) ≠ ((b.Kind:Nat):Int)) ∨ ((a.From:Int) ≠ b.From)) ∨ (¬ (a.ID = b.ID))) ∨ ((((a.Set:Nat):Int):Int) ≠ ((b.Set:Nat):Int))) ∨ (¬ (a.Cur = b.Cur))) ∨ (¬ (a.Prom = b.Prom))) ∨ ((((a.Base:Nat):Int):Int) ≠ ((b.Base:Nat):Int))) ∨ ((((a.Ack:Nat):Int):Int) ≠ ((b.Ack:Nat):Int))) ∨ ((((a.Safe:Nat):Int):Int) ≠ ((b.Safe:Nat):Int)):=((J_or (J_or (J_or (J_or (J_or (J_or (J_or (J_or decide_eq_true_iff decide_eq_true_iff) (J_not decide_eq_true_iff)) decide_eq_true_iff) (J_not decide_eq_true_iff)) (J_not decide_eq_true_iff)) decide_eq_true_iff) decide_eq_true_iff) decide_eq_true_iff)).1 hc105
 refine g_no (yk 67 true rfl rfl hc105) rfl ?_
 refine g_no (yk 67 true rfl rfl hc105) rfl ?_
 refine g_no (yk 67 true rfl rfl hc105) rfl ?_
 refine g_no (yk 67 true rfl rfl hc105) rfl ?_
 refine g_no (yk 67 true rfl rfl hc105) rfl ?_
 refine g_no (yk 67 true rfl rfl hc105) rfl ?_
 refine g_no (yk 67 true rfl rfl hc105) rfl ?_
 refine st (v:=.bool true) (x_pick_t (.tmp rfl (congrArg Value.bool hc105)) .const) ?_
 exact jw_end ⟨(congrArg Value.bool (jor_t hc105)),hρ102,hρ103,hs104⟩
 have hp105:¬ ((((((((((((a.Kind:Nat):Int):Int) ≠ ((b.Kind:Nat):Int)) ∨ ((a.From:Int) ≠ b.From)) ∨ (¬ (a.ID = b.ID))) ∨ ((((a.Set:Nat):Int):Int) ≠ ((b.Set:Nat):Int))) ∨ (¬ (a.Cur = b.Cur))) ∨ (¬ (a.Prom = b.Prom))) ∨ ((((a.Base:Nat):Int):Int) ≠ ((b.Base:Nat):Int))) ∨ ((((a.Ack:Nat):Int):Int) ≠ ((b.Ack:Nat):Int))) ∨ ((((a.Safe:Nat):Int):Int) ≠ ((b.Safe:Nat):Int))):=J_no (J_or (J_or (J_or (J_or (J_or (J_or (J_or (J_or decide_eq_true_iff decide_eq_true_iff) (J_not decide_eq_true_iff)) decide_eq_true_iff) (J_not decide_eq_true_iff)) (J_not decide_eq_true_iff)) decide_eq_true_iff) decide_eq_true_iff) decide_eq_true_iff) hc105
 refine g_yes (yk 67 false rfl rfl hc105) ?_
 refine st (v:=.pointer (some ⟨g57,0 + 11,none⟩)) (fa30_8 (.tmp rfl hρ102)) ?_
 refine g_yes (yk 67 false rfl rfl hc105) ?_
 refine st (v:=.slice A19 n20 c21) (ld27 (.tmp rfl rfl) (hs104.cell 1 rfl (0 + 11) rfl)) ?_
 refine g_yes (yk 67 false rfl rfl hc105) ?_
 refine st (v:=.int .i64 ((n20:Nat):Int)) (x_len (n:=n20) Try.underlying27 (.tmp rfl rfl)) ?_
 refine g_yes (yk 67 false rfl rfl hc105) ?_
 refine st (v:=.pointer (some ⟨g61,0 + 11,none⟩)) (fa30_8 (.tmp rfl hρ103)) ?_
 refine g_yes (yk 67 false rfl rfl hc105) ?_
 refine st (v:=.slice A47 n48 c49) (ld27 (.tmp rfl rfl) (hs104.cell 0 rfl (0 + 11) rfl)) ?_
 refine g_yes (yk 67 false rfl rfl hc105) ?_
 refine st (v:=.int .i64 ((n48:Nat):Int)) (x_len (n:=n48) Try.underlying27 (.tmp rfl rfl)) ?_
 refine g_yes (yk 67 false rfl rfl hc105) ?_
 refine st (v:=.bool (decide ((((n20:Nat):Int):Int) ≠ ((n48:Nat):Int)))) (x_neq (k:=.i64) (a:=((n20:Nat):Int)) (b:=((n48:Nat):Int)) (.tmp rfl rfl) (.tmp rfl rfl)) ?_
 refine st (v:=.bool (decide ((((n20:Nat):Int):Int) ≠ ((n48:Nat):Int)))) (x_pick_f (.tmp rfl (congrArg Value.bool hc105)) (.tmp rfl rfl)) ?_
 exact jw_end ⟨(congrArg Value.bool (jor_f hc105)),hρ102,hρ103,hs104⟩
 rintro ρ w ⟨hρ106,hρ107,hρ108,hs109⟩
 refine c_nil (n_then ?_)
 rcases Bool.eq_false_or_eq_true ((((((((((decide ((((a.Kind:Nat):Int):Int) ≠ ((b.Kind:Nat):Int))) || (decide ((a.From:Int) ≠ b.From))) || (!(decide (a.ID = b.ID)))) || (decide ((((a.Set:Nat):Int):Int) ≠ ((b.Set:Nat):Int)))) || (!(decide (a.Cur = b.Cur)))) || (!(decide (a.Prom = b.Prom)))) || (decide ((((a.Base:Nat):Int):Int) ≠ ((b.Base:Nat):Int)))) || (decide ((((a.Ack:Nat):Int):Int) ≠ ((b.Ack:Nat):Int)))) || (decide ((((a.Safe:Nat):Int):Int) ≠ ((b.Safe:Nat):Int)))) || (decide ((((n20:Nat):Int):Int) ≠ ((n48:Nat):Int)))) with hc110 | hc110
 have hp110:((((((((((((a.Kind:Nat):Int):Int) ≠ ((b.Kind:Nat):Int)) ∨ ((a.From:Int) ≠ b.From)) ∨ (¬ (a.ID = b.ID))) ∨ ((((a.Set:Nat):Int):Int) ≠ ((b.Set:Nat):Int))) ∨ (¬ (a.Cur = b.Cur))) ∨ (¬ (a.Prom = b.Prom))) ∨ ((((a.Base:Nat):Int):Int) ≠ ((b.Base:Nat):Int))) ∨ ((((a.Ack:Nat):Int):Int) ≠ ((b.Ack:Nat):Int))) ∨ ((((a.Safe:Nat):Int):Int) ≠ ((b.Safe:Nat):Int))) ∨ ((((n20:Nat):Int):Int) ≠ ((n48:Nat):Int)):=((J_or (J_or (J_or (J_or (J_or (J_or (J_or (J_or (J_or decide_eq_true_iff decide_eq_true_iff) (J_not decide_eq_true_iff)) decide_eq_true_iff) (J_not decide_eq_true_iff)) (J_not decide_eq_true_iff)) decide_eq_true_iff) decide_eq_true_iff) decide_eq_true_iff) decide_eq_true_iff)).1 hc110
 refine c_cond_t (t:=true) (.tmp rfl (hρ106.trans (congrArg Value.bool hc110))) rfl ?_
 refine c_seq (c_region (st (v:=.bool false) (x_assign .const) ?_))
 refine c_nil (n_then (c_ret (r_then (leave_ret (res_one (v:=.bool false) rfl (.mk rfl rfl)) ?_))))
 have hans111:(decide (a = b)) = false:=same_no (by omega) (by omega) hp110
 rw [hans111]
 exact ⟨rfl,hs109.drop.drop⟩
 have hp110:¬ (((((((((((((a.Kind:Nat):Int):Int) ≠ ((b.Kind:Nat):Int)) ∨ ((a.From:Int) ≠ b.From)) ∨ (¬ (a.ID = b.ID))) ∨ ((((a.Set:Nat):Int):Int) ≠ ((b.Set:Nat):Int))) ∨ (¬ (a.Cur = b.Cur))) ∨ (¬ (a.Prom = b.Prom))) ∨ ((((a.Base:Nat):Int):Int) ≠ ((b.Base:Nat):Int))) ∨ ((((a.Ack:Nat):Int):Int) ≠ ((b.Ack:Nat):Int))) ∨ ((((a.Safe:Nat):Int):Int) ≠ ((b.Safe:Nat):Int))) ∨ ((((n20:Nat):Int):Int) ≠ ((n48:Nat):Int))):=J_no (J_or (J_or (J_or (J_or (J_or (J_or (J_or (J_or (J_or decide_eq_true_iff decide_eq_true_iff) (J_not decide_eq_true_iff)) decide_eq_true_iff) (J_not decide_eq_true_iff)) (J_not decide_eq_true_iff)) decide_eq_true_iff) decide_eq_true_iff) decide_eq_true_iff) decide_eq_true_iff) hc110
 refine c_cond_f (t:=false) (.tmp rfl (hρ106.trans (congrArg Value.bool hc110))) rfl ?_
 refine c_skip (n_then (c_seq (c_seq (c_region (st (v:=.int .i64 0) (x_assign .const) ?_)))))
 refine c_nil (n_then (c_block (c_loop (fun ρ w mm => ∃ (i:Nat),ρ 2 = .pointer (some ⟨g57,0,none⟩)∧ρ 3 = .pointer (some ⟨g61,0,none⟩)∧ρ 5 = .int .i64 ((i:Nat):Int)∧(i ≤ a.Msgs.length)∧(a.Msgs.take i = b.Msgs.take i)∧St H w (obj g61 30 [.int .u8 ((b.Kind:Nat):Int),.int .i64 b.From,.int .u64 ((b.ID.N:Nat):Int),.int .i64 b.ID.P,.int .u16 ((b.Set:Nat):Int),.int .u64 ((b.Cur.N:Nat):Int),.int .i64 b.Cur.P,.int .u64 ((b.Prom.N:Nat):Int),.int .i64 b.Prom.P,.slice A42 n43 c44,.int .u64 ((b.Base:Nat):Int),.slice A47 n48 c49,.slice A51 n52 c53,.int .u64 ((b.Ack:Nat):Int),.int .u64 ((b.Safe:Nat):Int)]::obj g57 30 [.int .u8 ((a.Kind:Nat):Int),.int .i64 a.From,.int .u64 ((a.ID.N:Nat):Int),.int .i64 a.ID.P,.int .u16 ((a.Set:Nat):Int),.int .u64 ((a.Cur.N:Nat):Int),.int .i64 a.Cur.P,.int .u64 ((a.Prom.N:Nat):Int),.int .i64 a.Prom.P,.slice A14 n15 c16,.int .u64 ((a.Base:Nat):Int),.slice A19 n20 c21,.slice A23 n24 c25,.int .u64 ((a.Ack:Nat):Int),.int .u64 ((a.Safe:Nat):Int)]::L)∧mm = a.Msgs.length - i) _ ⟨0,hρ107,hρ108,rfl,(by omega),rfl,((hs109.p1).p1),rfl⟩ ?_)))
 rintro ρ w mm ⟨i,hρ113,hρ114,hρ115,hi,ht,hs116,rfl⟩
 refine c_seq (c_seq (c_region (st (v:=.int .i64 ((i:Nat):Int)) (x_move (.tmp rfl hρ115)) ?_)))
 refine st (v:=.pointer (some ⟨g57,0 + 11,none⟩)) (fa30_8 (.tmp rfl hρ113)) ?_
 refine st (v:=.slice A19 n20 c21) (ld27 (.tmp rfl rfl) (hs116.cell 1 rfl (0 + 11) rfl)) ?_
 refine st (v:=.int .i64 ((n20:Nat):Int)) (x_len (n:=n20) Try.underlying27 (.tmp rfl rfl)) ?_
 refine st (v:=.bool (decide ((((i:Nat):Int):Int) < ((n20:Nat):Int)))) (x_lss (k:=.i64) (a:=((i:Nat):Int)) (b:=((n20:Nat):Int)) (.tmp rfl rfl) (.tmp rfl rfl)) ?_
 refine c_nil (n_then ?_)
 rcases Bool.eq_false_or_eq_true (decide ((((i:Nat):Int):Int) < ((n20:Nat):Int))) with hc117 | hc117
 have hp117:(((i:Nat):Int):Int) < ((n20:Nat):Int):=of_decide_eq_true hc117
 refine c_cond_t (t:=true) (.tmp rfl (congrArg Value.bool hc117)) rfl ?_
 refine c_skip (n_then (c_seq (c_block (c_seq (q_region mixed hs116 (by kernel_rfl) ?_)))))
 refine q_st (v:=.pointer (some ⟨g57,0 + 11,none⟩)) (fun w hs => (fa30_8 (.tmp rfl hρ113))) ?_
 refine q_st (v:=.slice A19 n20 c21) (fun w hs => (ld27 (.tmp rfl rfl) (hs.cell 1 rfl (0 + 11) rfl))) ?_
 refine q_st (v:=.int .i64 ((i:Nat):Int)) (fun w hs => (x_move (.tmp rfl hρ115))) ?_
 obtain ⟨e118,b119,o120,cs121,hx122,hA123,hr124,hat125⟩:=hl22.get (i:=i) (by omega)
 obtain ⟨A126,n127,c128,rfl,hy129⟩:=hr124
 have:=hy129.len; have:=hy129.bnd; have:=hy129.le
 have hat125x:∀ {w:World} {L:List Res},St H w L → At w ⟨b119,o120 + i * 1,none⟩ [.slice A126 n127 c128]:=fun h => hat125 h
 refine q_st (v:=.pointer (some ⟨b119,(o120 + i * 1),none⟩)) (fun w hs => (ixo27 (.tmp rfl rfl) hA123 (i:=((i:Nat):Int)) (.tmp rfl rfl) (by omega) (by omega) (by omega))) ?_
 refine q_st (v:=.slice A126 n127 c128) (fun w hs => (ld33 (.tmp rfl rfl) ((hat125x hs).cell 0 rfl))) ?_
 refine q_st (v:=.string (bstr e118)) (fun w hs => (hy129.toBs.str Try.underlying33 Try.underlying5 Try.underlying9 hs (.tmp rfl rfl))) ?_
 refine q_st (v:=.pointer (some ⟨g61,0 + 11,none⟩)) (fun w hs => (fa30_8 (.tmp rfl hρ114))) ?_
 refine q_st (v:=.slice A47 n48 c49) (fun w hs => (ld27 (.tmp rfl rfl) (hs.cell 0 rfl (0 + 11) rfl))) ?_
 refine q_st (v:=.int .i64 ((i:Nat):Int)) (fun w hs => (x_move (.tmp rfl hρ115))) ?_
 obtain ⟨e130,b131,o132,cs133,hx134,hA135,hr136,hat137⟩:=hl50.get (i:=i) (by omega)
 obtain ⟨A138,n139,c140,rfl,hy141⟩:=hr136
 have:=hy141.len; have:=hy141.bnd; have:=hy141.le
 have hat137x:∀ {w:World} {L:List Res},St H w L → At w ⟨b131,o132 + i * 1,none⟩ [.slice A138 n139 c140]:=fun h => hat137 h
 refine q_st (v:=.pointer (some ⟨b131,(o132 + i * 1),none⟩)) (fun w hs => (ixo27 (.tmp rfl rfl) hA135 (i:=((i:Nat):Int)) (.tmp rfl rfl) (by omega) (by omega) (by omega))) ?_
 refine q_st (v:=.slice A138 n139 c140) (fun w hs => (ld33 (.tmp rfl rfl) ((hat137x hs).cell 0 rfl))) ?_
 refine q_st (v:=.string (bstr e130)) (fun w hs => (hy141.toBs.str Try.underlying33 Try.underlying5 Try.underlying9 hs (.tmp rfl rfl))) ?_
 refine q_st (v:=.bool (!decide ((bstr e118) = (bstr e130)))) (fun w hs => (x_neqS (.tmp rfl rfl) (.tmp rfl rfl))) ?_
 refine q_nil ?_
 intro w hs142
 refine n_then ?_
 rcases Bool.eq_false_or_eq_true (decide ((bstr e118) = (bstr e130))) with hc143 | hc143
 have hp143:(bstr e118) = (bstr e130):=of_decide_eq_true hc143
 refine c_cond_f (t:=false) (.tmp rfl (congrArg Value.bool (by rw [hc143]; rfl))) rfl ?_
 refine c_skip (n_block (n_then (c_region (st (v:=.int .i64 ((i:Nat):Int)) (x_move (.tmp rfl hρ115)) ?_))))
 refine st (v:=.int .i64 (((i + 1):Nat):Int)) (x_add (k:=.i64) (a:=((i:Nat):Int)) (b:=1) (.tmp rfl rfl) .const ((w64 (by omega) (by omega)).trans (by omega))) ?_
 refine st (v:=.int .i64 (((i + 1):Nat):Int)) (x_assign (.tmp rfl rfl)) ?_
 refine c_nil ?_
 refine n_then ⟨_,_,rfl,?_,(i + 1),hρ113,hρ114,rfl,(by omega),(take_eq_next ht hx122 hx134 ((bstr_inj hy129.lt hy141.lt).1 hp143)),((hs142.p1).p1),rfl⟩
 omega
 have hp143:¬ ((bstr e118) = (bstr e130)):=of_decide_eq_false hc143
 refine c_cond_t (t:=true) (.tmp rfl (congrArg Value.bool (by rw [hc143]; rfl))) rfl ?_
 refine c_seq (c_region (st (v:=.bool false) (x_assign .const) ?_))
 refine c_nil (n_then (c_ret (r_block (r_then (r_then (r_block (r_then (leave_ret (res_one (v:=.bool false) rfl (.mk rfl rfl)) ?_))))))))
 have hans144:(decide (a = b)) = false:=same_msg hx122 hx134 hp143
 rw [hans144]
 exact ⟨rfl,hs142.drop.drop⟩
 have hp117:¬ ((((i:Nat):Int):Int) < ((n20:Nat):Int)):=of_decide_eq_false hc117
 refine c_cond_f (t:=false) (.tmp rfl (congrArg Value.bool hc117)) rfl ?_
 refine c_exit (x_then (x_then (x_here (n_then (c_seq (c_region (st (v:=.pointer (some ⟨g57,0 + 9,none⟩)) (fa30_6 (.tmp rfl hρ113)) ?_)))))))
 refine st (v:=.slice A14 n15 c16) (ld26 (.tmp rfl rfl) (hs116.cell 1 rfl (0 + 9) rfl)) ?_
 refine st (v:=.pointer (some ⟨g61,0 + 9,none⟩)) (fa30_6 (.tmp rfl hρ114)) ?_
 refine st (v:=.slice A42 n43 c44) (ld26 (.tmp rfl rfl) (hs116.cell 0 rfl (0 + 9) rfl)) ?_
 refine st_c cb29 .func (evs2 (.tmp rfl rfl) (.tmp rfl rfl)) (same_spec hs116 a.States hl17 b.States hl45 ) ?_
 rintro e w145 ⟨rfl,hs146⟩
 refine ⟨_,rfl,?_⟩
 refine st (v:=.bool (decide (a.States = b.States))) (x_move (.tmp rfl rfl)) ?_
 refine jw 6 (fun ρ w => ρ 107 = .bool ((decide (a.States = b.States)) && (decide (a.Items = b.Items)))∧St H w (obj g61 30 [.int .u8 ((b.Kind:Nat):Int),.int .i64 b.From,.int .u64 ((b.ID.N:Nat):Int),.int .i64 b.ID.P,.int .u16 ((b.Set:Nat):Int),.int .u64 ((b.Cur.N:Nat):Int),.int .i64 b.Cur.P,.int .u64 ((b.Prom.N:Nat):Int),.int .i64 b.Prom.P,.slice A42 n43 c44,.int .u64 ((b.Base:Nat):Int),.slice A47 n48 c49,.slice A51 n52 c53,.int .u64 ((b.Ack:Nat):Int),.int .u64 ((b.Safe:Nat):Int)]::obj g57 30 [.int .u8 ((a.Kind:Nat):Int),.int .i64 a.From,.int .u64 ((a.ID.N:Nat):Int),.int .i64 a.ID.P,.int .u16 ((a.Set:Nat):Int),.int .u64 ((a.Cur.N:Nat):Int),.int .i64 a.Cur.P,.int .u64 ((a.Prom.N:Nat):Int),.int .i64 a.Prom.P,.slice A14 n15 c16,.int .u64 ((a.Base:Nat):Int),.slice A19 n20 c21,.slice A23 n24 c25,.int .u64 ((a.Ack:Nat):Int),.int .u64 ((a.Safe:Nat):Int)]::L)) ?_ ?_
 rcases Bool.eq_false_or_eq_true (decide (a.States = b.States)) with hc147 | hc147
 refine g_yes (yk 101 true rfl rfl hc147) ?_
 refine st (v:=.pointer (some ⟨g57,0 + 12,none⟩)) (fa30_9 (.tmp rfl hρ113)) ?_
 refine g_yes (yk 101 true rfl rfl hc147) ?_
 refine st (v:=.slice A23 n24 c25) (ld28 (.tmp rfl rfl) (hs146.cell 1 rfl (0 + 12) rfl)) ?_
 refine g_yes (yk 101 true rfl rfl hc147) ?_
 refine st (v:=.pointer (some ⟨g61,0 + 12,none⟩)) (fa30_9 (.tmp rfl hρ114)) ?_
 refine g_yes (yk 101 true rfl rfl hc147) ?_
 refine st (v:=.slice A51 n52 c53) (ld28 (.tmp rfl rfl) (hs146.cell 0 rfl (0 + 12) rfl)) ?_
 refine g_yes (yk 101 true rfl rfl hc147) ?_
 refine st_c cb30 .func (evs2 (.tmp rfl rfl) (.tmp rfl rfl)) (items_spec hs146 a.Items hl26 b.Items hl54 ) ?_
 rintro e w148 ⟨rfl,hs149⟩
 refine ⟨_,rfl,?_⟩
 refine st (v:=.bool (decide (a.Items = b.Items))) (x_pick_t (.tmp rfl (congrArg Value.bool hc147)) (.tmp rfl rfl)) ?_
 exact jw_end ⟨(congrArg Value.bool (jand_t hc147)),hs149⟩
 refine g_no (yk 101 false rfl rfl hc147) rfl ?_
 refine g_no (yk 101 false rfl rfl hc147) rfl ?_
 refine g_no (yk 101 false rfl rfl hc147) rfl ?_
 refine g_no (yk 101 false rfl rfl hc147) rfl ?_
 refine g_no (yk 101 false rfl rfl hc147) rfl ?_
 refine st (v:=.bool false) (x_pick_f (.tmp rfl (congrArg Value.bool hc147)) .const) ?_
 exact jw_end ⟨(congrArg Value.bool (jand_f hc147)),hs146⟩
 rintro ρ w ⟨hρ150,hs151⟩
 refine st (v:=.bool ((decide (a.States = b.States)) && (decide (a.Items = b.Items)))) (x_assign (.tmp rfl hρ150)) ?_
 refine c_nil (n_then (c_ret (leave_ret (res_one (v:=.bool ((decide (a.States = b.States)) && (decide (a.Items = b.Items)))) rfl (.mk rfl rfl)) ?_)))
 have hans152:(decide (a = b)) = ((decide (a.States = b.States)) && (decide (a.Items = b.Items))):=Bool.eq_iff_iff.2 (decide_eq_true_iff.trans ((same_end (by omega) (by omega) hp110 ht (by omega)).trans (by simp)))
 rw [hans152]
 exact ⟨rfl,hs151.drop.drop⟩
end Go.Proofs.Ytlfihfmmhhcigaa

set_option linter.unusedVariables false
set_option linter.unusedSimpArgs false
namespace Go.Proofs.Ytlfihfmmhhcigaa
open Go Go.FM Go.Proofs
attribute [local irreducible] wpList wpQuiet wpS Code.wp Calls
end Go.Proofs.Ytlfihfmmhhcigaa

set_option linter.unusedVariables false
set_option linter.unusedSimpArgs false
namespace Go.Proofs.Ytlfihfmmhhcigaa
open Go Go.FM Go.Proofs
attribute [local irreducible] wpList wpQuiet wpS Code.wp Calls
end Go.Proofs.Ytlfihfmmhhcigaa

set_option linter.unusedVariables false
set_option linter.unusedSimpArgs false
namespace Go.Proofs.Ytlfihfmmhhcigaa
open Go Go.FM Go.Proofs
attribute [local irreducible] wpList wpQuiet wpS Code.wp Calls
end Go.Proofs.Ytlfihfmmhhcigaa

set_option linter.unusedVariables false
set_option linter.unusedSimpArgs false
namespace Go.Proofs.Ytlfihfmmhhcigaa
open Go Go.FM Go.Proofs
attribute [local irreducible] wpList wpQuiet wpS Code.wp Calls
end Go.Proofs.Ytlfihfmmhhcigaa

set_option linter.unusedVariables false
set_option linter.unusedSimpArgs false
namespace Go.Proofs.Ytlfihfmmhhcigaa
open Go Go.FM Go.Proofs
attribute [local irreducible] wpList wpQuiet wpS Code.wp Calls
end Go.Proofs.Ytlfihfmmhhcigaa

set_option linter.unusedVariables false
set_option linter.unusedSimpArgs false
namespace Go.Proofs.Ytlfihfmmhhcigaa
open Go Go.FM Go.Proofs
attribute [local irreducible] wpList wpQuiet wpS Code.wp Calls
end Go.Proofs.Ytlfihfmmhhcigaa

set_option linter.unusedVariables false
set_option linter.unusedSimpArgs false
namespace Go.Proofs.Ytlfihfmmhhcigaa
open Go Go.FM Go.Proofs
attribute [local irreducible] wpList wpQuiet wpS Code.wp Calls
end Go.Proofs.Ytlfihfmmhhcigaa

set_option linter.unusedVariables false
set_option linter.unusedSimpArgs false
namespace Go.Proofs.Ytlfihfmmhhcigaa
open Go Go.FM Go.Proofs
attribute [local irreducible] wpList wpQuiet wpS Code.wp Calls
set_option maxHeartbeats 8000000 in
theorem great_spec {H:Hp} {w:World} {L:List Res} (hs:St H w (L)) (f:GFrame) {k_f:List Value} (h_f:kFrame.rep H f k_f) (hsiz:sizeF f ≤ 1048576):Calls Try.prog 10 #[.agg k_f.toArray] w (fun e w' => e = .returned (.bool (greatF f))∧St H w' (L)):=by
 obtain ⟨A14,n15,c16,A19,n20,c21,A23,n24,c25,rfl,b1,⟨b2,b3⟩,b4,⟨b5,b6⟩,b7,b8,⟨b9,b10⟩,b11,⟨b12,b13⟩,hl17,b18,hl22,hl26,b27,b28⟩:=h_f
 have:=hl17.len; have:n15 * 48 ≤ 140737488351232:=hl17.bnd; have:=hl17.le
 have:=hl22.len; have:n20 * 24 ≤ 140737488351232:=hl22.bnd; have:=hl22.le
 have:=hl26.len; have:n24 * 32 ≤ 140737488351232:=hl26.bnd; have:=hl26.le
 refine enter (args:=[.agg #[.int .u8 ((f.Kind:Nat):Int),.int .i64 f.From,.int .u64 ((f.ID.N:Nat):Int),.int .i64 f.ID.P,.int .u16 ((f.Set:Nat):Int),.int .u64 ((f.Cur.N:Nat):Int),.int .i64 f.Cur.P,.int .u64 ((f.Prom.N:Nat):Int),.int .i64 f.Prom.P,.slice A14 n15 c16,.int .u64 ((f.Base:Nat):Int),.slice A19 n20 c21,.slice A23 n24 c25,.int .u64 ((f.Ack:Nat):Int),.int .u64 ((f.Safe:Nat):Int)]]) (N:=92) Try.func10 rfl rfl rfl ?_
 have hsz2:=hsiz
 rw [sizeF_eq] at hsz2
 refine c_seq (c_region (st_m (m_box (cs:=[.int .u8 ((f.Kind:Nat):Int),.int .i64 f.From,.int .u64 ((f.ID.N:Nat):Int),.int .i64 f.ID.P,.int .u16 ((f.Set:Nat):Int),.int .u64 ((f.Cur.N:Nat):Int),.int .i64 f.Cur.P,.int .u64 ((f.Prom.N:Nat):Int),.int .i64 f.Prom.P,.slice A14 n15 c16,.int .u64 ((f.Base:Nat):Int),.slice A19 n20 c21,.slice A23 n24 c25,.int .u64 ((f.Ack:Nat):Int),.int .u64 ((f.Safe:Nat):Int)]) hs (v:=.agg #[.int .u8 ((f.Kind:Nat):Int),.int .i64 f.From,.int .u64 ((f.ID.N:Nat):Int),.int .i64 f.ID.P,.int .u16 ((f.Set:Nat):Int),.int .u64 ((f.Cur.N:Nat):Int),.int .i64 f.Cur.P,.int .u64 ((f.Prom.N:Nat):Int),.int .i64 f.Prom.P,.slice A14 n15 c16,.int .u64 ((f.Base:Nat):Int),.slice A19 n20 c21,.slice A23 n24 c25,.int .u64 ((f.Ack:Nat):Int),.int .u64 ((f.Safe:Nat):Int)]) (.tmp rfl rfl) rfl) ?_))
 rintro _ w30 ⟨g29,rfl,hs32⟩
 refine st (v:=.bool false) (x_assign .const) ?_
 refine c_nil (n_then (c_seq (c_region (st (v:=.pointer (some ⟨g29,0 + 11,none⟩)) (fa30_8 (.tmp rfl rfl)) ?_))))
 refine st (v:=.slice A19 n20 c21) (ld27 (.tmp rfl rfl) (hs32.cell 0 rfl (0 + 11) rfl)) ?_
 refine st (v:=.int .i64 ((n20:Nat):Int)) (x_len (n:=n20) Try.underlying27 (.tmp rfl rfl)) ?_
 refine st (v:=.pointer (some ⟨g29,0 + 12,none⟩)) (fa30_9 (.tmp rfl rfl)) ?_
 refine st (v:=.slice A23 n24 c25) (ld28 (.tmp rfl rfl) (hs32.cell 0 rfl (0 + 12) rfl)) ?_
 refine st (v:=.int .i64 ((n24:Nat):Int)) (x_len (n:=n24) Try.underlying28 (.tmp rfl rfl)) ?_
 refine st (v:=.int .i64 (((n20 + n24):Nat):Int)) (x_add (k:=.i64) (a:=((n20:Nat):Int)) (b:=((n24:Nat):Int)) (.tmp rfl rfl) (.tmp rfl rfl) ((w64 (by omega) (by omega)).trans (by omega))) ?_
 refine st (v:=.pointer (some ⟨g29,0 + 9,none⟩)) (fa30_6 (.tmp rfl rfl)) ?_
 refine st (v:=.slice A14 n15 c16) (ld26 (.tmp rfl rfl) (hs32.cell 0 rfl (0 + 9) rfl)) ?_
 refine st (v:=.int .i64 ((n15:Nat):Int)) (x_len (n:=n15) Try.underlying26 (.tmp rfl rfl)) ?_
 refine st (v:=.int .i64 ((((n20 + n24) + n15):Nat):Int)) (x_add (k:=.i64) (a:=(((n20 + n24):Nat):Int)) (b:=((n15:Nat):Int)) (.tmp rfl rfl) (.tmp rfl rfl) ((w64 (by omega) (by omega)).trans (by omega))) ?_
 refine st (v:=.int .i64 ((((n20 + n24) + n15):Nat):Int)) (x_assign (.tmp rfl rfl)) ?_
 refine c_nil (n_then (c_seq (c_seq (c_region (st (v:=.int .i64 0) (x_assign .const) ?_)))))
 refine c_nil (n_then (c_block (c_loop (fun ρ w mm => ∃ (n:Nat) (i:Nat),ρ 1 = .pointer (some ⟨g29,0,none⟩)∧ρ 3 = .int .i64 ((n:Nat):Int)∧ρ 4 = .int .i64 ((i:Nat):Int)∧(i ≤ f.Msgs.length)∧(n = f.Msgs.length + f.Items.length + f.States.length + zT List.length f.Msgs i)∧St H w (obj g29 30 [.int .u8 ((f.Kind:Nat):Int),.int .i64 f.From,.int .u64 ((f.ID.N:Nat):Int),.int .i64 f.ID.P,.int .u16 ((f.Set:Nat):Int),.int .u64 ((f.Cur.N:Nat):Int),.int .i64 f.Cur.P,.int .u64 ((f.Prom.N:Nat):Int),.int .i64 f.Prom.P,.slice A14 n15 c16,.int .u64 ((f.Base:Nat):Int),.slice A19 n20 c21,.slice A23 n24 c25,.int .u64 ((f.Ack:Nat):Int),.int .u64 ((f.Safe:Nat):Int)]::L)∧mm = f.Msgs.length - i) _ ⟨((n20 + n24) + n15),0,rfl,rfl,rfl,(by omega),(show _ = _ + 0 by omega),hs32,rfl⟩ ?_)))
 rintro ρ w mm ⟨n,i,hρ34,hρ35,hρ36,hi,hn,hs37,rfl⟩
 refine c_seq (c_seq (c_region (st (v:=.int .i64 ((i:Nat):Int)) (x_move (.tmp rfl hρ36)) ?_)))
 refine st (v:=.pointer (some ⟨g29,0 + 11,none⟩)) (fa30_8 (.tmp rfl hρ34)) ?_
 refine st (v:=.slice A19 n20 c21) (ld27 (.tmp rfl rfl) (hs37.cell 0 rfl (0 + 11) rfl)) ?_
 refine st (v:=.int .i64 ((n20:Nat):Int)) (x_len (n:=n20) Try.underlying27 (.tmp rfl rfl)) ?_
 refine st (v:=.bool (decide ((((i:Nat):Int):Int) < ((n20:Nat):Int)))) (x_lss (k:=.i64) (a:=((i:Nat):Int)) (b:=((n20:Nat):Int)) (.tmp rfl rfl) (.tmp rfl rfl)) ?_
 refine c_nil (n_then ?_)
 rcases Bool.eq_false_or_eq_true (decide ((((i:Nat):Int):Int) < ((n20:Nat):Int))) with hc38 | hc38
 have hp38:(((i:Nat):Int):Int) < ((n20:Nat):Int):=of_decide_eq_true hc38
 refine c_cond_t (t:=true) (.tmp rfl (congrArg Value.bool hc38)) rfl ?_
 refine c_skip (n_then (c_seq (c_block (c_region (st (v:=.int .i64 ((n:Nat):Int)) (x_move (.tmp rfl hρ35)) ?_)))))
 refine st (v:=.pointer (some ⟨g29,0 + 11,none⟩)) (fa30_8 (.tmp rfl hρ34)) ?_
 refine st (v:=.slice A19 n20 c21) (ld27 (.tmp rfl rfl) (hs37.cell 0 rfl (0 + 11) rfl)) ?_
 refine st (v:=.int .i64 ((i:Nat):Int)) (x_move (.tmp rfl hρ36)) ?_
 obtain ⟨e39,b40,o41,cs42,hx43,hA44,hr45,hat46⟩:=hl22.get (i:=i) (by omega)
 obtain ⟨A47,n48,c49,rfl,hy50⟩:=hr45
 have:=hy50.len; have:=hy50.bnd; have:=hy50.le
 have hat46x:∀ {w:World} {L:List Res},St H w L → At w ⟨b40,o41 + i * 1,none⟩ [.slice A47 n48 c49]:=fun h => hat46 h
 have hza:=zT_next (g:=List.length) hx43; have hzb:=zT_le List.length f.Msgs (i + 1)
 refine st (v:=.pointer (some ⟨b40,(o41 + i * 1),none⟩)) (ixo27 (.tmp rfl rfl) hA44 (i:=((i:Nat):Int)) (.tmp rfl rfl) (by omega) (by omega) (by omega)) ?_
 refine st (v:=.slice A47 n48 c49) (ld33 (.tmp rfl rfl) ((hat46x hs37).cell 0 rfl)) ?_
 refine st (v:=.int .i64 ((n48:Nat):Int)) (x_len (n:=n48) Try.underlying33 (.tmp rfl rfl)) ?_
 refine st (v:=.int .i64 (((n + n48):Nat):Int)) (x_add (k:=.i64) (a:=((n:Nat):Int)) (b:=((n48:Nat):Int)) (.tmp rfl rfl) (.tmp rfl rfl) ((w64 (by omega) (by omega)).trans (by omega))) ?_
 refine st (v:=.int .i64 (((n + n48):Nat):Int)) (x_assign (.tmp rfl rfl)) ?_
 refine c_nil (n_block (n_then (c_region (st (v:=.int .i64 ((i:Nat):Int)) (x_move (.tmp rfl hρ36)) ?_))))
 refine st (v:=.int .i64 (((i + 1):Nat):Int)) (x_add (k:=.i64) (a:=((i:Nat):Int)) (b:=1) (.tmp rfl rfl) .const ((w64 (by omega) (by omega)).trans (by omega))) ?_
 refine st (v:=.int .i64 (((i + 1):Nat):Int)) (x_assign (.tmp rfl rfl)) ?_
 refine c_nil ?_
 refine n_then ⟨_,_,rfl,?_,(n + n48),(i + 1),hρ34,rfl,rfl,(by omega),(by rw [zT_next hx43]; omega),hs37,rfl⟩
 omega
 have hp38:¬ ((((i:Nat):Int):Int) < ((n20:Nat):Int)):=of_decide_eq_false hc38
 refine c_cond_f (t:=false) (.tmp rfl (congrArg Value.bool hc38)) rfl ?_
 refine c_exit (x_then (x_then (x_here (n_then (c_seq (c_seq (c_region (st (v:=.int .i64 0) (x_assign .const) ?_))))))))
 refine c_nil (n_then (c_block ?_))
 have hz1:=zT_all (g:=List.length) (show f.Msgs.length ≤ i by omega)
 refine c_loop (fun ρ w mm => ∃ (n2:Nat) (j:Nat),ρ 1 = .pointer (some ⟨g29,0,none⟩)∧ρ 3 = .int .i64 ((n2:Nat):Int)∧ρ 5 = .int .i64 ((j:Nat):Int)∧(j ≤ f.Items.length)∧(n2 = f.Msgs.length + f.Items.length + f.States.length + (f.Msgs.map List.length).sum + zT gM f.Items j)∧St H w (obj g29 30 [.int .u8 ((f.Kind:Nat):Int),.int .i64 f.From,.int .u64 ((f.ID.N:Nat):Int),.int .i64 f.ID.P,.int .u16 ((f.Set:Nat):Int),.int .u64 ((f.Cur.N:Nat):Int),.int .i64 f.Cur.P,.int .u64 ((f.Prom.N:Nat):Int),.int .i64 f.Prom.P,.slice A14 n15 c16,.int .u64 ((f.Base:Nat):Int),.slice A19 n20 c21,.slice A23 n24 c25,.int .u64 ((f.Ack:Nat):Int),.int .u64 ((f.Safe:Nat):Int)]::L)∧mm = f.Items.length - j) _ ⟨n,0,hρ34,hρ35,rfl,(by omega),(show _ = _ + 0 by omega),hs37,rfl⟩ ?_
 rintro ρ w mm ⟨n2,j,hρ52,hρ53,hρ54,hj,hn2,hs55,rfl⟩
 refine c_seq (c_seq (c_region (st (v:=.int .i64 ((j:Nat):Int)) (x_move (.tmp rfl hρ54)) ?_)))
 refine st (v:=.pointer (some ⟨g29,0 + 12,none⟩)) (fa30_9 (.tmp rfl hρ52)) ?_
 refine st (v:=.slice A23 n24 c25) (ld28 (.tmp rfl rfl) (hs55.cell 0 rfl (0 + 12) rfl)) ?_
 refine st (v:=.int .i64 ((n24:Nat):Int)) (x_len (n:=n24) Try.underlying28 (.tmp rfl rfl)) ?_
 refine st (v:=.bool (decide ((((j:Nat):Int):Int) < ((n24:Nat):Int)))) (x_lss (k:=.i64) (a:=((j:Nat):Int)) (b:=((n24:Nat):Int)) (.tmp rfl rfl) (.tmp rfl rfl)) ?_
 refine c_nil (n_then ?_)
 rcases Bool.eq_false_or_eq_true (decide ((((j:Nat):Int):Int) < ((n24:Nat):Int))) with hc56 | hc56
 have hp56:(((j:Nat):Int):Int) < ((n24:Nat):Int):=of_decide_eq_true hc56
 refine c_cond_t (t:=true) (.tmp rfl (congrArg Value.bool hc56)) rfl ?_
 refine c_skip (n_then (c_seq (c_block (c_region (st (v:=.int .i64 ((n2:Nat):Int)) (x_move (.tmp rfl hρ53)) ?_)))))
 refine st (v:=.pointer (some ⟨g29,0 + 12,none⟩)) (fa30_9 (.tmp rfl hρ52)) ?_
 refine st (v:=.slice A23 n24 c25) (ld28 (.tmp rfl rfl) (hs55.cell 0 rfl (0 + 12) rfl)) ?_
 refine st (v:=.int .i64 ((j:Nat):Int)) (x_move (.tmp rfl hρ54)) ?_
 obtain ⟨e57,b58,o59,cs60,hx61,hA62,hr63,hat64⟩:=hl26.get (i:=j) (by omega)
 obtain ⟨A67,n68,c69,rfl,⟨b65,b66⟩,hy70⟩:=hr63
 have:=hy70.len; have:=hy70.bnd; have:=hy70.le
 have hat64x:∀ {w:World} {L:List Res},St H w L → At w ⟨b58,o59 + j * 2,none⟩ [.int .i64 e57.From,.slice A67 n68 c69]:=fun h => hat64 h
 have hza:=zT_next (g:=gM) hx61; have hzb:=zT_le gM f.Items (j + 1); have hgm:gM e57 = e57.M.length:=rfl
 refine st (v:=.pointer (some ⟨b58,(o59 + j * 2),none⟩)) (ixo28 (.tmp rfl rfl) hA62 (i:=((j:Nat):Int)) (.tmp rfl rfl) (by omega) (by omega) (by omega)) ?_
 refine st (v:=.pointer (some ⟨b58,(o59 + j * 2) + 1,none⟩)) (fa49_1 (.tmp rfl rfl)) ?_
 refine st (v:=.slice A67 n68 c69) (ld33 (.tmp rfl rfl) ((hat64x hs55).cell 1 rfl)) ?_
 refine st (v:=.int .i64 ((n68:Nat):Int)) (x_len (n:=n68) Try.underlying33 (.tmp rfl rfl)) ?_
 refine st (v:=.int .i64 (((n2 + n68):Nat):Int)) (x_add (k:=.i64) (a:=((n2:Nat):Int)) (b:=((n68:Nat):Int)) (.tmp rfl rfl) (.tmp rfl rfl) ((w64 (by omega) (by omega)).trans (by omega))) ?_
 refine st (v:=.int .i64 (((n2 + n68):Nat):Int)) (x_assign (.tmp rfl rfl)) ?_
 refine c_nil (n_block (n_then (c_region (st (v:=.int .i64 ((j:Nat):Int)) (x_move (.tmp rfl hρ54)) ?_))))
 refine st (v:=.int .i64 (((j + 1):Nat):Int)) (x_add (k:=.i64) (a:=((j:Nat):Int)) (b:=1) (.tmp rfl rfl) .const ((w64 (by omega) (by omega)).trans (by omega))) ?_
 refine st (v:=.int .i64 (((j + 1):Nat):Int)) (x_assign (.tmp rfl rfl)) ?_
 refine c_nil ?_
 refine n_then ⟨_,_,rfl,?_,(n2 + n68),(j + 1),hρ52,rfl,rfl,(by omega),(by rw [zT_next hx61]; show _ = _ + (_ + e57.M.length); omega),hs55,rfl⟩
 omega
 have hp56:¬ ((((j:Nat):Int):Int) < ((n24:Nat):Int)):=of_decide_eq_false hc56
 refine c_cond_f (t:=false) (.tmp rfl (congrArg Value.bool hc56)) rfl ?_
 refine c_exit (x_then (x_then (x_here (n_then (c_seq (c_seq (c_region (st (v:=.int .i64 0) (x_assign .const) ?_))))))))
 refine c_nil (n_then (c_block ?_))
 have hz2:=zT_all (g:=gM) (show f.Items.length ≤ j by omega)
 refine c_loop (fun ρ w mm => ∃ (n3:Nat) (q:Nat),ρ 1 = .pointer (some ⟨g29,0,none⟩)∧ρ 3 = .int .i64 ((n3:Nat):Int)∧ρ 6 = .int .i64 ((q:Nat):Int)∧(q ≤ f.States.length)∧(n3 = f.Msgs.length + f.Items.length + f.States.length + (f.Msgs.map List.length).sum + (f.Items.map gM).sum + zT gS f.States q)∧St H w (obj g29 30 [.int .u8 ((f.Kind:Nat):Int),.int .i64 f.From,.int .u64 ((f.ID.N:Nat):Int),.int .i64 f.ID.P,.int .u16 ((f.Set:Nat):Int),.int .u64 ((f.Cur.N:Nat):Int),.int .i64 f.Cur.P,.int .u64 ((f.Prom.N:Nat):Int),.int .i64 f.Prom.P,.slice A14 n15 c16,.int .u64 ((f.Base:Nat):Int),.slice A19 n20 c21,.slice A23 n24 c25,.int .u64 ((f.Ack:Nat):Int),.int .u64 ((f.Safe:Nat):Int)]::L)∧mm = f.States.length - q) _ ⟨n2,0,hρ52,hρ53,rfl,(by omega),(show _ = _ + 0 by omega),hs55,rfl⟩ ?_
 rintro ρ w mm ⟨n3,q,hρ72,hρ73,hρ74,hq,hn3,hs75,rfl⟩
 refine c_seq (c_seq (c_region (st (v:=.int .i64 ((q:Nat):Int)) (x_move (.tmp rfl hρ74)) ?_)))
 refine st (v:=.pointer (some ⟨g29,0 + 9,none⟩)) (fa30_6 (.tmp rfl hρ72)) ?_
 refine st (v:=.slice A14 n15 c16) (ld26 (.tmp rfl rfl) (hs75.cell 0 rfl (0 + 9) rfl)) ?_
 refine st (v:=.int .i64 ((n15:Nat):Int)) (x_len (n:=n15) Try.underlying26 (.tmp rfl rfl)) ?_
 refine st (v:=.bool (decide ((((q:Nat):Int):Int) < ((n15:Nat):Int)))) (x_lss (k:=.i64) (a:=((q:Nat):Int)) (b:=((n15:Nat):Int)) (.tmp rfl rfl) (.tmp rfl rfl)) ?_
 refine c_nil (n_then ?_)
 rcases Bool.eq_false_or_eq_true (decide ((((q:Nat):Int):Int) < ((n15:Nat):Int))) with hc76 | hc76
 have hp76:(((q:Nat):Int):Int) < ((n15:Nat):Int):=of_decide_eq_true hc76
 refine c_cond_t (t:=true) (.tmp rfl (congrArg Value.bool hc76)) rfl ?_
 refine c_skip (n_then (c_seq (c_block (c_seq (c_region (st (v:=.int .i64 ((n3:Nat):Int)) (x_move (.tmp rfl hρ73)) ?_))))))
 refine st (v:=.pointer (some ⟨g29,0 + 9,none⟩)) (fa30_6 (.tmp rfl hρ72)) ?_
 refine st (v:=.slice A14 n15 c16) (ld26 (.tmp rfl rfl) (hs75.cell 0 rfl (0 + 9) rfl)) ?_
 refine st (v:=.int .i64 ((q:Nat):Int)) (x_move (.tmp rfl hρ74)) ?_
 obtain ⟨e77,b78,o79,cs80,hx81,hA82,hr83,hat84⟩:=hl17.get (i:=q) (by omega)
 obtain ⟨A90,n91,c92,rfl,b85,⟨b86,b87⟩,⟨b88,b89⟩,hl93⟩:=hr83
 have:=hl93.len; have:n91 * 32 ≤ 140737488351232:=hl93.bnd; have:=hl93.le
 have hat84x:∀ {w:World} {L:List Res},St H w L → At w ⟨b78,o79 + q * 4,none⟩ [.int .u64 ((e77.V.N:Nat):Int),.int .i64 e77.V.P,.int .i64 e77.Floor,.slice A90 n91 c92]:=fun h => hat84 h
 have hza:=zT_next (g:=gS) hx81; have hzb:=zT_le gS f.States (q + 1); have hgs:gS e77 = e77.Items.length + (e77.Items.map gM).sum:=rfl
 refine st (v:=.pointer (some ⟨b78,(o79 + q * 4),none⟩)) (ixo26 (.tmp rfl rfl) hA82 (i:=((q:Nat):Int)) (.tmp rfl rfl) (by omega) (by omega) (by omega)) ?_
 refine st (v:=.pointer (some ⟨b78,(o79 + q * 4) + 3,none⟩)) (fa52_2 (.tmp rfl rfl)) ?_
 refine st (v:=.slice A90 n91 c92) (ld28 (.tmp rfl rfl) ((hat84x hs75).cell 3 rfl)) ?_
 refine st (v:=.int .i64 ((n91:Nat):Int)) (x_len (n:=n91) Try.underlying28 (.tmp rfl rfl)) ?_
 refine st (v:=.int .i64 (((n3 + n91):Nat):Int)) (x_add (k:=.i64) (a:=((n3:Nat):Int)) (b:=((n91:Nat):Int)) (.tmp rfl rfl) (.tmp rfl rfl) ((w64 (by omega) (by omega)).trans (by omega))) ?_
 refine st (v:=.int .i64 (((n3 + n91):Nat):Int)) (x_assign (.tmp rfl rfl)) ?_
 refine c_nil (n_then (c_seq (c_region (st (v:=.int .i64 0) (x_assign .const) ?_))))
 refine c_nil (n_then (c_block ?_))
 have hzq:=zT_next (g:=gS) hx81; have hzl:=zT_le gS f.States (q + 1); have hgs:gS e77 = e77.Items.length + (e77.Items.map gM).sum:=rfl
 refine c_loop (fun ρ w mm => ∃ (n4:Nat) (k:Nat),ρ 1 = .pointer (some ⟨g29,0,none⟩)∧ρ 3 = .int .i64 ((n4:Nat):Int)∧ρ 6 = .int .i64 ((q:Nat):Int)∧ρ 7 = .int .i64 ((k:Nat):Int)∧(k ≤ e77.Items.length)∧(n4 = f.Msgs.length + f.Items.length + f.States.length + (f.Msgs.map List.length).sum + (f.Items.map gM).sum + zT gS f.States q + e77.Items.length + zT gM e77.Items k)∧St H w (obj g29 30 [.int .u8 ((f.Kind:Nat):Int),.int .i64 f.From,.int .u64 ((f.ID.N:Nat):Int),.int .i64 f.ID.P,.int .u16 ((f.Set:Nat):Int),.int .u64 ((f.Cur.N:Nat):Int),.int .i64 f.Cur.P,.int .u64 ((f.Prom.N:Nat):Int),.int .i64 f.Prom.P,.slice A14 n15 c16,.int .u64 ((f.Base:Nat):Int),.slice A19 n20 c21,.slice A23 n24 c25,.int .u64 ((f.Ack:Nat):Int),.int .u64 ((f.Safe:Nat):Int)]::L)∧mm = e77.Items.length - k) _ ⟨(n3 + n91),0,hρ72,rfl,hρ74,rfl,(by omega),(show _ = _ + 0 by omega),hs75,rfl⟩ ?_
 rintro ρ w mm ⟨n4,k,hρ95,hρ96,hρ97,hρ98,hk,hn4,hs99,rfl⟩
 refine c_seq (c_seq (c_region (st (v:=.int .i64 ((k:Nat):Int)) (x_move (.tmp rfl hρ98)) ?_)))
 refine st (v:=.pointer (some ⟨g29,0 + 9,none⟩)) (fa30_6 (.tmp rfl hρ95)) ?_
 refine st (v:=.slice A14 n15 c16) (ld26 (.tmp rfl rfl) (hs99.cell 0 rfl (0 + 9) rfl)) ?_
 refine st (v:=.int .i64 ((q:Nat):Int)) (x_move (.tmp rfl hρ97)) ?_
 refine st (v:=.pointer (some ⟨b78,(o79 + q * 4),none⟩)) (ixo26 (.tmp rfl rfl) hA82 (i:=((q:Nat):Int)) (.tmp rfl rfl) (by omega) (by omega) (by omega)) ?_
 refine st (v:=.pointer (some ⟨b78,(o79 + q * 4) + 3,none⟩)) (fa52_2 (.tmp rfl rfl)) ?_
 refine st (v:=.slice A90 n91 c92) (ld28 (.tmp rfl rfl) ((hat84x hs99).cell 3 rfl)) ?_
 refine st (v:=.int .i64 ((n91:Nat):Int)) (x_len (n:=n91) Try.underlying28 (.tmp rfl rfl)) ?_
 refine st (v:=.bool (decide ((((k:Nat):Int):Int) < ((n91:Nat):Int)))) (x_lss (k:=.i64) (a:=((k:Nat):Int)) (b:=((n91:Nat):Int)) (.tmp rfl rfl) (.tmp rfl rfl)) ?_
 refine c_nil (n_then ?_)
 rcases Bool.eq_false_or_eq_true (decide ((((k:Nat):Int):Int) < ((n91:Nat):Int))) with hc100 | hc100
 have hp100:(((k:Nat):Int):Int) < ((n91:Nat):Int):=of_decide_eq_true hc100
 refine c_cond_t (t:=true) (.tmp rfl (congrArg Value.bool hc100)) rfl ?_
 refine c_skip (n_then (c_seq (c_block (c_region (st (v:=.int .i64 ((n4:Nat):Int)) (x_move (.tmp rfl hρ96)) ?_)))))
 refine st (v:=.pointer (some ⟨g29,0 + 9,none⟩)) (fa30_6 (.tmp rfl hρ95)) ?_
 refine st (v:=.slice A14 n15 c16) (ld26 (.tmp rfl rfl) (hs99.cell 0 rfl (0 + 9) rfl)) ?_
 refine st (v:=.int .i64 ((q:Nat):Int)) (x_move (.tmp rfl hρ97)) ?_
 refine st (v:=.pointer (some ⟨b78,(o79 + q * 4),none⟩)) (ixo26 (.tmp rfl rfl) hA82 (i:=((q:Nat):Int)) (.tmp rfl rfl) (by omega) (by omega) (by omega)) ?_
 refine st (v:=.pointer (some ⟨b78,(o79 + q * 4) + 3,none⟩)) (fa52_2 (.tmp rfl rfl)) ?_
 refine st (v:=.slice A90 n91 c92) (ld28 (.tmp rfl rfl) ((hat84x hs99).cell 3 rfl)) ?_
 refine st (v:=.int .i64 ((k:Nat):Int)) (x_move (.tmp rfl hρ98)) ?_
 obtain ⟨e101,b102,o103,cs104,hx105,hA106,hr107,hat108⟩:=hl93.get (i:=k) (by omega)
 obtain ⟨A111,n112,c113,rfl,⟨b109,b110⟩,hy114⟩:=hr107
 have:=hy114.len; have:=hy114.bnd; have:=hy114.le
 have hat108x:∀ {w:World} {L:List Res},St H w L → At w ⟨b102,o103 + k * 2,none⟩ [.int .i64 e101.From,.slice A111 n112 c113]:=fun h => hat108 h
 have hzc:=zT_next (g:=gM) hx105; have hzd:=zT_le gM e77.Items (k + 1); have hgm:gM e101 = e101.M.length:=rfl
 refine st (v:=.pointer (some ⟨b102,(o103 + k * 2),none⟩)) (ixo28 (.tmp rfl rfl) hA106 (i:=((k:Nat):Int)) (.tmp rfl rfl) (by omega) (by omega) (by omega)) ?_
 refine st (v:=.pointer (some ⟨b102,(o103 + k * 2) + 1,none⟩)) (fa49_1 (.tmp rfl rfl)) ?_
 refine st (v:=.slice A111 n112 c113) (ld33 (.tmp rfl rfl) ((hat108x hs99).cell 1 rfl)) ?_
 refine st (v:=.int .i64 ((n112:Nat):Int)) (x_len (n:=n112) Try.underlying33 (.tmp rfl rfl)) ?_
 refine st (v:=.int .i64 (((n4 + n112):Nat):Int)) (x_add (k:=.i64) (a:=((n4:Nat):Int)) (b:=((n112:Nat):Int)) (.tmp rfl rfl) (.tmp rfl rfl) ((w64 (by omega) (by omega)).trans (by omega))) ?_
 refine st (v:=.int .i64 (((n4 + n112):Nat):Int)) (x_assign (.tmp rfl rfl)) ?_
 refine c_nil (n_block (n_then (c_region (st (v:=.int .i64 ((k:Nat):Int)) (x_move (.tmp rfl hρ98)) ?_))))
 refine st (v:=.int .i64 (((k + 1):Nat):Int)) (x_add (k:=.i64) (a:=((k:Nat):Int)) (b:=1) (.tmp rfl rfl) .const ((w64 (by omega) (by omega)).trans (by omega))) ?_
 refine st (v:=.int .i64 (((k + 1):Nat):Int)) (x_assign (.tmp rfl rfl)) ?_
 refine c_nil ?_
 refine n_then ⟨_,_,rfl,?_,(n4 + n112),(k + 1),hρ95,rfl,hρ97,rfl,(by omega),(by rw [zT_next hx105]; show _ = _ + (_ + e101.M.length); omega),hs99,rfl⟩
 omega
 have hp100:¬ ((((k:Nat):Int):Int) < ((n91:Nat):Int)):=of_decide_eq_false hc100
 refine c_cond_f (t:=false) (.tmp rfl (congrArg Value.bool hc100)) rfl ?_
 refine c_exit (x_then (x_then (x_here (n_block (n_then (c_region (st (v:=.int .i64 ((q:Nat):Int)) (x_move (.tmp rfl hρ97)) ?_)))))))
 refine st (v:=.int .i64 (((q + 1):Nat):Int)) (x_add (k:=.i64) (a:=((q:Nat):Int)) (b:=1) (.tmp rfl rfl) .const ((w64 (by omega) (by omega)).trans (by omega))) ?_
 refine st (v:=.int .i64 (((q + 1):Nat):Int)) (x_assign (.tmp rfl rfl)) ?_
 refine c_nil ?_
 refine n_then ⟨_,_,rfl,?_,n4,(q + 1),hρ95,hρ96,rfl,(by omega),(by rw [zT_next hx81]; show _ = _ + (_ + (e77.Items.length + (e77.Items.map gM).sum)); have hz4:=zT_all (g:=gM) (show e77.Items.length ≤ k by omega); omega),hs99,rfl⟩
 omega
 have hp76:¬ ((((q:Nat):Int):Int) < ((n15:Nat):Int)):=of_decide_eq_false hc76
 refine c_cond_f (t:=false) (.tmp rfl (congrArg Value.bool hc76)) rfl ?_
 refine c_exit (x_then (x_then (x_here (n_then (c_seq (c_region (st (v:=.int .i64 ((n3:Nat):Int)) (x_move (.tmp rfl hρ73)) ?_)))))))
 refine st (v:=.bool (decide ((20000:Int) < ((n3:Nat):Int)))) (x_gtr (k:=.i64) (a:=((n3:Nat):Int)) (b:=20000) (.tmp rfl rfl) .const) ?_
 refine st (v:=.bool (decide ((20000:Int) < ((n3:Nat):Int)))) (x_assign (.tmp rfl rfl)) ?_
 refine c_nil (n_then (c_ret (leave_ret (res_one (v:=.bool (decide ((20000:Int) < ((n3:Nat):Int)))) rfl (.mk rfl rfl)) ?_)))
 have hans115:(greatF f) = (decide ((20000:Int) < ((n3:Nat):Int))):=(great_is (by rw [sizeF_eq]; have hz3:=zT_all (g:=gS) (show f.States.length ≤ q by omega); omega)).symm
 rw [hans115]
 exact ⟨rfl,hs75.drop⟩
set_option maxHeartbeats 8000000 in
theorem awake_spec {H:Hp} {w:World} {L:List Res} (hs:St H w (L)) :Calls Try.prog 11 #[] w (fun e w' => e = .returned (.bool true)∧St H w' (L)):=by
 refine enter (args:=[]) (N:=23) Try.func11 rfl rfl rfl ?_
 refine c_seq (c_region (st (v:=.bool false) (x_assign .const) ?_))
 refine c_nil (n_then (c_seq (c_region (st (v:=.agg #[.int .u8 1,.int .i64 1,.int .u64 0,.int .i64 0,.int .u16 0,.int .u64 0,.int .i64 0,.int .u64 0,.int .i64 0,.slice none 0 0,.int .u64 0,.slice none 0 0,.slice none 0 0,.int .u64 0,.int .u64 0]) (bl30 (ps:=[(0,.int .u8 1),(1,.int .i64 1)]) (.cons .const (.cons .const Evp.nil)) rfl) ?_))))
 have hr1:kFrame.rep H (GFrame.mk 1 1 (GViewID.mk 0 0) 0 (GViewID.mk 0 0) (GViewID.mk 0 0) [] 0 [] [] 0 0) [.int .u8 1,.int .i64 1,.int .u64 0,.int .i64 0,.int .u16 0,.int .u64 0,.int .i64 0,.int .u64 0,.int .i64 0,.slice none 0 0,.int .u64 0,.slice none 0 0,.slice none 0 0,.int .u64 0,.int .u64 0]:=⟨none,0,0,none,0,0,none,0,0,rfl,(show 1 < 256 from by omega),(show IB 1 from ⟨by omega,by omega⟩),(show 0 < 18446744073709551616 from by omega),(show IB 0 from ⟨by omega,by omega⟩),(show 0 < 65536 from by omega),(show 0 < 18446744073709551616 from by omega),(show IB 0 from ⟨by omega,by omega⟩),(show 0 < 18446744073709551616 from by omega),(show IB 0 from ⟨by omega,by omega⟩),(Sl.nil _ _ none),(show 0 < 18446744073709551616 from by omega),(Sl.nil _ _ none),(Sl.nil _ _ none),(show 0 < 18446744073709551616 from by omega),(show 0 < 18446744073709551616 from by omega)⟩
 refine st_c cb13 .func (evs1 (.tmp rfl rfl)) (encode_spec hs (GFrame.mk 1 1 (GViewID.mk 0 0) 0 (GViewID.mk 0 0) (GViewID.mk 0 0) [] 0 [] [] 0 0) hr1 awk_big) ?_
 rintro e w2 ⟨H4,v6,hle5,rfl,sm9,ok7,hs3⟩
 refine ⟨_,rfl,?_⟩
 refine st (v:=.tuple #[v6,.int .i64 ((encC (GFrame.mk 1 1 (GViewID.mk 0 0) 0 (GViewID.mk 0 0) (GViewID.mk 0 0) [] 0 [] [] 0 0)).2)]) (x_move (.tmp rfl rfl)) ?_
 refine st (v:=v6) (x_extract (.tmp rfl rfl) (i:=0) rfl) ?_
 refine st (v:=.int .i64 ((encC (GFrame.mk 1 1 (GViewID.mk 0 0) 0 (GViewID.mk 0 0) (GViewID.mk 0 0) [] 0 [] [] 0 0)).2)) (x_extract (.tmp rfl rfl) (i:=1) rfl) ?_
 refine st (v:=v6) (x_assign (.tmp rfl rfl)) ?_
 refine st (v:=.int .i64 ((encC (GFrame.mk 1 1 (GViewID.mk 0 0) 0 (GViewID.mk 0 0) (GViewID.mk 0 0) [] 0 [] [] 0 0)).2)) (x_assign (.tmp rfl rfl)) ?_
 refine c_nil (n_then (c_seq (c_region ?_)))
 have hal:((encC (GFrame.mk 1 1 (GViewID.mk 0 0) 0 (GViewID.mk 0 0) (GViewID.mk 0 0) [] 0 [] [] 0 0)).1).length = 10:=by rw [awk]; exact awk_len
 obtain ⟨H10,A11,c12,hle13,hs14,rfl,hp15⟩:=hs3.freezeBs ok7 sm9 (by omega)
 have hy16:By H10 A11 (((encC (GFrame.mk 1 1 (GViewID.mk 0 0) 0 (GViewID.mk 0 0) (GViewID.mk 0 0) [] 0 [] [] 0 0)).1).length) c12 ((encC (GFrame.mk 1 1 (GViewID.mk 0 0) 0 (GViewID.mk 0 0) (GViewID.mk 0 0) [] 0 [] [] 0 0)).1):=⟨hp15,by omega⟩
 skip
 refine st (v:=.int .i64 ((encC (GFrame.mk 1 1 (GViewID.mk 0 0) 0 (GViewID.mk 0 0) (GViewID.mk 0 0) [] 0 [] [] 0 0)).2)) (x_move (.tmp rfl rfl)) ?_
 refine st (v:=.bool (decide ((((encC (GFrame.mk 1 1 (GViewID.mk 0 0) 0 (GViewID.mk 0 0) (GViewID.mk 0 0) [] 0 [] [] 0 0)).2):Int) = 0))) (x_eql (k:=.i64) (a:=((encC (GFrame.mk 1 1 (GViewID.mk 0 0) 0 (GViewID.mk 0 0) (GViewID.mk 0 0) [] 0 [] [] 0 0)).2)) (b:=0) (.tmp rfl rfl) .const) ?_
 refine st (v:=.bool (decide ((((encC (GFrame.mk 1 1 (GViewID.mk 0 0) 0 (GViewID.mk 0 0) (GViewID.mk 0 0) [] 0 [] [] 0 0)).2):Int) = 0))) (x_move (.tmp rfl rfl)) ?_
 have hc17:(decide ((((encC (GFrame.mk 1 1 (GViewID.mk 0 0) 0 (GViewID.mk 0 0) (GViewID.mk 0 0) [] 0 [] [] 0 0)).2):Int) = 0)) = true:=(decide_eq_true (by rw [awk]))
 refine g_yes (yk 10 true rfl rfl hc17) ?_
 refine st (v:=.slice A11 (((encC (GFrame.mk 1 1 (GViewID.mk 0 0) 0 (GViewID.mk 0 0) (GViewID.mk 0 0) [] 0 [] [] 0 0)).1).length) c12) (x_move (.tmp rfl rfl)) ?_
 refine g_yes (yk 10 true rfl rfl hc17) ?_
 refine st (v:=.int .i64 (((((encC (GFrame.mk 1 1 (GViewID.mk 0 0) 0 (GViewID.mk 0 0) (GViewID.mk 0 0) [] 0 [] [] 0 0)).1).length):Nat):Int)) (x_len (n:=(((encC (GFrame.mk 1 1 (GViewID.mk 0 0) 0 (GViewID.mk 0 0) (GViewID.mk 0 0) [] 0 [] [] 0 0)).1).length)) Try.underlying33 (.tmp rfl rfl)) ?_
 refine g_yes (yk 10 true rfl rfl hc17) ?_
 refine st (v:=.bool (decide (((((((encC (GFrame.mk 1 1 (GViewID.mk 0 0) 0 (GViewID.mk 0 0) (GViewID.mk 0 0) [] 0 [] [] 0 0)).1).length):Nat):Int):Int) = 10))) (x_eql (k:=.i64) (a:=(((((encC (GFrame.mk 1 1 (GViewID.mk 0 0) 0 (GViewID.mk 0 0) (GViewID.mk 0 0) [] 0 [] [] 0 0)).1).length):Nat):Int)) (b:=10) (.tmp rfl rfl) .const) ?_
 refine st (v:=.bool (decide (((((((encC (GFrame.mk 1 1 (GViewID.mk 0 0) 0 (GViewID.mk 0 0) (GViewID.mk 0 0) [] 0 [] [] 0 0)).1).length):Nat):Int):Int) = 10))) (x_pick_t (.tmp rfl (congrArg Value.bool hc17)) (.tmp rfl rfl)) ?_
 refine st (v:=.bool (decide (((((((encC (GFrame.mk 1 1 (GViewID.mk 0 0) 0 (GViewID.mk 0 0) (GViewID.mk 0 0) [] 0 [] [] 0 0)).1).length):Nat):Int):Int) = 10))) (x_move (.tmp rfl rfl)) ?_
 have hc18:(decide (((((((encC (GFrame.mk 1 1 (GViewID.mk 0 0) 0 (GViewID.mk 0 0) (GViewID.mk 0 0) [] 0 [] [] 0 0)).1).length):Nat):Int):Int) = 10)) = true:=(decide_eq_true (by rw [awk,awk_len]; rfl))
 refine g_yes (yk 15 true rfl rfl hc18) ?_
 refine st (v:=.slice A11 (((encC (GFrame.mk 1 1 (GViewID.mk 0 0) 0 (GViewID.mk 0 0) (GViewID.mk 0 0) [] 0 [] [] 0 0)).1).length) c12) (x_move (.tmp rfl rfl)) ?_
 refine g_yes (yk 15 true rfl rfl hc18) ?_
 have:=hy16.toBs.le
 refine st (v:=.slice A11 6 c12) (bs_h Try.underlying33 inf5 (a:=6) (.tmp rfl rfl) .const (by omega) (by omega)) ?_
 refine g_yes (yk 15 true rfl rfl hc18) ?_
 refine st (v:=.string (bstr (((encC (GFrame.mk 1 1 (GViewID.mk 0 0) 0 (GViewID.mk 0 0) (GViewID.mk 0 0) [] 0 [] [] 0 0)).1).take 6))) ((hy16.toBs.take (k:=6) (by omega)).str Try.underlying33 Try.underlying5 Try.underlying9 hs14 (.tmp rfl rfl)) ?_
 refine g_yes (yk 15 true rfl rfl hc18) ?_
 refine st (v:=.bool (decide ((bstr (((encC (GFrame.mk 1 1 (GViewID.mk 0 0) 0 (GViewID.mk 0 0) (GViewID.mk 0 0) [] 0 [] [] 0 0)).1).take 6)) = (⟨#[1,1,0,0,0,0]⟩)))) (x_eqlS (.tmp rfl rfl) .const) ?_
 refine st (v:=.bool (decide ((bstr (((encC (GFrame.mk 1 1 (GViewID.mk 0 0) 0 (GViewID.mk 0 0) (GViewID.mk 0 0) [] 0 [] [] 0 0)).1).take 6)) = (⟨#[1,1,0,0,0,0]⟩)))) (x_pick_t (.tmp rfl (congrArg Value.bool hc18)) (.tmp rfl rfl)) ?_
 refine st (v:=.bool (decide ((bstr (((encC (GFrame.mk 1 1 (GViewID.mk 0 0) 0 (GViewID.mk 0 0) (GViewID.mk 0 0) [] 0 [] [] 0 0)).1).take 6)) = (⟨#[1,1,0,0,0,0]⟩)))) (x_move (.tmp rfl rfl)) ?_
 have hc19:(decide ((bstr (((encC (GFrame.mk 1 1 (GViewID.mk 0 0) 0 (GViewID.mk 0 0) (GViewID.mk 0 0) [] 0 [] [] 0 0)).1).take 6)) = (⟨#[1,1,0,0,0,0]⟩))) = true:=(decide_eq_true (by rw [awk]; exact congrArg bstr awk_take))
 refine st (v:=.bool true) (x_pick_t (.tmp rfl (congrArg Value.bool hc19)) .const) ?_
 refine st (v:=.bool true) (x_assign (.tmp rfl rfl)) ?_
 refine c_nil (n_then (c_ret (leave_ret (res_one (v:=.bool true) rfl (.mk rfl rfl)) ?_)))
 exact ⟨rfl,(hs14.weaken (hle5.trans hle13))⟩
end Go.Proofs.Ytlfihfmmhhcigaa

set_option linter.unusedVariables false
set_option linter.unusedSimpArgs false
namespace Go.Proofs.Ytlfihfmmhhcigaa
open Go Go.FM Go.Proofs
attribute [local irreducible] wpList wpQuiet wpS Code.wp Calls
set_option maxHeartbeats 8000000 in
theorem frameApart_spec {H:Hp} {w:World} {L:List Res} (hs:St H w (L)) (f:GFrame) {k_f:List Value} (h_f:kFrame.rep H f k_f) (g:GFrame) {k_g:List Value} (h_g:kFrame.rep H g k_g) (hsiz:sizeF f ≤ 1048576) (hfb:FB f) (hsiz_g:sizeF g ≤ 1048576) (hfb_g:FB g):Calls Try.prog 3 #[.agg k_f.toArray,.agg k_g.toArray] w (fun e w' => e = .returned (.bool true)∧St H w' (L)):=by
 obtain ⟨A14,n15,c16,A19,n20,c21,A23,n24,c25,rfl,b1,⟨b2,b3⟩,b4,⟨b5,b6⟩,b7,b8,⟨b9,b10⟩,b11,⟨b12,b13⟩,hl17,b18,hl22,hl26,b27,b28⟩:=h_f
 have:=hl17.len; have:n15 * 48 ≤ 140737488351232:=hl17.bnd; have:=hl17.le
 have:=hl22.len; have:n20 * 24 ≤ 140737488351232:=hl22.bnd; have:=hl22.le
 have:=hl26.len; have:n24 * 32 ≤ 140737488351232:=hl26.bnd; have:=hl26.le
 obtain ⟨A42,n43,c44,A47,n48,c49,A51,n52,c53,rfl,b29,⟨b30,b31⟩,b32,⟨b33,b34⟩,b35,b36,⟨b37,b38⟩,b39,⟨b40,b41⟩,hl45,b46,hl50,hl54,b55,b56⟩:=h_g
 have:=hl45.len; have:n43 * 48 ≤ 140737488351232:=hl45.bnd; have:=hl45.le
 have:=hl50.len; have:n48 * 24 ≤ 140737488351232:=hl50.bnd; have:=hl50.le
 have:=hl54.len; have:n52 * 32 ≤ 140737488351232:=hl54.bnd; have:=hl54.le
 refine enter (args:=[.agg #[.int .u8 ((f.Kind:Nat):Int),.int .i64 f.From,.int .u64 ((f.ID.N:Nat):Int),.int .i64 f.ID.P,.int .u16 ((f.Set:Nat):Int),.int .u64 ((f.Cur.N:Nat):Int),.int .i64 f.Cur.P,.int .u64 ((f.Prom.N:Nat):Int),.int .i64 f.Prom.P,.slice A14 n15 c16,.int .u64 ((f.Base:Nat):Int),.slice A19 n20 c21,.slice A23 n24 c25,.int .u64 ((f.Ack:Nat):Int),.int .u64 ((f.Safe:Nat):Int)],.agg #[.int .u8 ((g.Kind:Nat):Int),.int .i64 g.From,.int .u64 ((g.ID.N:Nat):Int),.int .i64 g.ID.P,.int .u16 ((g.Set:Nat):Int),.int .u64 ((g.Cur.N:Nat):Int),.int .i64 g.Cur.P,.int .u64 ((g.Prom.N:Nat):Int),.int .i64 g.Prom.P,.slice A42 n43 c44,.int .u64 ((g.Base:Nat):Int),.slice A47 n48 c49,.slice A51 n52 c53,.int .u64 ((g.Ack:Nat):Int),.int .u64 ((g.Safe:Nat):Int)]]) (N:=57) Try.func3 rfl rfl rfl ?_
 refine c_seq (c_region (st_m (m_box (cs:=[.int .u8 ((f.Kind:Nat):Int),.int .i64 f.From,.int .u64 ((f.ID.N:Nat):Int),.int .i64 f.ID.P,.int .u16 ((f.Set:Nat):Int),.int .u64 ((f.Cur.N:Nat):Int),.int .i64 f.Cur.P,.int .u64 ((f.Prom.N:Nat):Int),.int .i64 f.Prom.P,.slice A14 n15 c16,.int .u64 ((f.Base:Nat):Int),.slice A19 n20 c21,.slice A23 n24 c25,.int .u64 ((f.Ack:Nat):Int),.int .u64 ((f.Safe:Nat):Int)]) hs (v:=.agg #[.int .u8 ((f.Kind:Nat):Int),.int .i64 f.From,.int .u64 ((f.ID.N:Nat):Int),.int .i64 f.ID.P,.int .u16 ((f.Set:Nat):Int),.int .u64 ((f.Cur.N:Nat):Int),.int .i64 f.Cur.P,.int .u64 ((f.Prom.N:Nat):Int),.int .i64 f.Prom.P,.slice A14 n15 c16,.int .u64 ((f.Base:Nat):Int),.slice A19 n20 c21,.slice A23 n24 c25,.int .u64 ((f.Ack:Nat):Int),.int .u64 ((f.Safe:Nat):Int)]) (.tmp rfl rfl) rfl) ?_))
 rintro _ w58 ⟨g57,rfl,hs60⟩
 refine st_m (m_box (cs:=[.int .u8 ((g.Kind:Nat):Int),.int .i64 g.From,.int .u64 ((g.ID.N:Nat):Int),.int .i64 g.ID.P,.int .u16 ((g.Set:Nat):Int),.int .u64 ((g.Cur.N:Nat):Int),.int .i64 g.Cur.P,.int .u64 ((g.Prom.N:Nat):Int),.int .i64 g.Prom.P,.slice A42 n43 c44,.int .u64 ((g.Base:Nat):Int),.slice A47 n48 c49,.slice A51 n52 c53,.int .u64 ((g.Ack:Nat):Int),.int .u64 ((g.Safe:Nat):Int)]) hs60 (v:=.agg #[.int .u8 ((g.Kind:Nat):Int),.int .i64 g.From,.int .u64 ((g.ID.N:Nat):Int),.int .i64 g.ID.P,.int .u16 ((g.Set:Nat):Int),.int .u64 ((g.Cur.N:Nat):Int),.int .i64 g.Cur.P,.int .u64 ((g.Prom.N:Nat):Int),.int .i64 g.Prom.P,.slice A42 n43 c44,.int .u64 ((g.Base:Nat):Int),.slice A47 n48 c49,.slice A51 n52 c53,.int .u64 ((g.Ack:Nat):Int),.int .u64 ((g.Safe:Nat):Int)]) (.tmp rfl rfl) rfl) ?_
 rintro _ w62 ⟨g61,rfl,hs64⟩
 refine st (v:=.bool false) (x_assign .const) ?_
 refine c_nil (n_then (c_seq (c_seq (c_region (st (v:=.agg #[.int .u8 ((f.Kind:Nat):Int),.int .i64 f.From,.int .u64 ((f.ID.N:Nat):Int),.int .i64 f.ID.P,.int .u16 ((f.Set:Nat):Int),.int .u64 ((f.Cur.N:Nat):Int),.int .i64 f.Cur.P,.int .u64 ((f.Prom.N:Nat):Int),.int .i64 f.Prom.P,.slice A14 n15 c16,.int .u64 ((f.Base:Nat):Int),.slice A19 n20 c21,.slice A23 n24 c25,.int .u64 ((f.Ack:Nat):Int),.int .u64 ((f.Safe:Nat):Int)]) (ld30 (cs:=[.int .u8 ((f.Kind:Nat):Int),.int .i64 f.From,.int .u64 ((f.ID.N:Nat):Int),.int .i64 f.ID.P,.int .u16 ((f.Set:Nat):Int),.int .u64 ((f.Cur.N:Nat):Int),.int .i64 f.Cur.P,.int .u64 ((f.Prom.N:Nat):Int),.int .i64 f.Prom.P,.slice A14 n15 c16,.int .u64 ((f.Base:Nat):Int),.slice A19 n20 c21,.slice A23 n24 c25,.int .u64 ((f.Ack:Nat):Int),.int .u64 ((f.Safe:Nat):Int)]) (.tmp rfl rfl) (hs64.at_ 1 rfl (0) rfl) rfl) ?_)))))
 have hr65:kFrame.rep H f [.int .u8 ((f.Kind:Nat):Int),.int .i64 f.From,.int .u64 ((f.ID.N:Nat):Int),.int .i64 f.ID.P,.int .u16 ((f.Set:Nat):Int),.int .u64 ((f.Cur.N:Nat):Int),.int .i64 f.Cur.P,.int .u64 ((f.Prom.N:Nat):Int),.int .i64 f.Prom.P,.slice A14 n15 c16,.int .u64 ((f.Base:Nat):Int),.slice A19 n20 c21,.slice A23 n24 c25,.int .u64 ((f.Ack:Nat):Int),.int .u64 ((f.Safe:Nat):Int)]:=⟨A14,n15,c16,A19,n20,c21,A23,n24,c25,rfl,b1,⟨b2,b3⟩,b4,⟨b5,b6⟩,b7,b8,⟨b9,b10⟩,b11,⟨b12,b13⟩,hl17,b18,hl22,hl26,b27,b28⟩
 refine st_c cb10 .func (evs1 (.tmp rfl rfl)) (great_spec hs64 f hr65 hsiz) ?_
 rintro e w66 ⟨rfl,hs67⟩
 refine ⟨_,rfl,?_⟩
 refine st (v:=.bool (greatF f)) (x_move (.tmp rfl rfl)) ?_
 rcases Bool.eq_false_or_eq_true (greatF f) with hc68 | hc68
 refine g_no (yk 11 true rfl rfl hc68) rfl ?_
 refine g_no (yk 11 true rfl rfl hc68) rfl ?_
 refine st (v:=.bool true) (x_pick_t (.tmp rfl (congrArg Value.bool hc68)) .const) ?_
 refine st (v:=.bool true) (x_move (.tmp rfl rfl)) ?_
 refine g_no (yl (dj:=15) (b:=true) rfl rfl rfl) rfl ?_
 refine g_no (yl (dj:=15) (b:=true) rfl rfl rfl) rfl ?_
 refine st (v:=.bool true) (x_pick_t (.tmp rfl rfl) .const) ?_
 refine st (v:=.bool true) (x_move (.tmp rfl rfl)) ?_
 refine g_no (yl (dj:=19) (b:=true) rfl rfl rfl) rfl ?_
 refine g_no (yl (dj:=19) (b:=true) rfl rfl rfl) rfl ?_
 refine g_no (yl (dj:=19) (b:=true) rfl rfl rfl) rfl ?_
 refine st (v:=.bool true) (x_pick_t (.tmp rfl rfl) .const) ?_
 refine st (v:=.bool true) (x_move (.tmp rfl rfl)) ?_
 refine g_no (yl (dj:=24) (b:=true) rfl rfl rfl) rfl ?_
 refine g_no (yl (dj:=24) (b:=true) rfl rfl rfl) rfl ?_
 refine g_no (yl (dj:=24) (b:=true) rfl rfl rfl) rfl ?_
 refine st (v:=.bool true) (x_pick_t (.tmp rfl rfl) .const) ?_
 refine c_nil (n_then (c_cond_t (t:=true) (.tmp rfl rfl) rfl ?_))
 refine c_seq (c_region (st_c cb11 .func (evs0 ) (awake_spec hs67  ) ?_))
 rintro e w69 ⟨rfl,hs70⟩
 refine ⟨_,rfl,?_⟩
 refine st (v:=.bool true) (x_assign (.tmp rfl rfl)) ?_
 refine c_nil (n_then (c_ret (r_then (leave_ret (res_one (v:=.bool true) rfl (.mk rfl rfl)) ?_))))
 exact ⟨rfl,hs70.drop.drop⟩
 refine g_yes (yk 11 false rfl rfl hc68) ?_
 refine st (v:=.agg #[.int .u8 ((g.Kind:Nat):Int),.int .i64 g.From,.int .u64 ((g.ID.N:Nat):Int),.int .i64 g.ID.P,.int .u16 ((g.Set:Nat):Int),.int .u64 ((g.Cur.N:Nat):Int),.int .i64 g.Cur.P,.int .u64 ((g.Prom.N:Nat):Int),.int .i64 g.Prom.P,.slice A42 n43 c44,.int .u64 ((g.Base:Nat):Int),.slice A47 n48 c49,.slice A51 n52 c53,.int .u64 ((g.Ack:Nat):Int),.int .u64 ((g.Safe:Nat):Int)]) (ld30 (cs:=[.int .u8 ((g.Kind:Nat):Int),.int .i64 g.From,.int .u64 ((g.ID.N:Nat):Int),.int .i64 g.ID.P,.int .u16 ((g.Set:Nat):Int),.int .u64 ((g.Cur.N:Nat):Int),.int .i64 g.Cur.P,.int .u64 ((g.Prom.N:Nat):Int),.int .i64 g.Prom.P,.slice A42 n43 c44,.int .u64 ((g.Base:Nat):Int),.slice A47 n48 c49,.slice A51 n52 c53,.int .u64 ((g.Ack:Nat):Int),.int .u64 ((g.Safe:Nat):Int)]) (.tmp rfl rfl) (hs67.at_ 0 rfl (0) rfl) rfl) ?_
 refine g_yes (yk 11 false rfl rfl hc68) ?_
 have hr71:kFrame.rep H g [.int .u8 ((g.Kind:Nat):Int),.int .i64 g.From,.int .u64 ((g.ID.N:Nat):Int),.int .i64 g.ID.P,.int .u16 ((g.Set:Nat):Int),.int .u64 ((g.Cur.N:Nat):Int),.int .i64 g.Cur.P,.int .u64 ((g.Prom.N:Nat):Int),.int .i64 g.Prom.P,.slice A42 n43 c44,.int .u64 ((g.Base:Nat):Int),.slice A47 n48 c49,.slice A51 n52 c53,.int .u64 ((g.Ack:Nat):Int),.int .u64 ((g.Safe:Nat):Int)]:=⟨A42,n43,c44,A47,n48,c49,A51,n52,c53,rfl,b29,⟨b30,b31⟩,b32,⟨b33,b34⟩,b35,b36,⟨b37,b38⟩,b39,⟨b40,b41⟩,hl45,b46,hl50,hl54,b55,b56⟩
 refine st_c cb10 .func (evs1 (.tmp rfl rfl)) (great_spec hs67 g hr71 hsiz_g) ?_
 rintro e w72 ⟨rfl,hs73⟩
 refine ⟨_,rfl,?_⟩
 refine st (v:=.bool (greatF g)) (x_pick_f (.tmp rfl (congrArg Value.bool hc68)) (.tmp rfl rfl)) ?_
 refine st (v:=.bool (greatF g)) (x_move (.tmp rfl rfl)) ?_
 rcases Bool.eq_false_or_eq_true (greatF g) with hc74 | hc74
 refine g_no (yk 15 true rfl rfl hc74) rfl ?_
 refine g_no (yk 15 true rfl rfl hc74) rfl ?_
 refine st (v:=.bool true) (x_pick_t (.tmp rfl (congrArg Value.bool hc74)) .const) ?_
 refine st (v:=.bool true) (x_move (.tmp rfl rfl)) ?_
 refine g_no (yl (dj:=19) (b:=true) rfl rfl rfl) rfl ?_
 refine g_no (yl (dj:=19) (b:=true) rfl rfl rfl) rfl ?_
 refine g_no (yl (dj:=19) (b:=true) rfl rfl rfl) rfl ?_
 refine st (v:=.bool true) (x_pick_t (.tmp rfl rfl) .const) ?_
 refine st (v:=.bool true) (x_move (.tmp rfl rfl)) ?_
 refine g_no (yl (dj:=24) (b:=true) rfl rfl rfl) rfl ?_
 refine g_no (yl (dj:=24) (b:=true) rfl rfl rfl) rfl ?_
 refine g_no (yl (dj:=24) (b:=true) rfl rfl rfl) rfl ?_
 refine st (v:=.bool true) (x_pick_t (.tmp rfl rfl) .const) ?_
 refine c_nil (n_then (c_cond_t (t:=true) (.tmp rfl rfl) rfl ?_))
 refine c_seq (c_region (st_c cb11 .func (evs0 ) (awake_spec hs73  ) ?_))
 rintro e w75 ⟨rfl,hs76⟩
 refine ⟨_,rfl,?_⟩
 refine st (v:=.bool true) (x_assign (.tmp rfl rfl)) ?_
 refine c_nil (n_then (c_ret (r_then (leave_ret (res_one (v:=.bool true) rfl (.mk rfl rfl)) ?_))))
 exact ⟨rfl,hs76.drop.drop⟩
 refine g_yes (yk 15 false rfl rfl hc74) ?_
 refine st_c cb11 .func (evs0 ) (awake_spec hs73  ) ?_
 rintro e w77 ⟨rfl,hs78⟩
 refine ⟨_,rfl,?_⟩
 refine g_yes (yk 15 false rfl rfl hc74) ?_
 refine st (v:=.bool false) (x_not (b:=true) (.tmp rfl rfl)) ?_
 refine st (v:=.bool false) (x_pick_f (.tmp rfl (congrArg Value.bool hc74)) (.tmp rfl rfl)) ?_
 refine st (v:=.bool false) (x_move (.tmp rfl rfl)) ?_
 refine g_yes (yl (dj:=19) (b:=false) rfl rfl rfl) ?_
 refine st (v:=.agg #[.int .u8 ((f.Kind:Nat):Int),.int .i64 f.From,.int .u64 ((f.ID.N:Nat):Int),.int .i64 f.ID.P,.int .u16 ((f.Set:Nat):Int),.int .u64 ((f.Cur.N:Nat):Int),.int .i64 f.Cur.P,.int .u64 ((f.Prom.N:Nat):Int),.int .i64 f.Prom.P,.slice A14 n15 c16,.int .u64 ((f.Base:Nat):Int),.slice A19 n20 c21,.slice A23 n24 c25,.int .u64 ((f.Ack:Nat):Int),.int .u64 ((f.Safe:Nat):Int)]) (ld30 (cs:=[.int .u8 ((f.Kind:Nat):Int),.int .i64 f.From,.int .u64 ((f.ID.N:Nat):Int),.int .i64 f.ID.P,.int .u16 ((f.Set:Nat):Int),.int .u64 ((f.Cur.N:Nat):Int),.int .i64 f.Cur.P,.int .u64 ((f.Prom.N:Nat):Int),.int .i64 f.Prom.P,.slice A14 n15 c16,.int .u64 ((f.Base:Nat):Int),.slice A19 n20 c21,.slice A23 n24 c25,.int .u64 ((f.Ack:Nat):Int),.int .u64 ((f.Safe:Nat):Int)]) (.tmp rfl rfl) (hs78.at_ 1 rfl (0) rfl) rfl) ?_
 refine g_yes (yl (dj:=19) (b:=false) rfl rfl rfl) ?_
 have hr79:kFrame.rep H f [.int .u8 ((f.Kind:Nat):Int),.int .i64 f.From,.int .u64 ((f.ID.N:Nat):Int),.int .i64 f.ID.P,.int .u16 ((f.Set:Nat):Int),.int .u64 ((f.Cur.N:Nat):Int),.int .i64 f.Cur.P,.int .u64 ((f.Prom.N:Nat):Int),.int .i64 f.Prom.P,.slice A14 n15 c16,.int .u64 ((f.Base:Nat):Int),.slice A19 n20 c21,.slice A23 n24 c25,.int .u64 ((f.Ack:Nat):Int),.int .u64 ((f.Safe:Nat):Int)]:=⟨A14,n15,c16,A19,n20,c21,A23,n24,c25,rfl,b1,⟨b2,b3⟩,b4,⟨b5,b6⟩,b7,b8,⟨b9,b10⟩,b11,⟨b12,b13⟩,hl17,b18,hl22,hl26,b27,b28⟩
 refine st_c cb12 .func (evs1 (.tmp rfl rfl)) (rform_frame hs78 f hr79 ) ?_
 rintro e w80 ⟨rfl,hs81⟩
 refine ⟨_,rfl,?_⟩
 refine g_yes (yl (dj:=19) (b:=false) rfl rfl rfl) ?_
 refine st (v:=.bool (!(formC f))) (x_not (.tmp rfl rfl)) ?_
 refine st (v:=.bool (!(formC f))) (x_pick_f (.tmp rfl rfl) (.tmp rfl rfl)) ?_
 refine st (v:=.bool (!(formC f))) (x_move (.tmp rfl rfl)) ?_
 rcases Bool.eq_false_or_eq_true (formC f) with hc82 | hc82
 refine g_yes (yl (dj:=24) (b:=false) rfl rfl (congrArg Value.bool (by rw [hc82]; rfl))) ?_
 refine st (v:=.agg #[.int .u8 ((g.Kind:Nat):Int),.int .i64 g.From,.int .u64 ((g.ID.N:Nat):Int),.int .i64 g.ID.P,.int .u16 ((g.Set:Nat):Int),.int .u64 ((g.Cur.N:Nat):Int),.int .i64 g.Cur.P,.int .u64 ((g.Prom.N:Nat):Int),.int .i64 g.Prom.P,.slice A42 n43 c44,.int .u64 ((g.Base:Nat):Int),.slice A47 n48 c49,.slice A51 n52 c53,.int .u64 ((g.Ack:Nat):Int),.int .u64 ((g.Safe:Nat):Int)]) (ld30 (cs:=[.int .u8 ((g.Kind:Nat):Int),.int .i64 g.From,.int .u64 ((g.ID.N:Nat):Int),.int .i64 g.ID.P,.int .u16 ((g.Set:Nat):Int),.int .u64 ((g.Cur.N:Nat):Int),.int .i64 g.Cur.P,.int .u64 ((g.Prom.N:Nat):Int),.int .i64 g.Prom.P,.slice A42 n43 c44,.int .u64 ((g.Base:Nat):Int),.slice A47 n48 c49,.slice A51 n52 c53,.int .u64 ((g.Ack:Nat):Int),.int .u64 ((g.Safe:Nat):Int)]) (.tmp rfl rfl) (hs81.at_ 0 rfl (0) rfl) rfl) ?_
 refine g_yes (yl (dj:=24) (b:=false) rfl rfl (congrArg Value.bool (by rw [hc82]; rfl))) ?_
 have hr83:kFrame.rep H g [.int .u8 ((g.Kind:Nat):Int),.int .i64 g.From,.int .u64 ((g.ID.N:Nat):Int),.int .i64 g.ID.P,.int .u16 ((g.Set:Nat):Int),.int .u64 ((g.Cur.N:Nat):Int),.int .i64 g.Cur.P,.int .u64 ((g.Prom.N:Nat):Int),.int .i64 g.Prom.P,.slice A42 n43 c44,.int .u64 ((g.Base:Nat):Int),.slice A47 n48 c49,.slice A51 n52 c53,.int .u64 ((g.Ack:Nat):Int),.int .u64 ((g.Safe:Nat):Int)]:=⟨A42,n43,c44,A47,n48,c49,A51,n52,c53,rfl,b29,⟨b30,b31⟩,b32,⟨b33,b34⟩,b35,b36,⟨b37,b38⟩,b39,⟨b40,b41⟩,hl45,b46,hl50,hl54,b55,b56⟩
 refine st_c cb12 .func (evs1 (.tmp rfl rfl)) (rform_frame hs81 g hr83 ) ?_
 rintro e w84 ⟨rfl,hs85⟩
 refine ⟨_,rfl,?_⟩
 refine g_yes (yl (dj:=24) (b:=false) rfl rfl (congrArg Value.bool (by rw [hc82]; rfl))) ?_
 refine st (v:=.bool (!(formC g))) (x_not (.tmp rfl rfl)) ?_
 refine st (v:=.bool (!(formC g))) (x_pick_f (.tmp rfl (congrArg Value.bool (by rw [hc82]; rfl))) (.tmp rfl rfl)) ?_
 refine c_nil (n_then ?_)
 rcases Bool.eq_false_or_eq_true (formC g) with hc86 | hc86
 refine c_cond_f (t:=false) (.tmp rfl (congrArg Value.bool (by rw [hc86]; rfl))) rfl ?_
 refine c_skip (n_then (c_seq (c_region ?_)))
 have hb_f:=big_of hc68 hsiz hfb
 have hb_g:=big_of hc74 hsiz_g hfb_g
 refine st (v:=.agg #[.int .u8 ((f.Kind:Nat):Int),.int .i64 f.From,.int .u64 ((f.ID.N:Nat):Int),.int .i64 f.ID.P,.int .u16 ((f.Set:Nat):Int),.int .u64 ((f.Cur.N:Nat):Int),.int .i64 f.Cur.P,.int .u64 ((f.Prom.N:Nat):Int),.int .i64 f.Prom.P,.slice A14 n15 c16,.int .u64 ((f.Base:Nat):Int),.slice A19 n20 c21,.slice A23 n24 c25,.int .u64 ((f.Ack:Nat):Int),.int .u64 ((f.Safe:Nat):Int)]) (ld30 (cs:=[.int .u8 ((f.Kind:Nat):Int),.int .i64 f.From,.int .u64 ((f.ID.N:Nat):Int),.int .i64 f.ID.P,.int .u16 ((f.Set:Nat):Int),.int .u64 ((f.Cur.N:Nat):Int),.int .i64 f.Cur.P,.int .u64 ((f.Prom.N:Nat):Int),.int .i64 f.Prom.P,.slice A14 n15 c16,.int .u64 ((f.Base:Nat):Int),.slice A19 n20 c21,.slice A23 n24 c25,.int .u64 ((f.Ack:Nat):Int),.int .u64 ((f.Safe:Nat):Int)]) (.tmp rfl rfl) (hs85.at_ 1 rfl (0) rfl) rfl) ?_
 have hr87:kFrame.rep H f [.int .u8 ((f.Kind:Nat):Int),.int .i64 f.From,.int .u64 ((f.ID.N:Nat):Int),.int .i64 f.ID.P,.int .u16 ((f.Set:Nat):Int),.int .u64 ((f.Cur.N:Nat):Int),.int .i64 f.Cur.P,.int .u64 ((f.Prom.N:Nat):Int),.int .i64 f.Prom.P,.slice A14 n15 c16,.int .u64 ((f.Base:Nat):Int),.slice A19 n20 c21,.slice A23 n24 c25,.int .u64 ((f.Ack:Nat):Int),.int .u64 ((f.Safe:Nat):Int)]:=⟨A14,n15,c16,A19,n20,c21,A23,n24,c25,rfl,b1,⟨b2,b3⟩,b4,⟨b5,b6⟩,b7,b8,⟨b9,b10⟩,b11,⟨b12,b13⟩,hl17,b18,hl22,hl26,b27,b28⟩
 refine st_c cb13 .func (evs1 (.tmp rfl rfl)) (encode_spec hs85 f hr87 (Nat.le_trans hb_f (by decide))) ?_
 rintro e w88 ⟨H90,v92,hle91,rfl,sm95,ok93,hs89⟩
 refine ⟨_,rfl,?_⟩
 refine st (v:=.tuple #[v92,.int .i64 ((encC f).2)]) (x_move (.tmp rfl rfl)) ?_
 refine st (v:=v92) (x_extract (.tmp rfl rfl) (i:=0) rfl) ?_
 refine st (v:=.int .i64 ((encC f).2)) (x_extract (.tmp rfl rfl) (i:=1) rfl) ?_
 refine st (v:=v92) (x_assign (.tmp rfl rfl)) ?_
 refine st (v:=.int .i64 ((encC f).2)) (x_assign (.tmp rfl rfl)) ?_
 refine c_nil (n_then (c_seq (c_region (st (v:=.agg #[.int .u8 ((g.Kind:Nat):Int),.int .i64 g.From,.int .u64 ((g.ID.N:Nat):Int),.int .i64 g.ID.P,.int .u16 ((g.Set:Nat):Int),.int .u64 ((g.Cur.N:Nat):Int),.int .i64 g.Cur.P,.int .u64 ((g.Prom.N:Nat):Int),.int .i64 g.Prom.P,.slice A42 n43 c44,.int .u64 ((g.Base:Nat):Int),.slice A47 n48 c49,.slice A51 n52 c53,.int .u64 ((g.Ack:Nat):Int),.int .u64 ((g.Safe:Nat):Int)]) (ld30 (cs:=[.int .u8 ((g.Kind:Nat):Int),.int .i64 g.From,.int .u64 ((g.ID.N:Nat):Int),.int .i64 g.ID.P,.int .u16 ((g.Set:Nat):Int),.int .u64 ((g.Cur.N:Nat):Int),.int .i64 g.Cur.P,.int .u64 ((g.Prom.N:Nat):Int),.int .i64 g.Prom.P,.slice A42 n43 c44,.int .u64 ((g.Base:Nat):Int),.slice A47 n48 c49,.slice A51 n52 c53,.int .u64 ((g.Ack:Nat):Int),.int .u64 ((g.Safe:Nat):Int)]) (.tmp rfl rfl) (hs89.at_ 1 rfl (0) rfl) rfl) ?_))))
 have hr96:kFrame.rep H90 g [.int .u8 ((g.Kind:Nat):Int),.int .i64 g.From,.int .u64 ((g.ID.N:Nat):Int),.int .i64 g.ID.P,.int .u16 ((g.Set:Nat):Int),.int .u64 ((g.Cur.N:Nat):Int),.int .i64 g.Cur.P,.int .u64 ((g.Prom.N:Nat):Int),.int .i64 g.Prom.P,.slice A42 n43 c44,.int .u64 ((g.Base:Nat):Int),.slice A47 n48 c49,.slice A51 n52 c53,.int .u64 ((g.Ack:Nat):Int),.int .u64 ((g.Safe:Nat):Int)]:=⟨A42,n43,c44,A47,n48,c49,A51,n52,c53,rfl,b29,⟨b30,b31⟩,b32,⟨b33,b34⟩,b35,b36,⟨b37,b38⟩,b39,⟨b40,b41⟩,(hl45.mono hle91),b46,(hl50.mono hle91),(hl54.mono hle91),b55,b56⟩
 refine st_c cb13 .func (evs1 (.tmp rfl rfl)) (encode_spec hs89 g hr96 (Nat.le_trans hb_g (by decide))) ?_
 rintro e w97 ⟨H99,v101,hle100,rfl,sm104,ok102,hs98⟩
 refine ⟨_,rfl,?_⟩
 refine st (v:=.tuple #[v101,.int .i64 ((encC g).2)]) (x_move (.tmp rfl rfl)) ?_
 refine st (v:=v101) (x_extract (.tmp rfl rfl) (i:=0) rfl) ?_
 refine st (v:=.int .i64 ((encC g).2)) (x_extract (.tmp rfl rfl) (i:=1) rfl) ?_
 refine st (v:=v101) (x_assign (.tmp rfl rfl)) ?_
 refine st (v:=.int .i64 ((encC g).2)) (x_assign (.tmp rfl rfl)) ?_
 refine c_nil (n_then (c_seq ?_))
 have hec_f:=enc_is hc82 hb_f hfb
 have hel_f:=encC_len f
 have hec_g:=enc_is hc86 hb_g hfb_g
 have hel_g:=encC_len g
 have hap:=apart hc82 hb_f hfb hc86 hb_g hfb_g
 have hs105:=hs98.p1
 obtain ⟨H106,A107,c108,hle109,hs110,rfl,hp111⟩:=hs105.freezeBs ok93 sm95 (by omega)
 have hy112:By H106 A107 (((encC f).1).length) c108 ((encC f).1):=⟨hp111,by omega⟩
 obtain ⟨H113,A114,c115,hle116,hs117,rfl,hp118⟩:=hs110.freezeBs ok102 sm104 (by omega)
 have hy119:By H113 A114 (((encC g).1).length) c115 ((encC g).1):=⟨hp118,by omega⟩
 refine q_region mixed hs117 (by kernel_rfl) ?_
 refine q_st (v:=.int .i64 ((encC f).2)) (fun w hs => (x_move (.tmp rfl rfl))) ?_
 refine q_st (v:=.bool (decide ((((encC f).2):Int) = 0))) (fun w hs => (x_eql (k:=.i64) (a:=((encC f).2)) (b:=0) (.tmp rfl rfl) .const)) ?_
 refine q_st (v:=.bool (decide ((((encC f).2):Int) = 0))) (fun w hs => (x_move (.tmp rfl rfl))) ?_
 have hc120:(decide ((((encC f).2):Int) = 0)) = true:=(decide_eq_true (by rw [hec_f]))
 refine q_yes (yk 42 true rfl rfl hc120) ?_
 refine q_st (v:=.int .i64 ((encC g).2)) (fun w hs => (x_move (.tmp rfl rfl))) ?_
 refine q_yes (yk 42 true rfl rfl hc120) ?_
 refine q_st (v:=.bool (decide ((((encC g).2):Int) = 0))) (fun w hs => (x_eql (k:=.i64) (a:=((encC g).2)) (b:=0) (.tmp rfl rfl) .const)) ?_
 refine q_st (v:=.bool (decide ((((encC g).2):Int) = 0))) (fun w hs => (x_pick_t (.tmp rfl (congrArg Value.bool hc120)) (.tmp rfl rfl))) ?_
 refine q_st (v:=.bool (decide ((((encC g).2):Int) = 0))) (fun w hs => (x_move (.tmp rfl rfl))) ?_
 have hc121:(decide ((((encC g).2):Int) = 0)) = true:=(decide_eq_true (by rw [hec_g]))
 refine q_yes (yk 46 true rfl rfl hc121) ?_
 refine q_st (v:=.slice A107 (((encC f).1).length) c108) (fun w hs => (x_move (.tmp rfl rfl))) ?_
 refine q_yes (yk 46 true rfl rfl hc121) ?_
 refine q_st (v:=.string (bstr ((encC f).1))) (fun w hs => ((hy112.toBs.mono hle116).str Try.underlying33 Try.underlying5 Try.underlying9 hs (.tmp rfl rfl))) ?_
 refine q_yes (yk 46 true rfl rfl hc121) ?_
 refine q_st (v:=.slice A114 (((encC g).1).length) c115) (fun w hs => (x_move (.tmp rfl rfl))) ?_
 refine q_yes (yk 46 true rfl rfl hc121) ?_
 refine q_st (v:=.string (bstr ((encC g).1))) (fun w hs => (hy119.toBs.str Try.underlying33 Try.underlying5 Try.underlying9 hs (.tmp rfl rfl))) ?_
 refine q_yes (yk 46 true rfl rfl hc121) ?_
 refine q_st (v:=.bool (decide ((bstr ((encC f).1)) = (bstr ((encC g).1))))) (fun w hs => (x_eqlS (.tmp rfl rfl) (.tmp rfl rfl))) ?_
 refine q_yes (yk 46 true rfl rfl hc121) ?_
 refine q_st (v:=.agg #[.int .u8 ((f.Kind:Nat):Int),.int .i64 f.From,.int .u64 ((f.ID.N:Nat):Int),.int .i64 f.ID.P,.int .u16 ((f.Set:Nat):Int),.int .u64 ((f.Cur.N:Nat):Int),.int .i64 f.Cur.P,.int .u64 ((f.Prom.N:Nat):Int),.int .i64 f.Prom.P,.slice A14 n15 c16,.int .u64 ((f.Base:Nat):Int),.slice A19 n20 c21,.slice A23 n24 c25,.int .u64 ((f.Ack:Nat):Int),.int .u64 ((f.Safe:Nat):Int)]) (fun w hs => (ld30 (cs:=[.int .u8 ((f.Kind:Nat):Int),.int .i64 f.From,.int .u64 ((f.ID.N:Nat):Int),.int .i64 f.ID.P,.int .u16 ((f.Set:Nat):Int),.int .u64 ((f.Cur.N:Nat):Int),.int .i64 f.Cur.P,.int .u64 ((f.Prom.N:Nat):Int),.int .i64 f.Prom.P,.slice A14 n15 c16,.int .u64 ((f.Base:Nat):Int),.slice A19 n20 c21,.slice A23 n24 c25,.int .u64 ((f.Ack:Nat):Int),.int .u64 ((f.Safe:Nat):Int)]) (.tmp rfl rfl) (hs.at_ 1 rfl (0) rfl) rfl)) ?_
 refine q_yes (yk 46 true rfl rfl hc121) ?_
 refine q_st (v:=.agg #[.int .u8 ((g.Kind:Nat):Int),.int .i64 g.From,.int .u64 ((g.ID.N:Nat):Int),.int .i64 g.ID.P,.int .u16 ((g.Set:Nat):Int),.int .u64 ((g.Cur.N:Nat):Int),.int .i64 g.Cur.P,.int .u64 ((g.Prom.N:Nat):Int),.int .i64 g.Prom.P,.slice A42 n43 c44,.int .u64 ((g.Base:Nat):Int),.slice A47 n48 c49,.slice A51 n52 c53,.int .u64 ((g.Ack:Nat):Int),.int .u64 ((g.Safe:Nat):Int)]) (fun w hs => (ld30 (cs:=[.int .u8 ((g.Kind:Nat):Int),.int .i64 g.From,.int .u64 ((g.ID.N:Nat):Int),.int .i64 g.ID.P,.int .u16 ((g.Set:Nat):Int),.int .u64 ((g.Cur.N:Nat):Int),.int .i64 g.Cur.P,.int .u64 ((g.Prom.N:Nat):Int),.int .i64 g.Prom.P,.slice A42 n43 c44,.int .u64 ((g.Base:Nat):Int),.slice A47 n48 c49,.slice A51 n52 c53,.int .u64 ((g.Ack:Nat):Int),.int .u64 ((g.Safe:Nat):Int)]) (.tmp rfl rfl) (hs.at_ 0 rfl (0) rfl) rfl)) ?_
 refine q_yes (yk 46 true rfl rfl hc121) ?_
 refine q_c (v:=.bool (decide (f = g))) cb14 .func (evs2 (.tmp rfl rfl) (.tmp rfl rfl)) (fun w hs => same_frame hs f (k_a:=[.int .u8 ((f.Kind:Nat):Int),.int .i64 f.From,.int .u64 ((f.ID.N:Nat):Int),.int .i64 f.ID.P,.int .u16 ((f.Set:Nat):Int),.int .u64 ((f.Cur.N:Nat):Int),.int .i64 f.Cur.P,.int .u64 ((f.Prom.N:Nat):Int),.int .i64 f.Prom.P,.slice A14 n15 c16,.int .u64 ((f.Base:Nat):Int),.slice A19 n20 c21,.slice A23 n24 c25,.int .u64 ((f.Ack:Nat):Int),.int .u64 ((f.Safe:Nat):Int)]) ⟨A14,n15,c16,A19,n20,c21,A23,n24,c25,rfl,b1,⟨b2,b3⟩,b4,⟨b5,b6⟩,b7,b8,⟨b9,b10⟩,b11,⟨b12,b13⟩,((((hl17.mono hle91).mono hle100).mono hle109).mono hle116),b18,((((hl22.mono hle91).mono hle100).mono hle109).mono hle116),((((hl26.mono hle91).mono hle100).mono hle109).mono hle116),b27,b28⟩ g (k_b:=[.int .u8 ((g.Kind:Nat):Int),.int .i64 g.From,.int .u64 ((g.ID.N:Nat):Int),.int .i64 g.ID.P,.int .u16 ((g.Set:Nat):Int),.int .u64 ((g.Cur.N:Nat):Int),.int .i64 g.Cur.P,.int .u64 ((g.Prom.N:Nat):Int),.int .i64 g.Prom.P,.slice A42 n43 c44,.int .u64 ((g.Base:Nat):Int),.slice A47 n48 c49,.slice A51 n52 c53,.int .u64 ((g.Ack:Nat):Int),.int .u64 ((g.Safe:Nat):Int)]) ⟨A42,n43,c44,A47,n48,c49,A51,n52,c53,rfl,b29,⟨b30,b31⟩,b32,⟨b33,b34⟩,b35,b36,⟨b37,b38⟩,b39,⟨b40,b41⟩,((((hl45.mono hle91).mono hle100).mono hle109).mono hle116),b46,((((hl50.mono hle91).mono hle100).mono hle109).mono hle116),((((hl54.mono hle91).mono hle100).mono hle109).mono hle116),b55,b56⟩ ) ?_
 refine q_yes (yk 46 true rfl rfl hc121) ?_
 refine q_st (v:=.bool ((decide ((bstr ((encC f).1)) = (bstr ((encC g).1)))) == (decide (f = g)))) (fun w hs => (x_eqlB Try.underlying4 (.tmp rfl rfl) (.tmp rfl rfl))) ?_
 refine q_st (v:=.bool ((decide ((bstr ((encC f).1)) = (bstr ((encC g).1)))) == (decide (f = g)))) (fun w hs => (x_pick_t (.tmp rfl (congrArg Value.bool hc121)) (.tmp rfl rfl))) ?_
 refine q_st (v:=.bool ((decide ((bstr ((encC f).1)) = (bstr ((encC g).1)))) == (decide (f = g)))) (fun w hs => (x_assign (.tmp rfl rfl))) ?_
 refine q_nil ?_
 intro w hs124
 refine n_then (c_ret (leave_ret (res_one (v:=.bool ((decide ((bstr ((encC f).1)) = (bstr ((encC g).1)))) == (decide (f = g)))) rfl (.mk rfl rfl)) ?_))
 have hyes:((decide ((bstr ((encC f).1)) = (bstr ((encC g).1)))) == (decide (f = g))) = true:=(beq_iff_eq.2 (decide_eq_decide.2 ((bstr_inj ((hy112.mono hle116)).lt (hy119).lt).trans hap)))
 rw [hyes]
 exact ⟨rfl,(hs124.drop.drop.weaken (((hle91.trans hle100).trans hle109).trans hle116))⟩
 refine c_cond_t (t:=true) (.tmp rfl (congrArg Value.bool (by rw [hc86]; rfl))) rfl ?_
 refine c_seq (c_region (st_c cb11 .func (evs0 ) (awake_spec hs85  ) ?_))
 rintro e w125 ⟨rfl,hs126⟩
 refine ⟨_,rfl,?_⟩
 refine st (v:=.bool true) (x_assign (.tmp rfl rfl)) ?_
 refine c_nil (n_then (c_ret (r_then (leave_ret (res_one (v:=.bool true) rfl (.mk rfl rfl)) ?_))))
 exact ⟨rfl,hs126.drop.drop⟩
 refine g_no (yl (dj:=24) (b:=true) rfl rfl (congrArg Value.bool (by rw [hc82]; rfl))) rfl ?_
 refine g_no (yl (dj:=24) (b:=true) rfl rfl (congrArg Value.bool (by rw [hc82]; rfl))) rfl ?_
 refine g_no (yl (dj:=24) (b:=true) rfl rfl (congrArg Value.bool (by rw [hc82]; rfl))) rfl ?_
 refine st (v:=.bool true) (x_pick_t (.tmp rfl (congrArg Value.bool (by rw [hc82]; rfl))) .const) ?_
 refine c_nil (n_then (c_cond_t (t:=true) (.tmp rfl rfl) rfl ?_))
 refine c_seq (c_region (st_c cb11 .func (evs0 ) (awake_spec hs81  ) ?_))
 rintro e w127 ⟨rfl,hs128⟩
 refine ⟨_,rfl,?_⟩
 refine st (v:=.bool true) (x_assign (.tmp rfl rfl)) ?_
 refine c_nil (n_then (c_ret (r_then (leave_ret (res_one (v:=.bool true) rfl (.mk rfl rfl)) ?_))))
 exact ⟨rfl,hs128.drop.drop⟩
end Go.Proofs.Ytlfihfmmhhcigaa
