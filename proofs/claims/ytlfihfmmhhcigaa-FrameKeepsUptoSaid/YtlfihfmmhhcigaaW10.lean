/- Steps of the proofs over the functions of this seat, printed by a program (gen.py) and checked by Lean. -/
import Derived.Test.YtlfihfmmhhcigaaW02
import Derived.Test.YtlfihfmmhhcigaaW00
import Derived.Test.YtlfihfmmhhcigaaW01
import Derived.Test.YtlfihfmmhhcigaaW09
set_option linter.unusedVariables false
set_option linter.unusedSimpArgs false
namespace Go.Proofs.Ytlfihfmmhhcigaa
open Go Go.FM Go.Proofs
attribute [local irreducible] wpList wpQuiet wpS Code.wp Calls
set_option maxHeartbeats 8000000 in
theorem same_frame {H:Hp} {w:World} {L:List Res} (hs:St H w (L)) (a:GFrame) {k_a:List Value} (h_a:kFrame.rep H a k_a) (b:GFrame) {k_b:List Value} (h_b:kFrame.rep H b k_b):Calls Try.prog 14 #[.agg k_a.toArray,.agg k_b.toArray] w (fun e w' => e = .returned (.bool (decide (a = b)))∧St H w' (L)):=by
 obtain ⟨A14,n15,c16,A19,n20,c21,A23,n24,c25,rfl,b1,⟨b2,b3⟩,b4,⟨b5,b6⟩,b7,b8,⟨b9,b10⟩,b11,⟨b12,b13⟩,hl17,b18,hl22,hl26,b27,b28⟩:=h_a
 have:=hl17.len; have:n15 * 48 ≤ 140737488351232:=hl17.bnd; have:=hl17.le
 have:=hl22.len; have:n20 * 24 ≤ 140737488351232:=hl22.bnd; have:=hl22.le
 have:=hl26.len; have:n24 * 32 ≤ 140737488351232:=hl26.bnd; have:=hl26.le
 obtain ⟨A42,n43,c44,A47,n48,c49,A51,n52,c53,rfl,b29,⟨b30,b31⟩,b32,⟨b33,b34⟩,b35,b36,⟨b37,b38⟩,b39,⟨b40,b41⟩,hl45,b46,hl50,hl54,b55,b56⟩:=h_b
 have:=hl45.len; have:n43 * 48 ≤ 140737488351232:=hl45.bnd; have:=hl45.le
 have:=hl50.len; have:n48 * 24 ≤ 140737488351232:=hl50.bnd; have:=hl50.le
 have:=hl54.len; have:n52 * 32 ≤ 140737488351232:=hl54.bnd; have:=hl54.le
 refine enter (args:=[.agg #[.int .u8 ((a.Kind:Nat):Int),.int .i64 a.From,.int .u64 ((a.ID.N:Nat):Int),.int .i64 a.ID.P,.int .u16 ((a.Set:Nat):Int),.int .u64 ((a.Cur.N:Nat):Int),.int .i64 a.Cur.P,.int .u64 ((a.Prom.N:Nat):Int),.int .i64 a.Prom.P,.slice A14 n15 c16,.int .u64 ((a.Base:Nat):Int),.slice A19 n20 c21,.slice A23 n24 c25,.int .u64 ((a.Ack:Nat):Int),.int .u64 ((a.Safe:Nat):Int)],.agg #[.int .u8 ((b.Kind:Nat):Int),.int .i64 b.From,.int .u64 ((b.ID.N:Nat):Int),.int .i64 b.ID.P,.int .u16 ((b.Set:Nat):Int),.int .u64 ((b.Cur.N:Nat):Int),.int .i64 b.Cur.P,.int .u64 ((b.Prom.N:Nat):Int),.int .i64 b.Prom.P,.slice A42 n43 c44,.int .u64 ((b.Base:Nat):Int),.slice A47 n48 c49,.slice A51 n52 c53,.int .u64 ((b.Ack:Nat):Int),.int .u64 ((b.Safe:Nat):Int)]]) (N:=108) Try.func14 rfl rfl rfl ?_
 refine c_seq (c_region (st_m (m_box (cs:=[.int .u8 ((a.Kind:Nat):Int),.int .i64 a.From,.int .u64 ((a.ID.N:Nat):Int),.int .i64 a.ID.P,.int .u16 ((a.Set:Nat):Int),.int .u64 ((a.Cur.N:Nat):Int),.int .i64 a.Cur.P,.int .u64 ((a.Prom.N:Nat):Int),.int .i64 a.Prom.P,.slice A14 n15 c16,.int .u64 ((a.Base:Nat):Int),.slice A19 n20 c21,.slice A23 n24 c25,.int .u64 ((a.Ack:Nat):Int),.int .u64 ((a.Safe:Nat):Int)]) hs (v:=.agg #[.int .u8 ((a.Kind:Nat):Int),.int .i64 a.From,.int .u64 ((a.ID.N:Nat):Int),.int .i64 a.ID.P,.int .u16 ((a.Set:Nat):Int),.int .u64 ((a.Cur.N:Nat):Int),.int .i64 a.Cur.P,.int .u64 ((a.Prom.N:Nat):Int),.int .i64 a.Prom.P,.slice A14 n15 c16,.int .u64 ((a.Base:Nat):Int),.slice A19 n20 c21,.slice A23 n24 c25,.int .u64 ((a.Ack:Nat):Int),.int .u64 ((a.Safe:Nat):Int)]) (.tmp rfl rfl) rfl) ?_))
 rintro _ w58 ⟨g57,rfl,hs60⟩
 refine st_m (m_box (cs:=[.int .u8 ((b.Kind:Nat):Int),.int .i64 b.From,.int .u64 ((b.ID.N:Nat):Int),.int .i64 b.ID.P,.int .u16 ((b.Set:Nat):Int),.int .u64 ((b.Cur.N:Nat):Int),.int .i64 b.Cur.P,.int .u64 ((b.Prom.N:Nat):Int),.int .i64 b.Prom.P,.slice A42 n43 c44,.int .u64 ((b.Base:Nat):Int),.slice A47 n48 c49,.slice A51 n52 c53,.int .u64 ((b.Ack:Nat):Int),.int .u64 ((b.Safe:Nat):Int)]) hs60 (v:=.agg #[.int .u8 ((b.Kind:Nat):Int),.int .i64 b.From,.int .u64 ((b.ID.N:Nat):Int),.int .i64 b.ID.P,.int .u16 ((b.Set:Nat):Int),.int .u64 ((b.Cur.N:Nat):Int),.int .i64 b.Cur.P,.int .u64 ((b.Prom.N:Nat):Int),.int .i64 b.Prom.P,.slice A42 n43 c44,.int .u64 ((b.Base:Nat):Int),.slice A47 n48 c49,.slice A51 n52 c53,.int .u64 ((b.Ack:Nat):Int),.int .u64 ((b.Safe:Nat):Int)]) (.tmp rfl rfl) rfl) ?_
 rintro _ w62 ⟨g61,rfl,hs64⟩
 refine st (v:=.bool false) (x_assign .const) ?_
 refine c_nil (n_then (c_seq (c_seq (c_region (st (v:=.pointer (some ⟨g57,0 + 0,none⟩)) (fa30_0 (.tmp rfl rfl)) ?_)))))
 refine st (v:=.int .u8 ((a.Kind:Nat):Int)) (ld5 (.tmp rfl rfl) (hs64.cell 1 rfl (0 + 0) rfl)) ?_
 refine st (v:=.pointer (some ⟨g61,0 + 0,none⟩)) (fa30_0 (.tmp rfl rfl)) ?_
 refine st (v:=.int .u8 ((b.Kind:Nat):Int)) (ld5 (.tmp rfl rfl) (hs64.cell 0 rfl (0 + 0) rfl)) ?_
 refine st (v:=.bool (decide ((((a.Kind:Nat):Int):Int) ≠ ((b.Kind:Nat):Int)))) (x_neq (k:=.u8) (a:=((a.Kind:Nat):Int)) (b:=((b.Kind:Nat):Int)) (.tmp rfl rfl) (.tmp rfl rfl)) ?_
 refine st (v:=.bool (decide ((((a.Kind:Nat):Int):Int) ≠ ((b.Kind:Nat):Int)))) (x_move (.tmp rfl rfl)) ?_
 refine jw 6 (fun ρ w => ρ 17 = .bool ((decide ((((a.Kind:Nat):Int):Int) ≠ ((b.Kind:Nat):Int))) || (decide ((a.From:Int) ≠ b.From)))∧ρ 2 = .pointer (some ⟨g57,0,none⟩)∧ρ 3 = .pointer (some ⟨g61,0,none⟩)∧St H w (obj g61 30 [.int .u8 ((b.Kind:Nat):Int),.int .i64 b.From,.int .u64 ((b.ID.N:Nat):Int),.int .i64 b.ID.P,.int .u16 ((b.Set:Nat):Int),.int .u64 ((b.Cur.N:Nat):Int),.int .i64 b.Cur.P,.int .u64 ((b.Prom.N:Nat):Int),.int .i64 b.Prom.P,.slice A42 n43 c44,.int .u64 ((b.Base:Nat):Int),.slice A47 n48 c49,.slice A51 n52 c53,.int .u64 ((b.Ack:Nat):Int),.int .u64 ((b.Safe:Nat):Int)]::obj g57 30 [.int .u8 ((a.Kind:Nat):Int),.int .i64 a.From,.int .u64 ((a.ID.N:Nat):Int),.int .i64 a.ID.P,.int .u16 ((a.Set:Nat):Int),.int .u64 ((a.Cur.N:Nat):Int),.int .i64 a.Cur.P,.int .u64 ((a.Prom.N:Nat):Int),.int .i64 a.Prom.P,.slice A14 n15 c16,.int .u64 ((a.Base:Nat):Int),.slice A19 n20 c21,.slice A23 n24 c25,.int .u64 ((a.Ack:Nat):Int),.int .u64 ((a.Safe:Nat):Int)]::L)) ?_ ?_
 rcases Bool.eq_false_or_eq_true (decide ((((a.Kind:Nat):Int):Int) ≠ ((b.Kind:Nat):Int))) with hc65 | hc65
 have hp65:(((a.Kind:Nat):Int):Int) ≠ ((b.Kind:Nat):Int):=of_decide_eq_true hc65
 refine g_no (yk 11 true rfl rfl hc65) rfl ?_
 refine g_no (yk 11 true rfl rfl hc65) rfl ?_
 refine g_no (yk 11 true rfl rfl hc65) rfl ?_
 refine g_no (yk 11 true rfl rfl hc65) rfl ?_
 refine g_no (yk 11 true rfl rfl hc65) rfl ?_
 refine st (v:=.bool true) (x_pick_t (.tmp rfl (cVb hc65)) .const) ?_
 exact jw_end ⟨(cVb (jor_t hc65)),rfl,rfl,hs64⟩
 have hp65:¬ ((((a.Kind:Nat):Int):Int) ≠ ((b.Kind:Nat):Int)):=of_decide_eq_false hc65
 refine g_yes (yk 11 false rfl rfl hc65) ?_
 refine st (v:=.pointer (some ⟨g57,0 + 1,none⟩)) (fa30_1 (.tmp rfl rfl)) ?_
 refine g_yes (yk 11 false rfl rfl hc65) ?_
 refine st (v:=.int .i64 a.From) (ld3 (.tmp rfl rfl) (hs64.cell 1 rfl (0 + 1) rfl)) ?_
 refine g_yes (yk 11 false rfl rfl hc65) ?_
 refine st (v:=.pointer (some ⟨g61,0 + 1,none⟩)) (fa30_1 (.tmp rfl rfl)) ?_
 refine g_yes (yk 11 false rfl rfl hc65) ?_
 refine st (v:=.int .i64 b.From) (ld3 (.tmp rfl rfl) (hs64.cell 0 rfl (0 + 1) rfl)) ?_
 refine g_yes (yk 11 false rfl rfl hc65) ?_
 refine st (v:=.bool (decide ((a.From:Int) ≠ b.From))) (x_neq (k:=.i64) (a:=a.From) (b:=b.From) (.tmp rfl rfl) (.tmp rfl rfl)) ?_
 refine st (v:=.bool (decide ((a.From:Int) ≠ b.From))) (x_pick_f (.tmp rfl (cVb hc65)) (.tmp rfl rfl)) ?_
 exact jw_end ⟨(cVb (jor_f hc65)),rfl,rfl,hs64⟩
 rintro ρ w ⟨hρ66,hρ67,hρ68,hs69⟩
 refine st (v:=.bool ((decide ((((a.Kind:Nat):Int):Int) ≠ ((b.Kind:Nat):Int))) || (decide ((a.From:Int) ≠ b.From)))) (x_move (.tmp rfl hρ66)) ?_
 refine jw 6 (fun ρ w => ρ 24 = .bool (((decide ((((a.Kind:Nat):Int):Int) ≠ ((b.Kind:Nat):Int))) || (decide ((a.From:Int) ≠ b.From))) || (!(decide (a.ID = b.ID))))∧ρ 2 = .pointer (some ⟨g57,0,none⟩)∧ρ 3 = .pointer (some ⟨g61,0,none⟩)∧St H w (obj g61 30 [.int .u8 ((b.Kind:Nat):Int),.int .i64 b.From,.int .u64 ((b.ID.N:Nat):Int),.int .i64 b.ID.P,.int .u16 ((b.Set:Nat):Int),.int .u64 ((b.Cur.N:Nat):Int),.int .i64 b.Cur.P,.int .u64 ((b.Prom.N:Nat):Int),.int .i64 b.Prom.P,.slice A42 n43 c44,.int .u64 ((b.Base:Nat):Int),.slice A47 n48 c49,.slice A51 n52 c53,.int .u64 ((b.Ack:Nat):Int),.int .u64 ((b.Safe:Nat):Int)]::obj g57 30 [.int .u8 ((a.Kind:Nat):Int),.int .i64 a.From,.int .u64 ((a.ID.N:Nat):Int),.int .i64 a.ID.P,.int .u16 ((a.Set:Nat):Int),.int .u64 ((a.Cur.N:Nat):Int),.int .i64 a.Cur.P,.int .u64 ((a.Prom.N:Nat):Int),.int .i64 a.Prom.P,.slice A14 n15 c16,.int .u64 ((a.Base:Nat):Int),.slice A19 n20 c21,.slice A23 n24 c25,.int .u64 ((a.Ack:Nat):Int),.int .u64 ((a.Safe:Nat):Int)]::L)) ?_ ?_
 rcases Bool.eq_false_or_eq_true ((decide ((((a.Kind:Nat):Int):Int) ≠ ((b.Kind:Nat):Int))) || (decide ((a.From:Int) ≠ b.From))) with hc70 | hc70
 have hp70:((((a.Kind:Nat):Int):Int) ≠ ((b.Kind:Nat):Int)) ∨ ((a.From:Int) ≠ b.From):=((J_or decide_eq_true_iff decide_eq_true_iff)).1 hc70
 refine g_no (yk 18 true rfl rfl hc70) rfl ?_
 refine g_no (yk 18 true rfl rfl hc70) rfl ?_
 refine g_no (yk 18 true rfl rfl hc70) rfl ?_
 refine g_no (yk 18 true rfl rfl hc70) rfl ?_
 refine g_no (yk 18 true rfl rfl hc70) rfl ?_
 refine st (v:=.bool true) (x_pick_t (.tmp rfl (cVb hc70)) .const) ?_
 exact jw_end ⟨(cVb (jor_t hc70)),hρ67,hρ68,hs69⟩
 have hp70:¬ (((((a.Kind:Nat):Int):Int) ≠ ((b.Kind:Nat):Int)) ∨ ((a.From:Int) ≠ b.From)):=J_no (J_or decide_eq_true_iff decide_eq_true_iff) hc70
 refine g_yes (yk 18 false rfl rfl hc70) ?_
 refine st (v:=.pointer (some ⟨g57,0 + 2,none⟩)) (fa30_2 (.tmp rfl hρ67)) ?_
 refine g_yes (yk 18 false rfl rfl hc70) ?_
 refine st (v:=.agg #[.int .u64 ((a.ID.N:Nat):Int),.int .i64 a.ID.P]) (ld24 (cs:=[.int .u64 ((a.ID.N:Nat):Int),.int .i64 a.ID.P]) (.tmp rfl rfl) (hs69.at_ 1 rfl (0 + 2) rfl) rfl) ?_
 refine g_yes (yk 18 false rfl rfl hc70) ?_
 refine st (v:=.pointer (some ⟨g61,0 + 2,none⟩)) (fa30_2 (.tmp rfl hρ68)) ?_
 refine g_yes (yk 18 false rfl rfl hc70) ?_
 refine st (v:=.agg #[.int .u64 ((b.ID.N:Nat):Int),.int .i64 b.ID.P]) (ld24 (cs:=[.int .u64 ((b.ID.N:Nat):Int),.int .i64 b.ID.P]) (.tmp rfl rfl) (hs69.at_ 0 rfl (0 + 2) rfl) rfl) ?_
 refine g_yes (yk 18 false rfl rfl hc70) ?_
 refine st (v:=.bool (!((((a.ID.N:Nat):Int) == ((b.ID.N:Nat):Int)) && ((a.ID.P == b.ID.P) && true)))) (x_neqA eqg24 (.tmp rfl rfl) (.tmp rfl rfl) (fun d => eqs24 (d + 98) _ ((a.ID.N:Nat):Int) ((b.ID.N:Nat):Int) a.ID.P b.ID.P)) ?_
 refine st (v:=.bool (!(decide (a.ID = b.ID)))) (x_pick_f (.tmp rfl (cVb hc70)) (.tmp rfl (congrArg (fun z => Value.bool (!z)) (GViewID.beq_dec a.ID b.ID)))) ?_
 exact jw_end ⟨(cVb (jor_f hc70)),hρ67,hρ68,hs69⟩
 rintro ρ w ⟨hρ71,hρ72,hρ73,hs74⟩
 refine st (v:=.bool (((decide ((((a.Kind:Nat):Int):Int) ≠ ((b.Kind:Nat):Int))) || (decide ((a.From:Int) ≠ b.From))) || (!(decide (a.ID = b.ID))))) (x_move (.tmp rfl hρ71)) ?_
 refine jw 6 (fun ρ w => ρ 31 = .bool ((((decide ((((a.Kind:Nat):Int):Int) ≠ ((b.Kind:Nat):Int))) || (decide ((a.From:Int) ≠ b.From))) || (!(decide (a.ID = b.ID)))) || (decide ((((a.Set:Nat):Int):Int) ≠ ((b.Set:Nat):Int))))∧ρ 2 = .pointer (some ⟨g57,0,none⟩)∧ρ 3 = .pointer (some ⟨g61,0,none⟩)∧St H w (obj g61 30 [.int .u8 ((b.Kind:Nat):Int),.int .i64 b.From,.int .u64 ((b.ID.N:Nat):Int),.int .i64 b.ID.P,.int .u16 ((b.Set:Nat):Int),.int .u64 ((b.Cur.N:Nat):Int),.int .i64 b.Cur.P,.int .u64 ((b.Prom.N:Nat):Int),.int .i64 b.Prom.P,.slice A42 n43 c44,.int .u64 ((b.Base:Nat):Int),.slice A47 n48 c49,.slice A51 n52 c53,.int .u64 ((b.Ack:Nat):Int),.int .u64 ((b.Safe:Nat):Int)]::obj g57 30 [.int .u8 ((a.Kind:Nat):Int),.int .i64 a.From,.int .u64 ((a.ID.N:Nat):Int),.int .i64 a.ID.P,.int .u16 ((a.Set:Nat):Int),.int .u64 ((a.Cur.N:Nat):Int),.int .i64 a.Cur.P,.int .u64 ((a.Prom.N:Nat):Int),.int .i64 a.Prom.P,.slice A14 n15 c16,.int .u64 ((a.Base:Nat):Int),.slice A19 n20 c21,.slice A23 n24 c25,.int .u64 ((a.Ack:Nat):Int),.int .u64 ((a.Safe:Nat):Int)]::L)) ?_ ?_
 rcases Bool.eq_false_or_eq_true (((decide ((((a.Kind:Nat):Int):Int) ≠ ((b.Kind:Nat):Int))) || (decide ((a.From:Int) ≠ b.From))) || (!(decide (a.ID = b.ID)))) with hc75 | hc75
 have hp75:(((((a.Kind:Nat):Int):Int) ≠ ((b.Kind:Nat):Int)) ∨ ((a.From:Int) ≠ b.From)) ∨ (¬ (a.ID = b.ID)):=((J_or (J_or decide_eq_true_iff decide_eq_true_iff) (J_not decide_eq_true_iff))).1 hc75
 refine g_no (yk 25 true rfl rfl hc75) rfl ?_
 refine g_no (yk 25 true rfl rfl hc75) rfl ?_
 refine g_no (yk 25 true rfl rfl hc75) rfl ?_
 refine g_no (yk 25 true rfl rfl hc75) rfl ?_
 refine g_no (yk 25 true rfl rfl hc75) rfl ?_
 refine st (v:=.bool true) (x_pick_t (.tmp rfl (cVb hc75)) .const) ?_
 exact jw_end ⟨(cVb (jor_t hc75)),hρ72,hρ73,hs74⟩
 have hp75:¬ ((((((a.Kind:Nat):Int):Int) ≠ ((b.Kind:Nat):Int)) ∨ ((a.From:Int) ≠ b.From)) ∨ (¬ (a.ID = b.ID))):=J_no (J_or (J_or decide_eq_true_iff decide_eq_true_iff) (J_not decide_eq_true_iff)) hc75
 refine g_yes (yk 25 false rfl rfl hc75) ?_
 refine st (v:=.pointer (some ⟨g57,0 + 4,none⟩)) (fa30_3 (.tmp rfl hρ72)) ?_
 refine g_yes (yk 25 false rfl rfl hc75) ?_
 refine st (v:=.int .u16 ((a.Set:Nat):Int)) (ld25 (.tmp rfl rfl) (hs74.cell 1 rfl (0 + 4) rfl)) ?_
 refine g_yes (yk 25 false rfl rfl hc75) ?_
 refine st (v:=.pointer (some ⟨g61,0 + 4,none⟩)) (fa30_3 (.tmp rfl hρ73)) ?_
 refine g_yes (yk 25 false rfl rfl hc75) ?_
 refine st (v:=.int .u16 ((b.Set:Nat):Int)) (ld25 (.tmp rfl rfl) (hs74.cell 0 rfl (0 + 4) rfl)) ?_
 refine g_yes (yk 25 false rfl rfl hc75) ?_
 refine st (v:=.bool (decide ((((a.Set:Nat):Int):Int) ≠ ((b.Set:Nat):Int)))) (x_neq (k:=.u16) (a:=((a.Set:Nat):Int)) (b:=((b.Set:Nat):Int)) (.tmp rfl rfl) (.tmp rfl rfl)) ?_
 refine st (v:=.bool (decide ((((a.Set:Nat):Int):Int) ≠ ((b.Set:Nat):Int)))) (x_pick_f (.tmp rfl (cVb hc75)) (.tmp rfl rfl)) ?_
 exact jw_end ⟨(cVb (jor_f hc75)),hρ72,hρ73,hs74⟩
 rintro ρ w ⟨hρ76,hρ77,hρ78,hs79⟩
 refine st (v:=.bool ((((decide ((((a.Kind:Nat):Int):Int) ≠ ((b.Kind:Nat):Int))) || (decide ((a.From:Int) ≠ b.From))) || (!(decide (a.ID = b.ID)))) || (decide ((((a.Set:Nat):Int):Int) ≠ ((b.Set:Nat):Int))))) (x_move (.tmp rfl hρ76)) ?_
 refine jw 6 (fun ρ w => ρ 38 = .bool (((((decide ((((a.Kind:Nat):Int):Int) ≠ ((b.Kind:Nat):Int))) || (decide ((a.From:Int) ≠ b.From))) || (!(decide (a.ID = b.ID)))) || (decide ((((a.Set:Nat):Int):Int) ≠ ((b.Set:Nat):Int)))) || (!(decide (a.Cur = b.Cur))))∧ρ 2 = .pointer (some ⟨g57,0,none⟩)∧ρ 3 = .pointer (some ⟨g61,0,none⟩)∧St H w (obj g61 30 [.int .u8 ((b.Kind:Nat):Int),.int .i64 b.From,.int .u64 ((b.ID.N:Nat):Int),.int .i64 b.ID.P,.int .u16 ((b.Set:Nat):Int),.int .u64 ((b.Cur.N:Nat):Int),.int .i64 b.Cur.P,.int .u64 ((b.Prom.N:Nat):Int),.int .i64 b.Prom.P,.slice A42 n43 c44,.int .u64 ((b.Base:Nat):Int),.slice A47 n48 c49,.slice A51 n52 c53,.int .u64 ((b.Ack:Nat):Int),.int .u64 ((b.Safe:Nat):Int)]::obj g57 30 [.int .u8 ((a.Kind:Nat):Int),.int .i64 a.From,.int .u64 ((a.ID.N:Nat):Int),.int .i64 a.ID.P,.int .u16 ((a.Set:Nat):Int),.int .u64 ((a.Cur.N:Nat):Int),.int .i64 a.Cur.P,.int .u64 ((a.Prom.N:Nat):Int),.int .i64 a.Prom.P,.slice A14 n15 c16,.int .u64 ((a.Base:Nat):Int),.slice A19 n20 c21,.slice A23 n24 c25,.int .u64 ((a.Ack:Nat):Int),.int .u64 ((a.Safe:Nat):Int)]::L)) ?_ ?_
 rcases Bool.eq_false_or_eq_true ((((decide ((((a.Kind:Nat):Int):Int) ≠ ((b.Kind:Nat):Int))) || (decide ((a.From:Int) ≠ b.From))) || (!(decide (a.ID = b.ID)))) || (decide ((((a.Set:Nat):Int):Int) ≠ ((b.Set:Nat):Int)))) with hc80 | hc80
 have hp80:((((((a.Kind:Nat):Int):Int) ≠ ((b.Kind:Nat):Int)) ∨ ((a.From:Int) ≠ b.From)) ∨ (¬ (a.ID = b.ID))) ∨ ((((a.Set:Nat):Int):Int) ≠ ((b.Set:Nat):Int)):=((J_or (J_or (J_or decide_eq_true_iff decide_eq_true_iff) (J_not decide_eq_true_iff)) decide_eq_true_iff)).1 hc80
 refine g_no (yk 32 true rfl rfl hc80) rfl ?_
 refine g_no (yk 32 true rfl rfl hc80) rfl ?_
 refine g_no (yk 32 true rfl rfl hc80) rfl ?_
 refine g_no (yk 32 true rfl rfl hc80) rfl ?_
 refine g_no (yk 32 true rfl rfl hc80) rfl ?_
 refine st (v:=.bool true) (x_pick_t (.tmp rfl (cVb hc80)) .const) ?_
 exact jw_end ⟨(cVb (jor_t hc80)),hρ77,hρ78,hs79⟩
 have hp80:¬ (((((((a.Kind:Nat):Int):Int) ≠ ((b.Kind:Nat):Int)) ∨ ((a.From:Int) ≠ b.From)) ∨ (¬ (a.ID = b.ID))) ∨ ((((a.Set:Nat):Int):Int) ≠ ((b.Set:Nat):Int))):=J_no (J_or (J_or (J_or decide_eq_true_iff decide_eq_true_iff) (J_not decide_eq_true_iff)) decide_eq_true_iff) hc80
 refine g_yes (yk 32 false rfl rfl hc80) ?_
 refine st (v:=.pointer (some ⟨g57,0 + 5,none⟩)) (fa30_4 (.tmp rfl hρ77)) ?_
 refine g_yes (yk 32 false rfl rfl hc80) ?_
 refine st (v:=.agg #[.int .u64 ((a.Cur.N:Nat):Int),.int .i64 a.Cur.P]) (ld24 (cs:=[.int .u64 ((a.Cur.N:Nat):Int),.int .i64 a.Cur.P]) (.tmp rfl rfl) (hs79.at_ 1 rfl (0 + 5) rfl) rfl) ?_
 refine g_yes (yk 32 false rfl rfl hc80) ?_
 refine st (v:=.pointer (some ⟨g61,0 + 5,none⟩)) (fa30_4 (.tmp rfl hρ78)) ?_
 refine g_yes (yk 32 false rfl rfl hc80) ?_
 refine st (v:=.agg #[.int .u64 ((b.Cur.N:Nat):Int),.int .i64 b.Cur.P]) (ld24 (cs:=[.int .u64 ((b.Cur.N:Nat):Int),.int .i64 b.Cur.P]) (.tmp rfl rfl) (hs79.at_ 0 rfl (0 + 5) rfl) rfl) ?_
 refine g_yes (yk 32 false rfl rfl hc80) ?_
 refine st (v:=.bool (!((((a.Cur.N:Nat):Int) == ((b.Cur.N:Nat):Int)) && ((a.Cur.P == b.Cur.P) && true)))) (x_neqA eqg24 (.tmp rfl rfl) (.tmp rfl rfl) (fun d => eqs24 (d + 98) _ ((a.Cur.N:Nat):Int) ((b.Cur.N:Nat):Int) a.Cur.P b.Cur.P)) ?_
 refine st (v:=.bool (!(decide (a.Cur = b.Cur)))) (x_pick_f (.tmp rfl (cVb hc80)) (.tmp rfl (congrArg (fun z => Value.bool (!z)) (GViewID.beq_dec a.Cur b.Cur)))) ?_
 exact jw_end ⟨(cVb (jor_f hc80)),hρ77,hρ78,hs79⟩
 rintro ρ w ⟨hρ81,hρ82,hρ83,hs84⟩
 refine st (v:=.bool (((((decide ((((a.Kind:Nat):Int):Int) ≠ ((b.Kind:Nat):Int))) || (decide ((a.From:Int) ≠ b.From))) || (!(decide (a.ID = b.ID)))) || (decide ((((a.Set:Nat):Int):Int) ≠ ((b.Set:Nat):Int)))) || (!(decide (a.Cur = b.Cur))))) (x_move (.tmp rfl hρ81)) ?_
 refine jw 6 (fun ρ w => ρ 45 = .bool ((((((decide ((((a.Kind:Nat):Int):Int) ≠ ((b.Kind:Nat):Int))) || (decide ((a.From:Int) ≠ b.From))) || (!(decide (a.ID = b.ID)))) || (decide ((((a.Set:Nat):Int):Int) ≠ ((b.Set:Nat):Int)))) || (!(decide (a.Cur = b.Cur)))) || (!(decide (a.Prom = b.Prom))))∧ρ 2 = .pointer (some ⟨g57,0,none⟩)∧ρ 3 = .pointer (some ⟨g61,0,none⟩)∧St H w (obj g61 30 [.int .u8 ((b.Kind:Nat):Int),.int .i64 b.From,.int .u64 ((b.ID.N:Nat):Int),.int .i64 b.ID.P,.int .u16 ((b.Set:Nat):Int),.int .u64 ((b.Cur.N:Nat):Int),.int .i64 b.Cur.P,.int .u64 ((b.Prom.N:Nat):Int),.int .i64 b.Prom.P,.slice A42 n43 c44,.int .u64 ((b.Base:Nat):Int),.slice A47 n48 c49,.slice A51 n52 c53,.int .u64 ((b.Ack:Nat):Int),.int .u64 ((b.Safe:Nat):Int)]::obj g57 30 [.int .u8 ((a.Kind:Nat):Int),.int .i64 a.From,.int .u64 ((a.ID.N:Nat):Int),.int .i64 a.ID.P,.int .u16 ((a.Set:Nat):Int),.int .u64 ((a.Cur.N:Nat):Int),.int .i64 a.Cur.P,.int .u64 ((a.Prom.N:Nat):Int),.int .i64 a.Prom.P,.slice A14 n15 c16,.int .u64 ((a.Base:Nat):Int),.slice A19 n20 c21,.slice A23 n24 c25,.int .u64 ((a.Ack:Nat):Int),.int .u64 ((a.Safe:Nat):Int)]::L)) ?_ ?_
 rcases Bool.eq_false_or_eq_true (((((decide ((((a.Kind:Nat):Int):Int) ≠ ((b.Kind:Nat):Int))) || (decide ((a.From:Int) ≠ b.From))) || (!(decide (a.ID = b.ID)))) || (decide ((((a.Set:Nat):Int):Int) ≠ ((b.Set:Nat):Int)))) || (!(decide (a.Cur = b.Cur)))) with hc85 | hc85
 have hp85:(((((((a.Kind:Nat):Int):Int) ≠ ((b.Kind:Nat):Int)) ∨ ((a.From:Int) ≠ b.From)) ∨ (¬ (a.ID = b.ID))) ∨ ((((a.Set:Nat):Int):Int) ≠ ((b.Set:Nat):Int))) ∨ (¬ (a.Cur = b.Cur)):=((J_or (J_or (J_or (J_or decide_eq_true_iff decide_eq_true_iff) (J_not decide_eq_true_iff)) decide_eq_true_iff) (J_not decide_eq_true_iff))).1 hc85
 refine g_no (yk 39 true rfl rfl hc85) rfl ?_
 refine g_no (yk 39 true rfl rfl hc85) rfl ?_
 refine g_no (yk 39 true rfl rfl hc85) rfl ?_
 refine g_no (yk 39 true rfl rfl hc85) rfl ?_
 refine g_no (yk 39 true rfl rfl hc85) rfl ?_
 refine st (v:=.bool true) (x_pick_t (.tmp rfl (cVb hc85)) .const) ?_
 exact jw_end ⟨(cVb (jor_t hc85)),hρ82,hρ83,hs84⟩
 have hp85:¬ ((((((((a.Kind:Nat):Int):Int) ≠ ((b.Kind:Nat):Int)) ∨ ((a.From:Int) ≠ b.From)) ∨ (¬ (a.ID = b.ID))) ∨ ((((a.Set:Nat):Int):Int) ≠ ((b.Set:Nat):Int))) ∨ (¬ (a.Cur = b.Cur))):=J_no (J_or (J_or (J_or (J_or decide_eq_true_iff decide_eq_true_iff) (J_not decide_eq_true_iff)) decide_eq_true_iff) (J_not decide_eq_true_iff)) hc85
 refine g_yes (yk 39 false rfl rfl hc85) ?_
 refine st (v:=.pointer (some ⟨g57,0 + 7,none⟩)) (fa30_5 (.tmp rfl hρ82)) ?_
 refine g_yes (yk 39 false rfl rfl hc85) ?_
 refine st (v:=.agg #[.int .u64 ((a.Prom.N:Nat):Int),.int .i64 a.Prom.P]) (ld24 (cs:=[.int .u64 ((a.Prom.N:Nat):Int),.int .i64 a.Prom.P]) (.tmp rfl rfl) (hs84.at_ 1 rfl (0 + 7) rfl) rfl) ?_
 refine g_yes (yk 39 false rfl rfl hc85) ?_
 refine st (v:=.pointer (some ⟨g61,0 + 7,none⟩)) (fa30_5 (.tmp rfl hρ83)) ?_
 refine g_yes (yk 39 false rfl rfl hc85) ?_
 refine st (v:=.agg #[.int .u64 ((b.Prom.N:Nat):Int),.int .i64 b.Prom.P]) (ld24 (cs:=[.int .u64 ((b.Prom.N:Nat):Int),.int .i64 b.Prom.P]) (.tmp rfl rfl) (hs84.at_ 0 rfl (0 + 7) rfl) rfl) ?_
 refine g_yes (yk 39 false rfl rfl hc85) ?_
 refine st (v:=.bool (!((((a.Prom.N:Nat):Int) == ((b.Prom.N:Nat):Int)) && ((a.Prom.P == b.Prom.P) && true)))) (x_neqA eqg24 (.tmp rfl rfl) (.tmp rfl rfl) (fun d => eqs24 (d + 98) _ ((a.Prom.N:Nat):Int) ((b.Prom.N:Nat):Int) a.Prom.P b.Prom.P)) ?_
 refine st (v:=.bool (!(decide (a.Prom = b.Prom)))) (x_pick_f (.tmp rfl (cVb hc85)) (.tmp rfl (congrArg (fun z => Value.bool (!z)) (GViewID.beq_dec a.Prom b.Prom)))) ?_
 exact jw_end ⟨(cVb (jor_f hc85)),hρ82,hρ83,hs84⟩
 rintro ρ w ⟨hρ86,hρ87,hρ88,hs89⟩
 refine st (v:=.bool ((((((decide ((((a.Kind:Nat):Int):Int) ≠ ((b.Kind:Nat):Int))) || (decide ((a.From:Int) ≠ b.From))) || (!(decide (a.ID = b.ID)))) || (decide ((((a.Set:Nat):Int):Int) ≠ ((b.Set:Nat):Int)))) || (!(decide (a.Cur = b.Cur)))) || (!(decide (a.Prom = b.Prom))))) (x_move (.tmp rfl hρ86)) ?_
 refine jw 6 (fun ρ w => ρ 52 = .bool (((((((decide ((((a.Kind:Nat):Int):Int) ≠ ((b.Kind:Nat):Int))) || (decide ((a.From:Int) ≠ b.From))) || (!(decide (a.ID = b.ID)))) || (decide ((((a.Set:Nat):Int):Int) ≠ ((b.Set:Nat):Int)))) || (!(decide (a.Cur = b.Cur)))) || (!(decide (a.Prom = b.Prom)))) || (decide ((((a.Base:Nat):Int):Int) ≠ ((b.Base:Nat):Int))))∧ρ 2 = .pointer (some ⟨g57,0,none⟩)∧ρ 3 = .pointer (some ⟨g61,0,none⟩)∧St H w (obj g61 30 [.int .u8 ((b.Kind:Nat):Int),.int .i64 b.From,.int .u64 ((b.ID.N:Nat):Int),.int .i64 b.ID.P,.int .u16 ((b.Set:Nat):Int),.int .u64 ((b.Cur.N:Nat):Int),.int .i64 b.Cur.P,.int .u64 ((b.Prom.N:Nat):Int),.int .i64 b.Prom.P,.slice A42 n43 c44,.int .u64 ((b.Base:Nat):Int),.slice A47 n48 c49,.slice A51 n52 c53,.int .u64 ((b.Ack:Nat):Int),.int .u64 ((b.Safe:Nat):Int)]::obj g57 30 [.int .u8 ((a.Kind:Nat):Int),.int .i64 a.From,.int .u64 ((a.ID.N:Nat):Int),.int .i64 a.ID.P,.int .u16 ((a.Set:Nat):Int),.int .u64 ((a.Cur.N:Nat):Int),.int .i64 a.Cur.P,.int .u64 ((a.Prom.N:Nat):Int),.int .i64 a.Prom.P,.slice A14 n15 c16,.int .u64 ((a.Base:Nat):Int),.slice A19 n20 c21,.slice A23 n24 c25,.int .u64 ((a.Ack:Nat):Int),.int .u64 ((a.Safe:Nat):Int)]::L)) ?_ ?_
 rcases Bool.eq_false_or_eq_true ((((((decide ((((a.Kind:Nat):Int):Int) ≠ ((b.Kind:Nat):Int))) || (decide ((a.From:Int) ≠ b.From))) || (!(decide (a.ID = b.ID)))) || (decide ((((a.Set:Nat):Int):Int) ≠ ((b.Set:Nat):Int)))) || (!(decide (a.Cur = b.Cur)))) || (!(decide (a.Prom = b.Prom)))) with hc90 | hc90
 have hp90:((((((((a.Kind:Nat):Int):Int) ≠ ((b.Kind:Nat):Int)) ∨ ((a.From:Int) ≠ b.From)) ∨ (¬ (a.ID = b.ID))) ∨ ((((a.Set:Nat):Int):Int) ≠ ((b.Set:Nat):Int))) ∨ (¬ (a.Cur = b.Cur))) ∨ (¬ (a.Prom = b.Prom)):=((J_or (J_or (J_or (J_or (J_or decide_eq_true_iff decide_eq_true_iff) (J_not decide_eq_true_iff)) decide_eq_true_iff) (J_not decide_eq_true_iff)) (J_not decide_eq_true_iff))).1 hc90
 refine g_no (yk 46 true rfl rfl hc90) rfl ?_
 refine g_no (yk 46 true rfl rfl hc90) rfl ?_
 refine g_no (yk 46 true rfl rfl hc90) rfl ?_
 refine g_no (yk 46 true rfl rfl hc90) rfl ?_
 refine g_no (yk 46 true rfl rfl hc90) rfl ?_
 refine st (v:=.bool true) (x_pick_t (.tmp rfl (cVb hc90)) .const) ?_
 exact jw_end ⟨(cVb (jor_t hc90)),hρ87,hρ88,hs89⟩
 have hp90:¬ (((((((((a.Kind:Nat):Int):Int) ≠ ((b.Kind:Nat):Int)) ∨ ((a.From:Int) ≠ b.From)) ∨ (¬ (a.ID = b.ID))) ∨ ((((a.Set:Nat):Int):Int) ≠ ((b.Set:Nat):Int))) ∨ (¬ (a.Cur = b.Cur))) ∨ (¬ (a.Prom = b.Prom))):=J_no (J_or (J_or (J_or (J_or (J_or decide_eq_true_iff decide_eq_true_iff) (J_not decide_eq_true_iff)) decide_eq_true_iff) (J_not decide_eq_true_iff)) (J_not decide_eq_true_iff)) hc90
 refine g_yes (yk 46 false rfl rfl hc90) ?_
 refine st (v:=.pointer (some ⟨g57,0 + 10,none⟩)) (fa30_7 (.tmp rfl hρ87)) ?_
 refine g_yes (yk 46 false rfl rfl hc90) ?_
 refine st (v:=.int .u64 ((a.Base:Nat):Int)) (ld22 (.tmp rfl rfl) (hs89.cell 1 rfl (0 + 10) rfl)) ?_
 refine g_yes (yk 46 false rfl rfl hc90) ?_
 refine st (v:=.pointer (some ⟨g61,0 + 10,none⟩)) (fa30_7 (.tmp rfl hρ88)) ?_
 refine g_yes (yk 46 false rfl rfl hc90) ?_
 refine st (v:=.int .u64 ((b.Base:Nat):Int)) (ld22 (.tmp rfl rfl) (hs89.cell 0 rfl (0 + 10) rfl)) ?_
 refine g_yes (yk 46 false rfl rfl hc90) ?_
 refine st (v:=.bool (decide ((((a.Base:Nat):Int):Int) ≠ ((b.Base:Nat):Int)))) (x_neq (k:=.u64) (a:=((a.Base:Nat):Int)) (b:=((b.Base:Nat):Int)) (.tmp rfl rfl) (.tmp rfl rfl)) ?_
 refine st (v:=.bool (decide ((((a.Base:Nat):Int):Int) ≠ ((b.Base:Nat):Int)))) (x_pick_f (.tmp rfl (cVb hc90)) (.tmp rfl rfl)) ?_
 exact jw_end ⟨(cVb (jor_f hc90)),hρ87,hρ88,hs89⟩
 rintro ρ w ⟨hρ91,hρ92,hρ93,hs94⟩
 refine st (v:=.bool (((((((decide ((((a.Kind:Nat):Int):Int) ≠ ((b.Kind:Nat):Int))) || (decide ((a.From:Int) ≠ b.From))) || (!(decide (a.ID = b.ID)))) || (decide ((((a.Set:Nat):Int):Int) ≠ ((b.Set:Nat):Int)))) || (!(decide (a.Cur = b.Cur)))) || (!(decide (a.Prom = b.Prom)))) || (decide ((((a.Base:Nat):Int):Int) ≠ ((b.Base:Nat):Int))))) (x_move (.tmp rfl hρ91)) ?_
 refine jw 6 (fun ρ w => ρ 59 = .bool ((((((((decide ((((a.Kind:Nat):Int):Int) ≠ ((b.Kind:Nat):Int))) || (decide ((a.From:Int) ≠ b.From))) || (!(decide (a.ID = b.ID)))) || (decide ((((a.Set:Nat):Int):Int) ≠ ((b.Set:Nat):Int)))) || (!(decide (a.Cur = b.Cur)))) || (!(decide (a.Prom = b.Prom)))) || (decide ((((a.Base:Nat):Int):Int) ≠ ((b.Base:Nat):Int)))) || (decide ((((a.Ack:Nat):Int):Int) ≠ ((b.Ack:Nat):Int))))∧ρ 2 = .pointer (some ⟨g57,0,none⟩)∧ρ 3 = .pointer (some ⟨g61,0,none⟩)∧St H w (obj g61 30 [.int .u8 ((b.Kind:Nat):Int),.int .i64 b.From,.int .u64 ((b.ID.N:Nat):Int),.int .i64 b.ID.P,.int .u16 ((b.Set:Nat):Int),.int .u64 ((b.Cur.N:Nat):Int),.int .i64 b.Cur.P,.int .u64 ((b.Prom.N:Nat):Int),.int .i64 b.Prom.P,.slice A42 n43 c44,.int .u64 ((b.Base:Nat):Int),.slice A47 n48 c49,.slice A51 n52 c53,.int .u64 ((b.Ack:Nat):Int),.int .u64 ((b.Safe:Nat):Int)]::obj g57 30 [.int .u8 ((a.Kind:Nat):Int),.int .i64 a.From,.int .u64 ((a.ID.N:Nat):Int),.int .i64 a.ID.P,.int .u16 ((a.Set:Nat):Int),.int .u64 ((a.Cur.N:Nat):Int),.int .i64 a.Cur.P,.int .u64 ((a.Prom.N:Nat):Int),.int .i64 a.Prom.P,.slice A14 n15 c16,.int .u64 ((a.Base:Nat):Int),.slice A19 n20 c21,.slice A23 n24 c25,.int .u64 ((a.Ack:Nat):Int),.int .u64 ((a.Safe:Nat):Int)]::L)) ?_ ?_
 rcases Bool.eq_false_or_eq_true (((((((decide ((((a.Kind:Nat):Int):Int) ≠ ((b.Kind:Nat):Int))) || (decide ((a.From:Int) ≠ b.From))) || (!(decide (a.ID = b.ID)))) || (decide ((((a.Set:Nat):Int):Int) ≠ ((b.Set:Nat):Int)))) || (!(decide (a.Cur = b.Cur)))) || (!(decide (a.Prom = b.Prom)))) || (decide ((((a.Base:Nat):Int):Int) ≠ ((b.Base:Nat):Int)))) with hc95 | hc95
 have hp95:(((((((((a.Kind:Nat):Int):Int) ≠ ((b.Kind:Nat):Int)) ∨ ((a.From:Int) ≠ b.From)) ∨ (¬ (a.ID = b.ID))) ∨ ((((a.Set:Nat):Int):Int) ≠ ((b.Set:Nat):Int))) ∨ (¬ (a.Cur = b.Cur))) ∨ (¬ (a.Prom = b.Prom))) ∨ ((((a.Base:Nat):Int):Int) ≠ ((b.Base:Nat):Int)):=((J_or (J_or (J_or (J_or (J_or (J_or decide_eq_true_iff decide_eq_true_iff) (J_not decide_eq_true_iff)) decide_eq_true_iff) (J_not decide_eq_true_iff)) (J_not decide_eq_true_iff)) decide_eq_true_iff)).1 hc95
 refine g_no (yk 53 true rfl rfl hc95) rfl ?_
 refine g_no (yk 53 true rfl rfl hc95) rfl ?_
 refine g_no (yk 53 true rfl rfl hc95) rfl ?_
 refine g_no (yk 53 true rfl rfl hc95) rfl ?_
 refine g_no (yk 53 true rfl rfl hc95) rfl ?_
 refine st (v:=.bool true) (x_pick_t (.tmp rfl (cVb hc95)) .const) ?_
 exact jw_end ⟨(cVb (jor_t hc95)),hρ92,hρ93,hs94⟩
 have hp95:¬ ((((((((((a.Kind:Nat):Int):Int) ≠ ((b.Kind:Nat):Int)) ∨ ((a.From:Int) ≠ b.From)) ∨ (¬ (a.ID = b.ID))) ∨ ((((a.Set:Nat):Int):Int) ≠ ((b.Set:Nat):Int))) ∨ (¬ (a.Cur = b.Cur))) ∨ (¬ (a.Prom = b.Prom))) ∨ ((((a.Base:Nat):Int):Int) ≠ ((b.Base:Nat):Int))):=J_no (J_or (J_or (J_or (J_or (J_or (J_or decide_eq_true_iff decide_eq_true_iff) (J_not decide_eq_true_iff)) decide_eq_true_iff) (J_not decide_eq_true_iff)) (J_not decide_eq_true_iff)) decide_eq_true_iff) hc95
 refine g_yes (yk 53 false rfl rfl hc95) ?_
 refine st (v:=.pointer (some ⟨g57,0 + 13,none⟩)) (fa30_10 (.tmp rfl hρ92)) ?_
 refine g_yes (yk 53 false rfl rfl hc95) ?_
 refine st (v:=.int .u64 ((a.Ack:Nat):Int)) (ld22 (.tmp rfl rfl) (hs94.cell 1 rfl (0 + 13) rfl)) ?_
 refine g_yes (yk 53 false rfl rfl hc95) ?_
 refine st (v:=.pointer (some ⟨g61,0 + 13,none⟩)) (fa30_10 (.tmp rfl hρ93)) ?_
 refine g_yes (yk 53 false rfl rfl hc95) ?_
 refine st (v:=.int .u64 ((b.Ack:Nat):Int)) (ld22 (.tmp rfl rfl) (hs94.cell 0 rfl (0 + 13) rfl)) ?_
 refine g_yes (yk 53 false rfl rfl hc95) ?_
 refine st (v:=.bool (decide ((((a.Ack:Nat):Int):Int) ≠ ((b.Ack:Nat):Int)))) (x_neq (k:=.u64) (a:=((a.Ack:Nat):Int)) (b:=((b.Ack:Nat):Int)) (.tmp rfl rfl) (.tmp rfl rfl)) ?_
 refine st (v:=.bool (decide ((((a.Ack:Nat):Int):Int) ≠ ((b.Ack:Nat):Int)))) (x_pick_f (.tmp rfl (cVb hc95)) (.tmp rfl rfl)) ?_
 exact jw_end ⟨(cVb (jor_f hc95)),hρ92,hρ93,hs94⟩
 rintro ρ w ⟨hρ96,hρ97,hρ98,hs99⟩
 refine st (v:=.bool ((((((((decide ((((a.Kind:Nat):Int):Int) ≠ ((b.Kind:Nat):Int))) || (decide ((a.From:Int) ≠ b.From))) || (!(decide (a.ID = b.ID)))) || (decide ((((a.Set:Nat):Int):Int) ≠ ((b.Set:Nat):Int)))) || (!(decide (a.Cur = b.Cur)))) || (!(decide (a.Prom = b.Prom)))) || (decide ((((a.Base:Nat):Int):Int) ≠ ((b.Base:Nat):Int)))) || (decide ((((a.Ack:Nat):Int):Int) ≠ ((b.Ack:Nat):Int))))) (x_move (.tmp rfl hρ96)) ?_
 refine jw 6 (fun ρ w => ρ 66 = .bool (((((((((decide ((((a.Kind:Nat):Int):Int) ≠ ((b.Kind:Nat):Int))) || (decide ((a.From:Int) ≠ b.From))) || (!(decide (a.ID = b.ID)))) || (decide ((((a.Set:Nat):Int):Int) ≠ ((b.Set:Nat):Int)))) || (!(decide (a.Cur = b.Cur)))) || (!(decide (a.Prom = b.Prom)))) || (decide ((((a.Base:Nat):Int):Int) ≠ ((b.Base:Nat):Int)))) || (decide ((((a.Ack:Nat):Int):Int) ≠ ((b.Ack:Nat):Int)))) || (decide ((((a.Safe:Nat):Int):Int) ≠ ((b.Safe:Nat):Int))))∧ρ 2 = .pointer (some ⟨g57,0,none⟩)∧ρ 3 = .pointer (some ⟨g61,0,none⟩)∧St H w (obj g61 30 [.int .u8 ((b.Kind:Nat):Int),.int .i64 b.From,.int .u64 ((b.ID.N:Nat):Int),.int .i64 b.ID.P,.int .u16 ((b.Set:Nat):Int),.int .u64 ((b.Cur.N:Nat):Int),.int .i64 b.Cur.P,.int .u64 ((b.Prom.N:Nat):Int),.int .i64 b.Prom.P,.slice A42 n43 c44,.int .u64 ((b.Base:Nat):Int),.slice A47 n48 c49,.slice A51 n52 c53,.int .u64 ((b.Ack:Nat):Int),.int .u64 ((b.Safe:Nat):Int)]::obj g57 30 [.int .u8 ((a.Kind:Nat):Int),.int .i64 a.From,.int .u64 ((a.ID.N:Nat):Int),.int .i64 a.ID.P,.int .u16 ((a.Set:Nat):Int),.int .u64 ((a.Cur.N:Nat):Int),.int .i64 a.Cur.P,.int .u64 ((a.Prom.N:Nat):Int),.int .i64 a.Prom.P,.slice A14 n15 c16,.int .u64 ((a.Base:Nat):Int),.slice A19 n20 c21,.slice A23 n24 c25,.int .u64 ((a.Ack:Nat):Int),.int .u64 ((a.Safe:Nat):Int)]::L)) ?_ ?_
 rcases Bool.eq_false_or_eq_true ((((((((decide ((((a.Kind:Nat):Int):Int) ≠ ((b.Kind:Nat):Int))) || (decide ((a.From:Int) ≠ b.From))) || (!(decide (a.ID = b.ID)))) || (decide ((((a.Set:Nat):Int):Int) ≠ ((b.Set:Nat):Int)))) || (!(decide (a.Cur = b.Cur)))) || (!(decide (a.Prom = b.Prom)))) || (decide ((((a.Base:Nat):Int):Int) ≠ ((b.Base:Nat):Int)))) || (decide ((((a.Ack:Nat):Int):Int) ≠ ((b.Ack:Nat):Int)))) with hc100 | hc100
 have hp100:((((((((((a.Kind:Nat):Int):Int) ≠ ((b.Kind:Nat):Int)) ∨ ((a.From:Int) ≠ b.From)) ∨ (¬ (a.ID = b.ID))) ∨ ((((a.Set:Nat):Int):Int) ≠ ((b.Set:Nat):Int))) ∨ (¬ (a.Cur = b.Cur))) ∨ (¬ (a.Prom = b.Prom))) ∨ ((((a.Base:Nat):Int):Int) ≠ ((b.Base:Nat):Int))) ∨ ((((a.Ack:Nat):Int):Int) ≠ ((b.Ack:Nat):Int)):=((J_or (J_or (J_or (J_or (J_or (J_or (J_or decide_eq_true_iff decide_eq_true_iff) (J_not decide_eq_true_iff)) decide_eq_true_iff) (J_not decide_eq_true_iff)) (J_not decide_eq_true_iff)) decide_eq_true_iff) decide_eq_true_iff)).1 hc100
 refine g_no (yk 60 true rfl rfl hc100) rfl ?_
 refine g_no (yk 60 true rfl rfl hc100) rfl ?_
 refine g_no (yk 60 true rfl rfl hc100) rfl ?_
 refine g_no (yk 60 true rfl rfl hc100) rfl ?_
 refine g_no (yk 60 true rfl rfl hc100) rfl ?_
 refine st (v:=.bool true) (x_pick_t (.tmp rfl (cVb hc100)) .const) ?_
 exact jw_end ⟨(cVb (jor_t hc100)),hρ97,hρ98,hs99⟩
 have hp100:¬ (((((((((((a.Kind:Nat):Int):Int) ≠ ((b.Kind:Nat):Int)) ∨ ((a.From:Int) ≠ b.From)) ∨ (¬ (a.ID = b.ID))) ∨ ((((a.Set:Nat):Int):Int) ≠ ((b.Set:Nat):Int))) ∨ (¬ (a.Cur = b.Cur))) ∨ (¬ (a.Prom = b.Prom))) ∨ ((((a.Base:Nat):Int):Int) ≠ ((b.Base:Nat):Int))) ∨ ((((a.Ack:Nat):Int):Int) ≠ ((b.Ack:Nat):Int))):=J_no (J_or (J_or (J_or (J_or (J_or (J_or (J_or decide_eq_true_iff decide_eq_true_iff) (J_not decide_eq_true_iff)) decide_eq_true_iff) (J_not decide_eq_true_iff)) (J_not decide_eq_true_iff)) decide_eq_true_iff) decide_eq_true_iff) hc100
 refine g_yes (yk 60 false rfl rfl hc100) ?_
 refine st (v:=.pointer (some ⟨g57,0 + 14,none⟩)) (fa30_11 (.tmp rfl hρ97)) ?_
 refine g_yes (yk 60 false rfl rfl hc100) ?_
 refine st (v:=.int .u64 ((a.Safe:Nat):Int)) (ld22 (.tmp rfl rfl) (hs99.cell 1 rfl (0 + 14) rfl)) ?_
 refine g_yes (yk 60 false rfl rfl hc100) ?_
 refine st (v:=.pointer (some ⟨g61,0 + 14,none⟩)) (fa30_11 (.tmp rfl hρ98)) ?_
 refine g_yes (yk 60 false rfl rfl hc100) ?_
 refine st (v:=.int .u64 ((b.Safe:Nat):Int)) (ld22 (.tmp rfl rfl) (hs99.cell 0 rfl (0 + 14) rfl)) ?_
 refine g_yes (yk 60 false rfl rfl hc100) ?_
 refine st (v:=.bool (decide ((((a.Safe:Nat):Int):Int) ≠ ((b.Safe:Nat):Int)))) (x_neq (k:=.u64) (a:=((a.Safe:Nat):Int)) (b:=((b.Safe:Nat):Int)) (.tmp rfl rfl) (.tmp rfl rfl)) ?_
 refine st (v:=.bool (decide ((((a.Safe:Nat):Int):Int) ≠ ((b.Safe:Nat):Int)))) (x_pick_f (.tmp rfl (cVb hc100)) (.tmp rfl rfl)) ?_
 exact jw_end ⟨(cVb (jor_f hc100)),hρ97,hρ98,hs99⟩
 rintro ρ w ⟨hρ101,hρ102,hρ103,hs104⟩
 refine st (v:=.bool (((((((((decide ((((a.Kind:Nat):Int):Int) ≠ ((b.Kind:Nat):Int))) || (decide ((a.From:Int) ≠ b.From))) || (!(decide (a.ID = b.ID)))) || (decide ((((a.Set:Nat):Int):Int) ≠ ((b.Set:Nat):Int)))) || (!(decide (a.Cur = b.Cur)))) || (!(decide (a.Prom = b.Prom)))) || (decide ((((a.Base:Nat):Int):Int) ≠ ((b.Base:Nat):Int)))) || (decide ((((a.Ack:Nat):Int):Int) ≠ ((b.Ack:Nat):Int)))) || (decide ((((a.Safe:Nat):Int):Int) ≠ ((b.Safe:Nat):Int))))) (x_move (.tmp rfl hρ101)) ?_
 refine jw 8 (fun ρ w => ρ 75 = .bool ((((((((((decide ((((a.Kind:Nat):Int):Int) ≠ ((b.Kind:Nat):Int))) || (decide ((a.From:Int) ≠ b.From))) || (!(decide (a.ID = b.ID)))) || (decide ((((a.Set:Nat):Int):Int) ≠ ((b.Set:Nat):Int)))) || (!(decide (a.Cur = b.Cur)))) || (!(decide (a.Prom = b.Prom)))) || (decide ((((a.Base:Nat):Int):Int) ≠ ((b.Base:Nat):Int)))) || (decide ((((a.Ack:Nat):Int):Int) ≠ ((b.Ack:Nat):Int)))) || (decide ((((a.Safe:Nat):Int):Int) ≠ ((b.Safe:Nat):Int)))) || (decide ((((n20:Nat):Int):Int) ≠ ((n48:Nat):Int))))∧ρ 2 = .pointer (some ⟨g57,0,none⟩)∧ρ 3 = .pointer (some ⟨g61,0,none⟩)∧St H w (obj g61 30 [.int .u8 ((b.Kind:Nat):Int),.int .i64 b.From,.int .u64 ((b.ID.N:Nat):Int),.int .i64 b.ID.P,.int .u16 ((b.Set:Nat):Int),.int .u64 ((b.Cur.N:Nat):Int),.int .i64 b.Cur.P,.int .u64 ((b.Prom.N:Nat):Int),.int .i64 b.Prom.P,.slice A42 n43 c44,.int .u64 ((b.Base:Nat):Int),.slice A47 n48 c49,.slice A51 n52 c53,.int .u64 ((b.Ack:Nat):Int),.int .u64 ((b.Safe:Nat):Int)]::obj g57 30 [.int .u8 ((a.Kind:Nat):Int),.int .i64 a.From,.int .u64 ((a.ID.N:Nat):Int),.int .i64 a.ID.P,.int .u16 ((a.Set:Nat):Int),.int .u64 ((a.Cur.N:Nat):Int),.int .i64 a.Cur.P,.int .u64 ((a.Prom.N:Nat):Int),.int .i64 a.Prom.P,.slice A14 n15 c16,.int .u64 ((a.Base:Nat):Int),.slice A19 n20 c21,.slice A23 n24 c25,.int .u64 ((a.Ack:Nat):Int),.int .u64 ((a.Safe:Nat):Int)]::L)) ?_ ?_
 rcases Bool.eq_false_or_eq_true (((((((((decide ((((a.Kind:Nat):Int):Int) ≠ ((b.Kind:Nat):Int))) || (decide ((a.From:Int) ≠ b.From))) || (!(decide (a.ID = b.ID)))) || (decide ((((a.Set:Nat):Int):Int) ≠ ((b.Set:Nat):Int)))) || (!(decide (a.Cur = b.Cur)))) || (!(decide (a.Prom = b.Prom)))) || (decide ((((a.Base:Nat):Int):Int) ≠ ((b.Base:Nat):Int)))) || (decide ((((a.Ack:Nat):Int):Int) ≠ ((b.Ack:Nat):Int)))) || (decide ((((a.Safe:Nat):Int):Int) ≠ ((b.Safe:Nat):Int)))) with hc105 | hc105
 have hp105:(((((((((((a.Kind:Nat):Int):Int) ≠ ((b.Kind:Nat):Int)) ∨ ((a.From:Int) ≠ b.From)) ∨ (¬ (a.ID = b.ID))) ∨ ((((a.Set:Nat):Int):Int) ≠ ((b.Set:Nat):Int))) ∨ (¬ (a.Cur = b.Cur))) ∨ (¬ (a.Prom = b.Prom))) ∨ ((((a.Base:Nat):Int):Int) ≠ ((b.Base:Nat):Int))) ∨ ((((a.Ack:Nat):Int):Int) ≠ ((b.Ack:Nat):Int))) ∨ ((((a.Safe:Nat):Int):Int) ≠ ((b.Safe:Nat):Int)):=((J_or (J_or (J_or (J_or (J_or (J_or (J_or (J_or decide_eq_true_iff decide_eq_true_iff) (J_not decide_eq_true_iff)) decide_eq_true_iff) (J_not decide_eq_true_iff)) (J_not decide_eq_true_iff)) decide_eq_true_iff) decide_eq_true_iff) decide_eq_true_iff)).1 hc105
 refine g_no (yk 67 true rfl rfl hc105) rfl ?_
 refine g_no (yk 67 true rfl rfl hc105) rfl ?_
 refine g_no (yk 67 true rfl rfl hc105) rfl ?_
 refine g_no (yk 67 true rfl rfl hc105) rfl ?_
 refine g_no (yk 67 true rfl rfl hc105) rfl ?_
 refine g_no (yk 67 true rfl rfl hc105) rfl ?_
 refine g_no (yk 67 true rfl rfl hc105) rfl ?_
 refine st (v:=.bool true) (x_pick_t (.tmp rfl (cVb hc105)) .const) ?_
 exact jw_end ⟨(cVb (jor_t hc105)),hρ102,hρ103,hs104⟩
 have hp105:¬ ((((((((((((a.Kind:Nat):Int):Int) ≠ ((b.Kind:Nat):Int)) ∨ ((a.From:Int) ≠ b.From)) ∨ (¬ (a.ID = b.ID))) ∨ ((((a.Set:Nat):Int):Int) ≠ ((b.Set:Nat):Int))) ∨ (¬ (a.Cur = b.Cur))) ∨ (¬ (a.Prom = b.Prom))) ∨ ((((a.Base:Nat):Int):Int) ≠ ((b.Base:Nat):Int))) ∨ ((((a.Ack:Nat):Int):Int) ≠ ((b.Ack:Nat):Int))) ∨ ((((a.Safe:Nat):Int):Int) ≠ ((b.Safe:Nat):Int))):=J_no (J_or (J_or (J_or (J_or (J_or (J_or (J_or (J_or decide_eq_true_iff decide_eq_true_iff) (J_not decide_eq_true_iff)) decide_eq_true_iff) (J_not decide_eq_true_iff)) (J_not decide_eq_true_iff)) decide_eq_true_iff) decide_eq_true_iff) decide_eq_true_iff) hc105
 refine g_yes (yk 67 false rfl rfl hc105) ?_
 refine st (v:=.pointer (some ⟨g57,0 + 11,none⟩)) (fa30_8 (.tmp rfl hρ102)) ?_
 refine g_yes (yk 67 false rfl rfl hc105) ?_
 refine st (v:=.slice A19 n20 c21) (ld27 (.tmp rfl rfl) (hs104.cell 1 rfl (0 + 11) rfl)) ?_
 refine g_yes (yk 67 false rfl rfl hc105) ?_
 refine st (v:=.int .i64 ((n20:Nat):Int)) (x_len (n:=n20) Try.underlying27 (.tmp rfl rfl)) ?_
 refine g_yes (yk 67 false rfl rfl hc105) ?_
 refine st (v:=.pointer (some ⟨g61,0 + 11,none⟩)) (fa30_8 (.tmp rfl hρ103)) ?_
 refine g_yes (yk 67 false rfl rfl hc105) ?_
 refine st (v:=.slice A47 n48 c49) (ld27 (.tmp rfl rfl) (hs104.cell 0 rfl (0 + 11) rfl)) ?_
 refine g_yes (yk 67 false rfl rfl hc105) ?_
 refine st (v:=.int .i64 ((n48:Nat):Int)) (x_len (n:=n48) Try.underlying27 (.tmp rfl rfl)) ?_
 refine g_yes (yk 67 false rfl rfl hc105) ?_
 refine st (v:=.bool (decide ((((n20:Nat):Int):Int) ≠ ((n48:Nat):Int)))) (x_neq (k:=.i64) (a:=((n20:Nat):Int)) (b:=((n48:Nat):Int)) (.tmp rfl rfl) (.tmp rfl rfl)) ?_
 refine st (v:=.bool (decide ((((n20:Nat):Int):Int) ≠ ((n48:Nat):Int)))) (x_pick_f (.tmp rfl (cVb hc105)) (.tmp rfl rfl)) ?_
 exact jw_end ⟨(cVb (jor_f hc105)),hρ102,hρ103,hs104⟩
 rintro ρ w ⟨hρ106,hρ107,hρ108,hs109⟩
 refine c_nil (n_then ?_)
 rcases Bool.eq_false_or_eq_true ((((((((((decide ((((a.Kind:Nat):Int):Int) ≠ ((b.Kind:Nat):Int))) || (decide ((a.From:Int) ≠ b.From))) || (!(decide (a.ID = b.ID)))) || (decide ((((a.Set:Nat):Int):Int) ≠ ((b.Set:Nat):Int)))) || (!(decide (a.Cur = b.Cur)))) || (!(decide (a.Prom = b.Prom)))) || (decide ((((a.Base:Nat):Int):Int) ≠ ((b.Base:Nat):Int)))) || (decide ((((a.Ack:Nat):Int):Int) ≠ ((b.Ack:Nat):Int)))) || (decide ((((a.Safe:Nat):Int):Int) ≠ ((b.Safe:Nat):Int)))) || (decide ((((n20:Nat):Int):Int) ≠ ((n48:Nat):Int)))) with hc110 | hc110
 have hp110:((((((((((((a.Kind:Nat):Int):Int) ≠ ((b.Kind:Nat):Int)) ∨ ((a.From:Int) ≠ b.From)) ∨ (¬ (a.ID = b.ID))) ∨ ((((a.Set:Nat):Int):Int) ≠ ((b.Set:Nat):Int))) ∨ (¬ (a.Cur = b.Cur))) ∨ (¬ (a.Prom = b.Prom))) ∨ ((((a.Base:Nat):Int):Int) ≠ ((b.Base:Nat):Int))) ∨ ((((a.Ack:Nat):Int):Int) ≠ ((b.Ack:Nat):Int))) ∨ ((((a.Safe:Nat):Int):Int) ≠ ((b.Safe:Nat):Int))) ∨ ((((n20:Nat):Int):Int) ≠ ((n48:Nat):Int)):=((J_or (J_or (J_or (J_or (J_or (J_or (J_or (J_or (J_or decide_eq_true_iff decide_eq_true_iff) (J_not decide_eq_true_iff)) decide_eq_true_iff) (J_not decide_eq_true_iff)) (J_not decide_eq_true_iff)) decide_eq_true_iff) decide_eq_true_iff) decide_eq_true_iff) decide_eq_true_iff)).1 hc110
 refine c_cond_t (t:=true) (.tmp rfl (hρ106.trans (cVb hc110))) rfl ?_
 refine c_seq (c_region (st (v:=.bool false) (x_assign .const) ?_))
 refine c_nil (n_then (c_ret (r_then (leave_ret (res_one (v:=.bool false) rfl (.mk rfl rfl)) ?_))))
 have hans111:(decide (a = b)) = false:=same_no (by omega) (by omega) hp110
 rw [hans111]
 exact ⟨rfl,hs109.drop.drop⟩
 have hp110:¬ (((((((((((((a.Kind:Nat):Int):Int) ≠ ((b.Kind:Nat):Int)) ∨ ((a.From:Int) ≠ b.From)) ∨ (¬ (a.ID = b.ID))) ∨ ((((a.Set:Nat):Int):Int) ≠ ((b.Set:Nat):Int))) ∨ (¬ (a.Cur = b.Cur))) ∨ (¬ (a.Prom = b.Prom))) ∨ ((((a.Base:Nat):Int):Int) ≠ ((b.Base:Nat):Int))) ∨ ((((a.Ack:Nat):Int):Int) ≠ ((b.Ack:Nat):Int))) ∨ ((((a.Safe:Nat):Int):Int) ≠ ((b.Safe:Nat):Int))) ∨ ((((n20:Nat):Int):Int) ≠ ((n48:Nat):Int))):=J_no (J_or (J_or (J_or (J_or (J_or (J_or (J_or (J_or (J_or decide_eq_true_iff decide_eq_true_iff) (J_not decide_eq_true_iff)) decide_eq_true_iff) (J_not decide_eq_true_iff)) (J_not decide_eq_true_iff)) decide_eq_true_iff) decide_eq_true_iff) decide_eq_true_iff) decide_eq_true_iff) hc110
 refine c_cond_f (t:=false) (.tmp rfl (hρ106.trans (cVb hc110))) rfl ?_
 refine c_skip (n_then (c_seq (c_seq (c_region (st (v:=.int .i64 0) (x_assign .const) ?_)))))
 refine c_nil (n_then (c_block (c_loop (fun ρ w mm => ∃ (i:Nat),ρ 2 = .pointer (some ⟨g57,0,none⟩)∧ρ 3 = .pointer (some ⟨g61,0,none⟩)∧ρ 5 = .int .i64 ((i:Nat):Int)∧(i ≤ a.Msgs.length)∧(a.Msgs.take i = b.Msgs.take i)∧St H w (obj g61 30 [.int .u8 ((b.Kind:Nat):Int),.int .i64 b.From,.int .u64 ((b.ID.N:Nat):Int),.int .i64 b.ID.P,.int .u16 ((b.Set:Nat):Int),.int .u64 ((b.Cur.N:Nat):Int),.int .i64 b.Cur.P,.int .u64 ((b.Prom.N:Nat):Int),.int .i64 b.Prom.P,.slice A42 n43 c44,.int .u64 ((b.Base:Nat):Int),.slice A47 n48 c49,.slice A51 n52 c53,.int .u64 ((b.Ack:Nat):Int),.int .u64 ((b.Safe:Nat):Int)]::obj g57 30 [.int .u8 ((a.Kind:Nat):Int),.int .i64 a.From,.int .u64 ((a.ID.N:Nat):Int),.int .i64 a.ID.P,.int .u16 ((a.Set:Nat):Int),.int .u64 ((a.Cur.N:Nat):Int),.int .i64 a.Cur.P,.int .u64 ((a.Prom.N:Nat):Int),.int .i64 a.Prom.P,.slice A14 n15 c16,.int .u64 ((a.Base:Nat):Int),.slice A19 n20 c21,.slice A23 n24 c25,.int .u64 ((a.Ack:Nat):Int),.int .u64 ((a.Safe:Nat):Int)]::L)∧mm = a.Msgs.length - i) _ ⟨0,hρ107,hρ108,rfl,(by omega),rfl,((hs109.p1).p1),rfl⟩ ?_)))
 rintro ρ w mm ⟨i,hρ113,hρ114,hρ115,hi,ht,hs116,rfl⟩
 refine c_seq (c_seq (c_region (st (v:=.int .i64 ((i:Nat):Int)) (x_move (.tmp rfl hρ115)) ?_)))
 refine st (v:=.pointer (some ⟨g57,0 + 11,none⟩)) (fa30_8 (.tmp rfl hρ113)) ?_
 refine st (v:=.slice A19 n20 c21) (ld27 (.tmp rfl rfl) (hs116.cell 1 rfl (0 + 11) rfl)) ?_
 refine st (v:=.int .i64 ((n20:Nat):Int)) (x_len (n:=n20) Try.underlying27 (.tmp rfl rfl)) ?_
 refine st (v:=.bool (decide ((((i:Nat):Int):Int) < ((n20:Nat):Int)))) (x_lss (k:=.i64) (a:=((i:Nat):Int)) (b:=((n20:Nat):Int)) (.tmp rfl rfl) (.tmp rfl rfl)) ?_
 refine c_nil (n_then ?_)
 rcases Bool.eq_false_or_eq_true (decide ((((i:Nat):Int):Int) < ((n20:Nat):Int))) with hc117 | hc117
 have hp117:(((i:Nat):Int):Int) < ((n20:Nat):Int):=of_decide_eq_true hc117
 refine c_cond_t (t:=true) (.tmp rfl (cVb hc117)) rfl ?_
 refine c_skip (n_then (c_seq (c_block (c_seq (q_region mixed hs116 (by kernel_rfl) ?_)))))
 refine q_st (v:=.pointer (some ⟨g57,0 + 11,none⟩)) (fun w hs => (fa30_8 (.tmp rfl hρ113))) ?_
 refine q_st (v:=.slice A19 n20 c21) (fun w hs => (ld27 (.tmp rfl rfl) (hs.cell 1 rfl (0 + 11) rfl))) ?_
 refine q_st (v:=.int .i64 ((i:Nat):Int)) (fun w hs => (x_move (.tmp rfl hρ115))) ?_
 obtain ⟨e118,b119,o120,cs121,hx122,hA123,hr124,hat125⟩:=hl22.get (i:=i) (by omega)
 obtain ⟨A126,n127,c128,rfl,hy129⟩:=hr124
 have:=hy129.len; have:=hy129.bnd; have:=hy129.le
 have hat125x:∀ {w:World} {L:List Res},St H w L → At w ⟨b119,o120 + i * 1,none⟩ [.slice A126 n127 c128]:=fun h => hat125 h
 refine q_st (v:=.pointer (some ⟨b119,(o120 + i * 1),none⟩)) (fun w hs => (ixo27 (.tmp rfl rfl) hA123 (i:=((i:Nat):Int)) (.tmp rfl rfl) (by omega) (by omega) (by omega))) ?_
 refine q_st (v:=.slice A126 n127 c128) (fun w hs => (ld33 (.tmp rfl rfl) ((hat125x hs).cell 0 rfl))) ?_
 refine q_st (v:=.string (bstr e118)) (fun w hs => (hy129.toBs.str Try.underlying33 Try.underlying5 Try.underlying9 hs (.tmp rfl rfl))) ?_
 refine q_st (v:=.pointer (some ⟨g61,0 + 11,none⟩)) (fun w hs => (fa30_8 (.tmp rfl hρ114))) ?_
 refine q_st (v:=.slice A47 n48 c49) (fun w hs => (ld27 (.tmp rfl rfl) (hs.cell 0 rfl (0 + 11) rfl))) ?_
 refine q_st (v:=.int .i64 ((i:Nat):Int)) (fun w hs => (x_move (.tmp rfl hρ115))) ?_
 obtain ⟨e130,b131,o132,cs133,hx134,hA135,hr136,hat137⟩:=hl50.get (i:=i) (by omega)
 obtain ⟨A138,n139,c140,rfl,hy141⟩:=hr136
 have:=hy141.len; have:=hy141.bnd; have:=hy141.le
 have hat137x:∀ {w:World} {L:List Res},St H w L → At w ⟨b131,o132 + i * 1,none⟩ [.slice A138 n139 c140]:=fun h => hat137 h
 refine q_st (v:=.pointer (some ⟨b131,(o132 + i * 1),none⟩)) (fun w hs => (ixo27 (.tmp rfl rfl) hA135 (i:=((i:Nat):Int)) (.tmp rfl rfl) (by omega) (by omega) (by omega))) ?_
 refine q_st (v:=.slice A138 n139 c140) (fun w hs => (ld33 (.tmp rfl rfl) ((hat137x hs).cell 0 rfl))) ?_
 refine q_st (v:=.string (bstr e130)) (fun w hs => (hy141.toBs.str Try.underlying33 Try.underlying5 Try.underlying9 hs (.tmp rfl rfl))) ?_
 refine q_st (v:=.bool (!decide ((bstr e118) = (bstr e130)))) (fun w hs => (x_neqS (.tmp rfl rfl) (.tmp rfl rfl))) ?_
 refine q_nil ?_
 intro w hs142
 refine n_then ?_
 rcases Bool.eq_false_or_eq_true (decide ((bstr e118) = (bstr e130))) with hc143 | hc143
 have hp143:(bstr e118) = (bstr e130):=of_decide_eq_true hc143
 refine c_cond_f (t:=false) (.tmp rfl (cVb (by rw [hc143]; rfl))) rfl ?_
 refine c_skip (n_block (n_then (c_region (st (v:=.int .i64 ((i:Nat):Int)) (x_move (.tmp rfl hρ115)) ?_))))
 refine st (v:=.int .i64 (((i + 1):Nat):Int)) (x_add (k:=.i64) (a:=((i:Nat):Int)) (b:=1) (.tmp rfl rfl) .const ((w64 (by omega) (by omega)).trans (by omega))) ?_
 refine st (v:=.int .i64 (((i + 1):Nat):Int)) (x_assign (.tmp rfl rfl)) ?_
 refine c_nil ?_
 refine n_then ⟨_,_,rfl,?_,(i + 1),hρ113,hρ114,rfl,(by omega),(take_eq_next ht hx122 hx134 ((bstr_inj hy129.lt hy141.lt).1 hp143)),((hs142.p1).p1),rfl⟩
 omega
 have hp143:¬ ((bstr e118) = (bstr e130)):=of_decide_eq_false hc143
 refine c_cond_t (t:=true) (.tmp rfl (cVb (by rw [hc143]; rfl))) rfl ?_
 refine c_seq (c_region (st (v:=.bool false) (x_assign .const) ?_))
 refine c_nil (n_then (c_ret (r_block (r_then (r_then (r_block (r_then (leave_ret (res_one (v:=.bool false) rfl (.mk rfl rfl)) ?_))))))))
 have hans144:(decide (a = b)) = false:=same_msg hx122 hx134 hp143
 rw [hans144]
 exact ⟨rfl,hs142.drop.drop⟩
 have hp117:¬ ((((i:Nat):Int):Int) < ((n20:Nat):Int)):=of_decide_eq_false hc117
 refine c_cond_f (t:=false) (.tmp rfl (cVb hc117)) rfl ?_
 refine c_exit (x_then (x_then (x_here (n_then (c_seq (c_region (st (v:=.pointer (some ⟨g57,0 + 9,none⟩)) (fa30_6 (.tmp rfl hρ113)) ?_)))))))
 refine st (v:=.slice A14 n15 c16) (ld26 (.tmp rfl rfl) (hs116.cell 1 rfl (0 + 9) rfl)) ?_
 refine st (v:=.pointer (some ⟨g61,0 + 9,none⟩)) (fa30_6 (.tmp rfl hρ114)) ?_
 refine st (v:=.slice A42 n43 c44) (ld26 (.tmp rfl rfl) (hs116.cell 0 rfl (0 + 9) rfl)) ?_
 refine st_c cb29 .func (evs2 (.tmp rfl rfl) (.tmp rfl rfl)) (same_spec hs116 a.States hl17 b.States hl45 ) ?_
 rintro e w145 ⟨rfl,hs146⟩
 refine ⟨_,rfl,?_⟩
 refine st (v:=.bool (decide (a.States = b.States))) (x_move (.tmp rfl rfl)) ?_
 refine jw 6 (fun ρ w => ρ 107 = .bool ((decide (a.States = b.States)) && (decide (a.Items = b.Items)))∧St H w (obj g61 30 [.int .u8 ((b.Kind:Nat):Int),.int .i64 b.From,.int .u64 ((b.ID.N:Nat):Int),.int .i64 b.ID.P,.int .u16 ((b.Set:Nat):Int),.int .u64 ((b.Cur.N:Nat):Int),.int .i64 b.Cur.P,.int .u64 ((b.Prom.N:Nat):Int),.int .i64 b.Prom.P,.slice A42 n43 c44,.int .u64 ((b.Base:Nat):Int),.slice A47 n48 c49,.slice A51 n52 c53,.int .u64 ((b.Ack:Nat):Int),.int .u64 ((b.Safe:Nat):Int)]::obj g57 30 [.int .u8 ((a.Kind:Nat):Int),.int .i64 a.From,.int .u64 ((a.ID.N:Nat):Int),.int .i64 a.ID.P,.int .u16 ((a.Set:Nat):Int),.int .u64 ((a.Cur.N:Nat):Int),.int .i64 a.Cur.P,.int .u64 ((a.Prom.N:Nat):Int),.int .i64 a.Prom.P,.slice A14 n15 c16,.int .u64 ((a.Base:Nat):Int),.slice A19 n20 c21,.slice A23 n24 c25,.int .u64 ((a.Ack:Nat):Int),.int .u64 ((a.Safe:Nat):Int)]::L)) ?_ ?_
 rcases Bool.eq_false_or_eq_true (decide (a.States = b.States)) with hc147 | hc147
 refine g_yes (yk 101 true rfl rfl hc147) ?_
 refine st (v:=.pointer (some ⟨g57,0 + 12,none⟩)) (fa30_9 (.tmp rfl hρ113)) ?_
 refine g_yes (yk 101 true rfl rfl hc147) ?_
 refine st (v:=.slice A23 n24 c25) (ld28 (.tmp rfl rfl) (hs146.cell 1 rfl (0 + 12) rfl)) ?_
 refine g_yes (yk 101 true rfl rfl hc147) ?_
 refine st (v:=.pointer (some ⟨g61,0 + 12,none⟩)) (fa30_9 (.tmp rfl hρ114)) ?_
 refine g_yes (yk 101 true rfl rfl hc147) ?_
 refine st (v:=.slice A51 n52 c53) (ld28 (.tmp rfl rfl) (hs146.cell 0 rfl (0 + 12) rfl)) ?_
 refine g_yes (yk 101 true rfl rfl hc147) ?_
 refine st_c cb30 .func (evs2 (.tmp rfl rfl) (.tmp rfl rfl)) (items_spec hs146 a.Items hl26 b.Items hl54 ) ?_
 rintro e w148 ⟨rfl,hs149⟩
 refine ⟨_,rfl,?_⟩
 refine st (v:=.bool (decide (a.Items = b.Items))) (x_pick_t (.tmp rfl (cVb hc147)) (.tmp rfl rfl)) ?_
 exact jw_end ⟨(cVb (jand_t hc147)),hs149⟩
 refine g_no (yk 101 false rfl rfl hc147) rfl ?_
 refine g_no (yk 101 false rfl rfl hc147) rfl ?_
 refine g_no (yk 101 false rfl rfl hc147) rfl ?_
 refine g_no (yk 101 false rfl rfl hc147) rfl ?_
 refine g_no (yk 101 false rfl rfl hc147) rfl ?_
 refine st (v:=.bool false) (x_pick_f (.tmp rfl (cVb hc147)) .const) ?_
 exact jw_end ⟨(cVb (jand_f hc147)),hs146⟩
 rintro ρ w ⟨hρ150,hs151⟩
 refine st (v:=.bool ((decide (a.States = b.States)) && (decide (a.Items = b.Items)))) (x_assign (.tmp rfl hρ150)) ?_
 refine c_nil (n_then (c_ret (leave_ret (res_one (v:=.bool ((decide (a.States = b.States)) && (decide (a.Items = b.Items)))) rfl (.mk rfl rfl)) ?_)))
 have hans152:(decide (a = b)) = ((decide (a.States = b.States)) && (decide (a.Items = b.Items))):=Bool.eq_iff_iff.2 (decide_eq_true_iff.trans ((same_end (by omega) (by omega) hp110 ht (by omega)).trans (by simp)))
 rw [hans152]
 exact ⟨rfl,hs151.drop.drop⟩
end Go.Proofs.Ytlfihfmmhhcigaa

set_option linter.unusedVariables false
set_option linter.unusedSimpArgs false
namespace Go.Proofs.Ytlfihfmmhhcigaa
open Go Go.FM Go.Proofs
attribute [local irreducible] wpList wpQuiet wpS Code.wp Calls
theorem uint_q {H:Hp} {w:World} {L:List Res} {g:Nat} {A:Option Addr} {n c:Nat} {bs:List Nat} (hp:Bs H A n c bs) (b:Bool) (hs:St H w (obj g 98 [.slice A n c,.bool b]::L)):Calls Try.prog 36 #[(.pointer (some ⟨g,0,none⟩))] w (fun e w' => ∃ (q:Nat × List Nat × Bool) (A':Option Addr) (n' c':Nat),q = rdU bs b∧q.1 < 18446744073709551616∧n' ≤ n∧e = .returned (.int .u64 ((q.1:Nat):Int))∧Bs H A' n' c' q.2.1∧St H w' (obj g 98 [.slice A' n' c',.bool q.2.2]::L)) :=
  (uint_own hp b hs).mono fun e w' h => by
    obtain ⟨A',n',c',h1,h2,h3⟩:=h
    exact ⟨_,A',n',c',rfl,rdU_lt _ _,by have:=h2.len; have:=hp.len; have:=rdU_len bs b; omega,h1,h2,h3⟩
theorem int_q {H:Hp} {w:World} {L:List Res} {g:Nat} {A:Option Addr} {n c:Nat} {bs:List Nat} (hp:Bs H A n c bs) (b:Bool) (most:Int) (hm1:0 ≤ most) (hm2:most ≤ 9223372036854775807) (hs:St H w (obj g 98 [.slice A n c,.bool b]::L)):Calls Try.prog 33 #[(.pointer (some ⟨g,0,none⟩)),.int .i64 most] w (fun e w' => ∃ (q:Nat × List Nat × Bool) (A':Option Addr) (n' c':Nat),q = rdI bs b most∧((q.1:Nat):Int) ≤ most∧n' ≤ n∧e = .returned (.int .i64 ((q.1:Nat):Int))∧Bs H A' n' c' q.2.1∧St H w' (obj g 98 [.slice A' n' c',.bool q.2.2]::L)) :=
  (int_own hp b most (by omega) hm2 hs).mono fun e w' h => by
    obtain ⟨A',n',c',h1,h2,h3⟩:=h
    exact ⟨_,A',n',c',rfl,rdI_most _ _ _ hm1,by have:=h2.len; have:=hp.len; have:=rdI_len bs b most; omega,h1,h2,h3⟩
theorem bytes_q {H:Hp} {w:World} {L:List Res} {g:Nat} {A:Option Addr} {n c:Nat} {bs:List Nat} (hp:Bs H A n c bs) (hn:n ≤ 140737488355320) (b:Bool) (most:Int) (hm1:0 ≤ most) (hm2:most ≤ 9223372036854775807) (hs:St H w (obj g 98 [.slice A n c,.bool b]::L)):Calls Try.prog 38 #[(.pointer (some ⟨g,0,none⟩)),.int .i64 most] w (fun e w' => ∃ (v:Value) (q:List Nat × List Nat × Bool) (A':Option Addr) (n' c':Nat),q = rdB bs b most∧(Small q.1∧(q.1.length:Int) ≤ most∧RowOk 1 v q.1.length (q.1.map encB))∧n' ≤ n∧e = .returned v∧Bs H A' n' c' q.2.1∧St H w' (row 5 1 v q.1.length (q.1.map encB)::obj g 98 [.slice A' n' c',.bool q.2.2]::L)) :=
  (bytes_own hp hn b most (by omega) hm2 hs).mono fun e w' h => by
    obtain ⟨v,A',n',c',h1,h2,h3,h4⟩:=h
    exact ⟨v,_,A',n',c',rfl,⟨rdB_small hp.lt b most,rdB_most bs b most hm1,h2⟩,by have:=h3.len; have:=hp.len; have:=rdB_len bs b most; omega,h1,h3,h4⟩
set_option maxHeartbeats 8000000 in
theorem vdec_spec {H:Hp} {w:World} {L:List Res} {g_r:Nat} {A_r:Option Addr} {n_r c_r:Nat} {r:List Nat} {b_r:Bool} (hs:St H w (obj g_r 98 [.slice A_r n_r c_r,.bool b_r]::L)) (hp_r:Bs H A_r n_r c_r r) (hn_r:n_r ≤ 140737488355320):Calls Try.prog 34 #[.pointer (some ⟨g_r,0,none⟩)] w (fun e w' => ∃ (cs0:List Value) (q_r:(GViewID × Bool) × List Nat × Bool) (A_r':Option Addr) (n_r' c_r':Nat),e = .returned (.tuple #[.agg cs0.toArray,.bool q_r.1.2])∧kViewID.rep H (q_r.1.1) cs0∧q_r = rdVC r b_r∧Bs H A_r' n_r' c_r' q_r.2.1∧n_r' ≤ n_r∧St H w' (obj g_r 98 [.slice A_r' n_r' c_r',.bool q_r.2.2]::L)):=by
 have:=hp_r.len
 refine enter (args:=[.pointer (some ⟨g_r,0,none⟩)]) (N:=19) Try.func34 rfl rfl rfl ?_
 refine c_seq (c_region (st_m (al24 (cs:=[.int .u64 0,.int .i64 0]) hs rfl) ?_))
 rintro _ w2 ⟨g1,rfl,hs4⟩
 refine st (v:=.bool false) (x_assign .const) ?_
 refine c_nil (n_then (c_seq (c_region (st (v:=.pointer (some ⟨g_r,0,none⟩)) (x_move (.tmp rfl rfl)) ?_))))
 have hs5:=hs4.p1
 refine st_c cb36 .func (evs1 (.tmp rfl rfl)) (uint_q hp_r b_r hs5) ?_
 rintro e w10 ⟨q6,A7,n8,c9,hq11,hb12,hn13,rfl,hp14,hs15⟩
 refine ⟨_,rfl,?_⟩
 refine st (v:=.pointer (some ⟨g_r,0,none⟩)) (x_move (.tmp rfl rfl)) ?_
 refine st_c cb33 .func (evs2 (.tmp rfl rfl) .const) (int_q hp14 q6.2.2 15 (by omega) (by omega) hs15) ?_
 rintro e w20 ⟨q16,A17,n18,c19,hq21,hb22,hn23,rfl,hp24,hs25⟩
 refine ⟨_,rfl,?_⟩
 refine st (v:=.agg #[.int .u64 ((q6.1:Nat):Int),.int .i64 ((q16.1:Nat):Int)]) (bl24 (ps:=[(0,.int .u64 ((q6.1:Nat):Int)),(1,.int .i64 ((q16.1:Nat):Int))]) (.cons (.tmp rfl rfl) (.cons (.tmp rfl rfl) Evp.nil)) rfl) ?_
 refine st_m (al24 (cs:=[.int .u64 0,.int .i64 0]) hs25 rfl) ?_
 rintro _ w27 ⟨g26,rfl,hs29⟩
 refine st_m0 (sto24 (cs':=[.int .u64 ((q6.1:Nat):Int),.int .i64 ((q16.1:Nat):Int)]) (i:=0) hs29 (v:=.agg #[.int .u64 ((q6.1:Nat):Int),.int .i64 ((q16.1:Nat):Int)]) (.tmp rfl rfl) (.tmp rfl rfl) rfl (Nat.le_of_ble_eq_true rfl) (oneA rfl) rfl) ?_
 rintro w30 hs32
 refine c_nil (n_then (c_seq (c_seq (c_region (st (v:=.pointer (some ⟨g_r,0,none⟩)) (x_move (.tmp rfl rfl)) ?_)))))
 have hs33:=hs32.p1
 refine st_c cb37 .func (evs1 (.tmp rfl rfl)) (bad_own hs33) ?_
 rintro e w34 ⟨rfl,hs35⟩
 refine ⟨_,rfl,?_⟩
 refine st (v:=.bool q16.2.2) (x_move (.tmp rfl rfl)) ?_
 rcases Bool.eq_false_or_eq_true q16.2.2 with hc36 | hc36
 refine g_no (yk 12 true rfl rfl hc36) rfl ?_
 refine g_no (yk 12 true rfl rfl hc36) rfl ?_
 refine g_no (yk 12 true rfl rfl hc36) rfl ?_
 refine st (v:=.bool true) (x_pick_t (.tmp rfl (cVb hc36)) .const) ?_
 refine c_nil (n_then (c_cond_t (t:=true) (.tmp rfl rfl) rfl ?_))
 refine c_seq (c_region (st (v:=.agg #[.int .u64 0,.int .i64 0]) (bl24 (ps:=[]) Evp.nil rfl) ?_))
 have hs37:=hs35.p2
 refine st_m0 (sto24 (cs':=[.int .u64 0,.int .i64 0]) (i:=0) hs37 (v:=.agg #[.int .u64 0,.int .i64 0]) (.tmp rfl rfl) (.tmp rfl rfl) rfl (Nat.le_of_ble_eq_true rfl) (oneA rfl) rfl) ?_
 rintro w38 hs40
 refine st (v:=.bool false) (x_assign .const) ?_
 refine c_nil (n_then (c_ret (r_then (leave_ret (res_two (v:=.agg #[.int .u64 0,.int .i64 0]) (u:=.bool false) rfl (.mkCell rfl rfl (lv24 (cs:=[.int .u64 0,.int .i64 0]) (hs40.at_ 0 rfl 0 rfl) rfl)) (.mk rfl rfl)) ?_))))
 exact ⟨[.int .u64 0,.int .i64 0],((GViewID.mk 0 0,false),q16.2),A17,n18,c19,rfl,⟨rfl,(show 0 < 18446744073709551616 from by omega),(show IB 0 from ⟨by omega,by omega⟩)⟩,(vc_no hq11 hq21 (.inl hc36)),hp24,(by omega),(hs40.drop.p1).drop⟩
 refine g_yes (yk 12 false rfl rfl hc36) ?_
 refine st (v:=.agg #[.int .u64 ((q6.1:Nat):Int),.int .i64 ((q16.1:Nat):Int)]) (ld24 (cs:=[.int .u64 ((q6.1:Nat):Int),.int .i64 ((q16.1:Nat):Int)]) (.tmp rfl rfl) (hs35.at_ 1 rfl (0) rfl) rfl) ?_
 refine g_yes (yk 12 false rfl rfl hc36) ?_
 refine st_c cb61 .func (evs1 (.tmp rfl rfl)) (form_spec hs35 q6.1 ((q16.1:Nat):Int)) ?_
 rintro e w41 ⟨rfl,hs42⟩
 refine ⟨_,rfl,?_⟩
 refine g_yes (yk 12 false rfl rfl hc36) ?_
 refine st (v:=.bool (!(formV q6.1 ((q16.1:Nat):Int)))) (x_not (.tmp rfl rfl)) ?_
 refine st (v:=.bool (!(formV q6.1 ((q16.1:Nat):Int)))) (x_pick_f (.tmp rfl (cVb hc36)) (.tmp rfl rfl)) ?_
 refine c_nil (n_then ?_)
 rcases Bool.eq_false_or_eq_true (formV q6.1 ((q16.1:Nat):Int)) with hc43 | hc43
 refine c_cond_f (t:=false) (.tmp rfl (cVb (by rw [hc43]; rfl))) rfl ?_
 refine c_skip (n_then (c_seq (c_region (st (v:=.agg #[.int .u64 ((q6.1:Nat):Int),.int .i64 ((q16.1:Nat):Int)]) (ld24 (cs:=[.int .u64 ((q6.1:Nat):Int),.int .i64 ((q16.1:Nat):Int)]) (.tmp rfl rfl) (hs42.at_ 1 rfl (0) rfl) rfl) ?_))))
 have hs44:=hs42.p2
 refine st_m0 (sto24 (cs':=[.int .u64 ((q6.1:Nat):Int),.int .i64 ((q16.1:Nat):Int)]) (i:=0) hs44 (v:=.agg #[.int .u64 ((q6.1:Nat):Int),.int .i64 ((q16.1:Nat):Int)]) (.tmp rfl rfl) (.tmp rfl rfl) rfl (Nat.le_of_ble_eq_true rfl) (oneA rfl) rfl) ?_
 rintro w45 hs47
 refine st (v:=.bool true) (x_assign .const) ?_
 refine c_nil (n_then (c_ret (leave_ret (res_two (v:=.agg #[.int .u64 ((q6.1:Nat):Int),.int .i64 ((q16.1:Nat):Int)]) (u:=.bool true) rfl (.mkCell rfl rfl (lv24 (cs:=[.int .u64 ((q6.1:Nat):Int),.int .i64 ((q16.1:Nat):Int)]) (hs47.at_ 0 rfl 0 rfl) rfl)) (.mk rfl rfl)) ?_)))
 exact ⟨[.int .u64 ((q6.1:Nat):Int),.int .i64 ((q16.1:Nat):Int)],((GViewID.mk q6.1 ((q16.1:Nat):Int),true),q16.2),A17,n18,c19,rfl,⟨rfl,hb12,(show IB ((q16.1:Nat):Int) from ⟨by omega,by omega⟩)⟩,(vc_yes hq11 hq21 hc36 hc43),hp24,(by omega),(hs47.drop.p1).drop⟩
 refine c_cond_t (t:=true) (.tmp rfl (cVb (by rw [hc43]; rfl))) rfl ?_
 refine c_seq (c_region (st (v:=.agg #[.int .u64 0,.int .i64 0]) (bl24 (ps:=[]) Evp.nil rfl) ?_))
 have hs48:=hs42.p2
 refine st_m0 (sto24 (cs':=[.int .u64 0,.int .i64 0]) (i:=0) hs48 (v:=.agg #[.int .u64 0,.int .i64 0]) (.tmp rfl rfl) (.tmp rfl rfl) rfl (Nat.le_of_ble_eq_true rfl) (oneA rfl) rfl) ?_
 rintro w49 hs51
 refine st (v:=.bool false) (x_assign .const) ?_
 refine c_nil (n_then (c_ret (r_then (leave_ret (res_two (v:=.agg #[.int .u64 0,.int .i64 0]) (u:=.bool false) rfl (.mkCell rfl rfl (lv24 (cs:=[.int .u64 0,.int .i64 0]) (hs51.at_ 0 rfl 0 rfl) rfl)) (.mk rfl rfl)) ?_))))
 exact ⟨[.int .u64 0,.int .i64 0],((GViewID.mk 0 0,false),q16.2),A17,n18,c19,rfl,⟨rfl,(show 0 < 18446744073709551616 from by omega),(show IB 0 from ⟨by omega,by omega⟩)⟩,(vc_no hq11 hq21 (.inr hc43)),hp24,(by omega),(hs51.drop.p1).drop⟩
end Go.Proofs.Ytlfihfmmhhcigaa

set_option linter.unusedVariables false
set_option linter.unusedSimpArgs false
namespace Go.Proofs.Ytlfihfmmhhcigaa
open Go Go.FM Go.Proofs
attribute [local irreducible] wpList wpQuiet wpS Code.wp Calls
set_option maxHeartbeats 8000000 in
theorem itemsdec_spec {H:Hp} {w:World} {L:List Res} {g_r:Nat} {A_r:Option Addr} {n_r c_r:Nat} {r:List Nat} {b_r:Bool} (hs:St H w (obj g_r 98 [.slice A_r n_r c_r,.bool b_r]::L)) (hp_r:Bs H A_r n_r c_r r) (hn_r:n_r ≤ 140737488355320):Calls Try.prog 39 #[.pointer (some ⟨g_r,0,none⟩)] w (fun e w' => ∃ (H':Hp) (A0:Option Addr) (n0 c0:Nat) (q_r:List GItem × List Nat × Bool) (A_r':Option Addr) (n_r' c_r':Nat),H.le H'∧e = .returned (.slice A0 n0 c0)∧Sl kItem H' A0 n0 c0 (q_r.1)∧q_r = rdItems r b_r∧Bs H' A_r' n_r' c_r' q_r.2.1∧n_r' ≤ n_r∧St H' w' (obj g_r 98 [.slice A_r' n_r' c_r',.bool q_r.2.2]::L)):=by
 have:=hp_r.len
 refine enter (args:=[.pointer (some ⟨g_r,0,none⟩)]) (N:=25) Try.func39 rfl rfl rfl ?_
 refine c_seq (c_region (st (v:=.slice none 0 0) (x_assign .const) ?_))
 refine c_nil (n_then (c_seq (c_region (st (v:=.slice none 0 0) (x_assign .const) ?_))))
 refine c_nil (n_then (c_seq (c_seq (c_region (st (v:=.pointer (some ⟨g_r,0,none⟩)) (x_move (.tmp rfl rfl)) ?_)))))
 refine st_c cb33 .func (evs2 (.tmp rfl rfl) .const) (int_q hp_r b_r 4096 (by omega) (by omega) hs) ?_
 rintro e w5 ⟨q1,A2,n3,c4,hq6,hb7,hn8,rfl,hp9,hs10⟩
 refine ⟨_,rfl,?_⟩
 refine st (v:=.int .i64 ((q1.1:Nat):Int)) (x_assign (.tmp rfl rfl)) ?_
 refine c_nil (n_then (c_block ?_))
 have hs13:St H _ (row 49 2 (.slice none 0 0) (([]:List GItem).length) []::obj g_r 98 [.slice A2 n3 c4,.bool q1.2.2]::L):=hs10.krowNil 49 kItem
 have:([]:List GItem).length = 0:=rfl
 refine c_loop (fun ρ w mm => ∃ (H11:Hp) (k:Int) (l:List GItem) (v_l:Value) (c_l:List Value) (A2:Option Addr) (n2:Nat) (c2:Nat) (cur:List Nat) (bad:Bool),ρ 0 = .pointer (some ⟨g_r,0,none⟩)∧ρ 3 = v_l∧ρ 4 = .int .i64 k∧(H.le H11)∧(RowOk kItem.sz v_l l.length c_l)∧(kItem.toKn.rows H11 l c_l)∧(Bs H11 A2 n2 c2 cur)∧(n2 ≤ n_r)∧(0 ≤ k)∧(k ≤ 4096)∧((l.length:Int) + k ≤ 4096)∧(ItInv r b_r l k cur bad)∧St H11 w (row 49 2 v_l l.length c_l::obj g_r 98 [.slice A2 n2 c2,.bool bad]::L)∧mm = k.toNat) _ ⟨H,((q1.1:Nat):Int),([]:List GItem),(.slice none 0 0),[],A2,n3,c4,q1.2.1,q1.2.2,rfl,rfl,rfl,(Hp.le.refl _),(RowOk.knil kItem),(Kn.rows_nil _ _),hp9,(by omega),(by omega),(by omega),(by omega),(it_start hq6),((hs13.p1).p1),rfl⟩ ?_
 rintro ρ w mm ⟨H11,k,l,v_l,c_l,A2,n2,c2,cur,bad,hρ15,hρ16,hρ17,hg12,ok_l,hk_l,hp2,hn2,hk,hk2,hl,inv,hs18,rfl⟩
 refine c_seq (c_seq (c_region (st (v:=.int .i64 k) (x_move (.tmp rfl hρ17)) ?_)))
 refine st (v:=.bool (decide ((0:Int) < k))) (x_gtr (k:=.i64) (a:=k) (b:=0) (.tmp rfl rfl) .const) ?_
 refine st (v:=.bool (decide ((0:Int) < k))) (x_move (.tmp rfl rfl)) ?_
 rcases Bool.eq_false_or_eq_true (decide ((0:Int) < k)) with hc19 | hc19
 have hp19:(0:Int) < k:=of_decide_eq_true hc19
 refine g_yes (yk 9 true rfl rfl hc19) ?_
 refine st (v:=.pointer (some ⟨g_r,0,none⟩)) (x_move (.tmp rfl hρ15)) ?_
 refine g_yes (yk 9 true rfl rfl hc19) ?_
 have hs20:=hs18.p1
 refine st_c cb37 .func (evs1 (.tmp rfl rfl)) (bad_own hs20) ?_
 rintro e w21 ⟨rfl,hs22⟩
 refine ⟨_,rfl,?_⟩
 refine g_yes (yk 9 true rfl rfl hc19) ?_
 refine st (v:=.bool (!bad)) (x_not (.tmp rfl rfl)) ?_
 refine st (v:=.bool (!bad)) (x_pick_t (.tmp rfl (cVb hc19)) (.tmp rfl rfl)) ?_
 refine c_nil (n_then ?_)
 rcases Bool.eq_false_or_eq_true bad with hc23 | hc23
 refine c_cond_f (t:=false) (.tmp rfl (cVb (by rw [hc23]; rfl))) rfl ?_
 refine c_exit (x_then (x_then (x_here (n_then (c_seq (c_region (st (v:=v_l) (x_move (.tmp rfl hρ16)) ?_)))))))
 refine st (v:=v_l) (x_assign (.tmp rfl rfl)) ?_
 refine c_nil (n_then (c_ret (leave_ret (res_one (v:=v_l) rfl (.mk rfl rfl)) ?_)))
 have hs24:=hs22.p1
 have:l.length * 32 ≤ 140737488351232:=by omega
 obtain ⟨H25,A26,c27,hle28,hs29,rfl,sp30⟩:=hs24.freezeSl (d:=kItem) ok_l hk_l this
 have:=sp30.len; have:=sp30.le
 exact ⟨H25,A26,l.length,c27,(l,cur,bad),A2,n2,c2,(hg12.trans hle28),rfl,sp30,(it_done inv (.inr hc23)),(hp2.mono hle28),(by omega),hs29⟩
 refine c_cond_t (t:=true) (.tmp rfl (cVb (by rw [hc23]; rfl))) rfl ?_
 refine c_skip (n_then (c_seq (c_block (c_region (st (v:=v_l) (x_move (.tmp rfl hρ16)) ?_)))))
 refine st (v:=.pointer (some ⟨g_r,0,none⟩)) (x_move (.tmp rfl hρ15)) ?_
 refine st_c cb33 .func (evs2 (.tmp rfl rfl) .const) (int_q hp2 bad 15 (by omega) (by omega) hs22) ?_
 rintro e w35 ⟨q31,A32,n33,c34,hq36,hb37,hn38,rfl,hp39,hs40⟩
 refine ⟨_,rfl,?_⟩
 refine st (v:=.pointer (some ⟨g_r,0,none⟩)) (x_move (.tmp rfl hρ15)) ?_
 refine st_c cb38 .func (evs2 (.tmp rfl rfl) .const) (bytes_q hp39 (by omega) q31.2.2 1048576 (by omega) (by omega) hs40) ?_
 rintro e w45 ⟨v51,q41,A42,n43,c44,hq46,⟨sm53,hl55,ok54⟩,hn48,rfl,hp49,hs50⟩
 refine ⟨_,rfl,?_⟩
 obtain ⟨H56,A57,c58,hle59,hs60,rfl,hp61⟩:=hs50.freezeBs ok54 sm53 (by omega)
 have hy62:By H56 A57 q41.1.length c58 q41.1:=⟨hp61,by omega⟩
 refine st (v:=.agg #[.int .i64 ((q31.1:Nat):Int),.slice A57 q41.1.length c58]) (bl49 (ps:=[(0,.int .i64 ((q31.1:Nat):Int)),(1,.slice A57 q41.1.length c58)]) (.cons (.tmp rfl rfl) (.cons (.tmp rfl rfl) Evp.nil)) rfl) ?_
 refine st_m (m_lit (n:=1) (ps:=[(0,.agg #[.int .i64 ((q31.1:Nat):Int),.slice A57 q41.1.length c58])]) (cs:=[.int .i64 ((q31.1:Nat):Int),.slice A57 q41.1.length c58]) Try.underlying28 inf49 (.cons (.tmp rfl rfl) Evp.nil) (by decide) (by decide) rfl rfl hs60) ?_
 rintro _ w65 ⟨g63,rfl,hs67⟩
 have hs68:=hs67.p2
 have hr76:kItem.rep H56 (GItem.mk ((q31.1:Nat):Int) q41.1) [.int .i64 ((q31.1:Nat):Int),.slice A57 q41.1.length c58]:=⟨A57,q41.1.length,c58,rfl,(show IB ((q31.1:Nat):Int) from ⟨by omega,by omega⟩),hy62⟩
 refine st_m (m_appK (d:=kItem) (ys:=[(GItem.mk ((q31.1:Nat):Int) q41.1)]) (news:=[.int .i64 ((q31.1:Nat):Int),.slice A57 q41.1.length c58]) Try.underlying28 inf49 rfl hs68 ok_l (Kn.rows_mono hk_l hle59) (.tmp rfl rfl) (.tmp rfl rfl) (Kn.rows_one hr76) rfl (hs68.at_ 1 rfl 0 rfl) (by have:([(GItem.mk ((q31.1:Nat):Int) q41.1)]:List GItem).length = 1:=rfl; omega) (by decide)) ?_
 rintro v69 w70 ⟨cs71,ok72,hk73,hs74⟩
 have hn75:(l ++ [(GItem.mk ((q31.1:Nat):Int) q41.1)]).length = l.length + 1:=by simp
 refine st (v:=v69) (x_assign (.tmp rfl rfl)) ?_
 refine c_nil (n_block (n_then (c_region (st (v:=.int .i64 k) (x_move (.tmp rfl hρ17)) ?_))))
 refine st (v:=.int .i64 (k - 1)) (x_sub (k:=.i64) (a:=k) (b:=1) (.tmp rfl rfl) .const (w64 (by omega) (by omega))) ?_
 refine st (v:=.int .i64 (k - 1)) (x_assign (.tmp rfl rfl)) ?_
 refine c_nil ?_
 refine n_then ⟨_,_,rfl,?_,H56,(k - 1),(l ++ [(GItem.mk ((q31.1:Nat):Int) q41.1)]),v69,cs71,A42,n43,c44,q41.2.1,q41.2.2,hρ15,rfl,rfl,(hg12.trans hle59),ok72,hk73,(hp49.mono hle59),(by omega),(by omega),(by omega),(by omega),(it_step inv (by omega) hc23 hq36 hq46),(((hs74.p1).drop.p1).p1),rfl⟩
 omega
 have hp19:¬ ((0:Int) < k):=of_decide_eq_false hc19
 refine g_no (yk 9 false rfl rfl hc19) rfl ?_
 refine g_no (yk 9 false rfl rfl hc19) rfl ?_
 refine g_no (yk 9 false rfl rfl hc19) rfl ?_
 refine st (v:=.bool false) (x_pick_f (.tmp rfl (cVb hc19)) .const) ?_
 refine c_nil (n_then (c_cond_f (t:=false) (.tmp rfl rfl) rfl ?_))
 refine c_exit (x_then (x_then (x_here (n_then (c_seq (c_region (st (v:=v_l) (x_move (.tmp rfl hρ16)) ?_)))))))
 refine st (v:=v_l) (x_assign (.tmp rfl rfl)) ?_
 refine c_nil (n_then (c_ret (leave_ret (res_one (v:=v_l) rfl (.mk rfl rfl)) ?_)))
 have:l.length * 32 ≤ 140737488351232:=by omega
 obtain ⟨H77,A78,c79,hle80,hs81,rfl,sp82⟩:=hs18.freezeSl (d:=kItem) ok_l hk_l this
 have:=sp82.len; have:=sp82.le
 exact ⟨H77,A78,l.length,c79,(l,cur,bad),A2,n2,c2,(hg12.trans hle80),rfl,sp82,(it_done inv (.inl (by omega))),(hp2.mono hle80),(by omega),hs81⟩
end Go.Proofs.Ytlfihfmmhhcigaa

set_option linter.unusedVariables false
set_option linter.unusedSimpArgs false
namespace Go.Proofs.Ytlfihfmmhhcigaa
open Go Go.FM Go.Proofs
attribute [local irreducible] wpList wpQuiet wpS Code.wp Calls
set_option maxHeartbeats 8000000 in
theorem statesdec_spec {H:Hp} {w:World} {L:List Res} {g_r:Nat} {A_r:Option Addr} {n_r c_r:Nat} {r:List Nat} {b_r:Bool} (hs:St H w (obj g_r 98 [.slice A_r n_r c_r,.bool b_r]::L)) (hp_r:Bs H A_r n_r c_r r) (hn_r:n_r ≤ 140737488355320):Calls Try.prog 35 #[.pointer (some ⟨g_r,0,none⟩)] w (fun e w' => ∃ (H':Hp) (A0:Option Addr) (n0 c0:Nat) (q_r:(List GState × Bool) × List Nat × Bool) (A_r':Option Addr) (n_r' c_r':Nat),H.le H'∧e = .returned (.tuple #[.slice A0 n0 c0,.bool q_r.1.2])∧Sl kState H' A0 n0 c0 (q_r.1.1)∧q_r = statesC r b_r∧Bs H' A_r' n_r' c_r' q_r.2.1∧n_r' ≤ n_r∧St H' w' (obj g_r 98 [.slice A_r' n_r' c_r',.bool q_r.2.2]::L)):=by
 have:=hp_r.len
 refine enter (args:=[.pointer (some ⟨g_r,0,none⟩)]) (N:=43) Try.func35 rfl rfl rfl ?_
 refine c_seq (c_region (st (v:=.slice none 0 0) (x_assign .const) ?_))
 refine st (v:=.bool false) (x_assign .const) ?_
 refine c_nil (n_then (c_seq (c_region (st (v:=.slice none 0 0) (x_assign .const) ?_))))
 refine c_nil (n_then (c_seq (c_seq (c_region (st (v:=.pointer (some ⟨g_r,0,none⟩)) (x_move (.tmp rfl rfl)) ?_)))))
 refine st_c cb33 .func (evs2 (.tmp rfl rfl) .const) (int_q hp_r b_r 4096 (by omega) (by omega) hs) ?_
 rintro e w5 ⟨q1,A2,n3,c4,hq6,hb7,hn8,rfl,hp9,hs10⟩
 refine ⟨_,rfl,?_⟩
 refine st (v:=.int .i64 ((q1.1:Nat):Int)) (x_assign (.tmp rfl rfl)) ?_
 refine c_nil (n_then (c_block ?_))
 have hs13:St H _ (row 52 4 (.slice none 0 0) (([]:List GState).length) []::obj g_r 98 [.slice A2 n3 c4,.bool q1.2.2]::L):=hs10.krowNil 52 kState
 have:([]:List GState).length = 0:=rfl
 refine c_loop (fun ρ w mm => ∃ (H11:Hp) (k:Int) (l:List GState) (v_l:Value) (c_l:List Value) (A2:Option Addr) (n2:Nat) (c2:Nat) (cur:List Nat) (bad:Bool),ρ 0 = .pointer (some ⟨g_r,0,none⟩)∧ρ 4 = v_l∧ρ 5 = .int .i64 k∧(H.le H11)∧(RowOk kState.sz v_l l.length c_l)∧(kState.toKn.rows H11 l c_l)∧(Bs H11 A2 n2 c2 cur)∧(n2 ≤ n_r)∧(0 ≤ k)∧(k ≤ 4096)∧((l.length:Int) + k ≤ 4096)∧(StInv r b_r l k cur bad)∧St H11 w (row 52 4 v_l l.length c_l::obj g_r 98 [.slice A2 n2 c2,.bool bad]::L)∧mm = k.toNat) _ ⟨H,((q1.1:Nat):Int),([]:List GState),(.slice none 0 0),[],A2,n3,c4,q1.2.1,q1.2.2,rfl,rfl,rfl,(Hp.le.refl _),(RowOk.knil kState),(Kn.rows_nil _ _),hp9,(by omega),(by omega),(by omega),(by omega),(st_start hq6),((hs13.p1).p1),rfl⟩ ?_
 rintro ρ w mm ⟨H11,k,l,v_l,c_l,A2,n2,c2,cur,bad,hρ15,hρ16,hρ17,hg12,ok_l,hk_l,hp2,hn2,hk,hk2,hl,inv,hs18,rfl⟩
 refine c_seq (c_seq (c_region (st (v:=.int .i64 k) (x_move (.tmp rfl hρ17)) ?_)))
 refine st (v:=.bool (decide ((0:Int) < k))) (x_gtr (k:=.i64) (a:=k) (b:=0) (.tmp rfl rfl) .const) ?_
 refine st (v:=.bool (decide ((0:Int) < k))) (x_move (.tmp rfl rfl)) ?_
 rcases Bool.eq_false_or_eq_true (decide ((0:Int) < k)) with hc19 | hc19
 have hp19:(0:Int) < k:=of_decide_eq_true hc19
 refine g_yes (yk 13 true rfl rfl hc19) ?_
 refine st (v:=.pointer (some ⟨g_r,0,none⟩)) (x_move (.tmp rfl hρ15)) ?_
 refine g_yes (yk 13 true rfl rfl hc19) ?_
 have hs20:=hs18.p1
 refine st_c cb37 .func (evs1 (.tmp rfl rfl)) (bad_own hs20) ?_
 rintro e w21 ⟨rfl,hs22⟩
 refine ⟨_,rfl,?_⟩
 refine g_yes (yk 13 true rfl rfl hc19) ?_
 refine st (v:=.bool (!bad)) (x_not (.tmp rfl rfl)) ?_
 refine st (v:=.bool (!bad)) (x_pick_t (.tmp rfl (cVb hc19)) (.tmp rfl rfl)) ?_
 refine c_nil (n_then ?_)
 rcases Bool.eq_false_or_eq_true bad with hc23 | hc23
 refine c_cond_f (t:=false) (.tmp rfl (cVb (by rw [hc23]; rfl))) rfl ?_
 refine c_exit (x_then (x_then (x_here (n_then (c_seq (c_region (st (v:=v_l) (x_move (.tmp rfl hρ16)) ?_)))))))
 refine st (v:=v_l) (x_assign (.tmp rfl rfl)) ?_
 refine st (v:=.bool true) (x_assign .const) ?_
 refine c_nil (n_then (c_ret (leave_ret (res_two (v:=v_l) (u:=.bool true) rfl (.mk rfl rfl) (.mk rfl rfl)) ?_)))
 have hs24:=hs22.p1
 have:l.length * 48 ≤ 140737488351232:=by omega
 obtain ⟨H25,A26,c27,hle28,hs29,rfl,sp30⟩:=hs24.freezeSl (d:=kState) ok_l hk_l this
 have:=sp30.len; have:=sp30.le
 exact ⟨H25,A26,l.length,c27,((l,true),cur,bad),A2,n2,c2,(hg12.trans hle28),rfl,sp30,(st_done inv (.inr hc23)),(hp2.mono hle28),(by omega),hs29⟩
 refine c_cond_t (t:=true) (.tmp rfl (cVb (by rw [hc23]; rfl))) rfl ?_
 refine c_skip (n_then (c_seq (c_block (c_seq (c_region (st (v:=.pointer (some ⟨g_r,0,none⟩)) (x_move (.tmp rfl hρ15)) ?_))))))
 refine st_c cb34 .func (evs1 (.tmp rfl rfl)) (vdec_spec hs22 hp2 (by omega) ) ?_
 rintro e w32 ⟨cs34,q31,A36,n37,c38,rfl,hr35,hq39,hp40,hn41,hs33⟩
 obtain ⟨rfl,b42,⟨b43,b44⟩⟩:=hr35
 refine ⟨_,rfl,?_⟩
 refine st (v:=.tuple #[.agg #[.int .u64 ((q31.1.1.N:Nat):Int),.int .i64 q31.1.1.P],.bool q31.1.2]) (x_move (.tmp rfl rfl)) ?_
 refine st (v:=.agg #[.int .u64 ((q31.1.1.N:Nat):Int),.int .i64 q31.1.1.P]) (x_extract (.tmp rfl rfl) (i:=0) rfl) ?_
 refine st (v:=.bool q31.1.2) (x_extract (.tmp rfl rfl) (i:=1) rfl) ?_
 refine st_m (al24 (cs:=[.int .u64 0,.int .i64 0]) hs33 rfl) ?_
 rintro _ w46 ⟨g45,rfl,hs48⟩
 refine st_m0 (sto24 (cs':=[.int .u64 ((q31.1.1.N:Nat):Int),.int .i64 q31.1.1.P]) (i:=0) hs48 (v:=.agg #[.int .u64 ((q31.1.1.N:Nat):Int),.int .i64 q31.1.1.P]) (.tmp rfl rfl) (.tmp rfl rfl) rfl (Nat.le_of_ble_eq_true rfl) (oneA rfl) rfl) ?_
 rintro w49 hs51
 refine st (v:=.bool q31.1.2) (x_assign (.tmp rfl rfl)) ?_
 refine c_nil (n_then (c_seq (t_region (L:=obj g45 24 [.int .u64 ((q31.1.1.N:Nat):Int),.int .i64 q31.1.1.P]::obj g_r 98 [.slice A36 n37 c38,.bool q31.2.2]::row 52 4 v_l l.length c_l::L) (L':=obj g45 24 [.int .u64 ((q31.1.1.N:Nat):Int),.int .i64 q31.1.1.P]::row 52 4 v_l l.length c_l::L) (Z:=[7]) (F:=[]) (pl:=(.q 0 (.q 1 (.q 3 (.two 2 (.two 4 (.q 5 (.e 6 (.e 7 .done))) 6 (.e 4 (.q 5 (.e 7 .done)))) 6 (.e 2 (.e 4 (.q 5 (.e 7 .done))))))))) mixed hs51 (fun u hu => (hu.p1).drop) (by kernel_rfl) ?_)))
 intro w52 hs53
 refine t_st (k:=0) (v:=.agg #[.int .u64 ((q31.1.1.N:Nat):Int),.int .i64 q31.1.1.P]) rfl rfl (fun w hs => (ld24 (cs:=[.int .u64 ((q31.1.1.N:Nat):Int),.int .i64 q31.1.1.P]) (.tmp rfl rfl) (hs.at_ 0 rfl (0) rfl) rfl)) ?_
 refine t_st (k:=1) (v:=.pointer (some ⟨g_r,0,none⟩)) rfl rfl (fun w hs => (x_move (.tmp rfl hρ15))) ?_
 refine t_st (k:=3) (v:=.pointer (some ⟨g_r,0,none⟩)) rfl rfl (fun w hs => (x_move (.tmp rfl hρ15))) ?_
 refine t_two ?_ ?_
 refine t_eff (k:=2) rfl ?_
 have hs54:=hs53.p1
 refine st_c cb33 .func (evs2 (.tmp rfl rfl) .const) (int_q hp40 q31.2.2 1073741824 (by omega) (by omega) hs54) ?_
 rintro e w59 ⟨q55,A56,n57,c58,hq60,hb61,hn62,rfl,hp63,hs64⟩
 refine ⟨_,rfl,?_⟩
 refine t_on (S':=fun u => St H11 u (obj g45 24 [.int .u64 ((q31.1.1.N:Nat):Int),.int .i64 q31.1.1.P]::row 52 4 v_l l.length c_l::L)) (fun u hu => hu) hs64.drop ?_
 refine t_two ?_ ?_
 refine t_eff (k:=4) rfl ?_
 refine st_c cb39 .func (evs1 (.tmp rfl rfl)) (itemsdec_spec hs64 hp63 (by omega) ) ?_
 rintro e w66 ⟨H68,A70,n71,c72,q65,A74,n75,c76,hle69,rfl,sp73,hq77,hp78,hn79,hs67⟩
 have:=sp73.len; have:=sp73.le; have:n71 * 32 ≤ 140737488351232:=sp73.bnd
 refine ⟨_,rfl,?_⟩
 refine t_on (S':=fun u => St H68 u (obj g45 24 [.int .u64 ((q31.1.1.N:Nat):Int),.int .i64 q31.1.1.P]::row 52 4 v_l l.length c_l::L)) (fun u hu => hu.weaken hle69) hs67.drop ?_
 refine t_st (k:=5) (v:=.agg #[.int .u64 ((q31.1.1.N:Nat):Int),.int .i64 q31.1.1.P,.int .i64 ((q55.1:Nat):Int),.slice A70 n71 c72]) rfl rfl (fun w hs => (bl52 (ps:=[(0,.agg #[.int .u64 ((q31.1.1.N:Nat):Int),.int .i64 q31.1.1.P]),(1,.int .i64 ((q55.1:Nat):Int)),(2,.slice A70 n71 c72)]) (.cons (.tmp rfl rfl) (.cons (.tmp rfl rfl) (.cons (.tmp rfl rfl) Evp.nil))) rfl)) ?_
 refine t_eff (k:=6) rfl ?_
 refine st_m (al52 (cs:=[.int .u64 0,.int .i64 0,.int .i64 0,.slice none 0 0]) hs67 rfl) ?_
 rintro _ w81 ⟨g80,rfl,hs83⟩
 refine t_on (S':=fun u => St H68 u (obj g80 52 [.int .u64 0,.int .i64 0,.int .i64 0,.slice none 0 0]::obj g45 24 [.int .u64 ((q31.1.1.N:Nat):Int),.int .i64 q31.1.1.P]::row 52 4 v_l l.length c_l::L)) (fun u hu => hu.drop) (hs83.p1).drop ?_
 refine t_eff (k:=7) rfl ?_
 refine st_m0 (sto52 (cs':=[.int .u64 ((q31.1.1.N:Nat):Int),.int .i64 q31.1.1.P,.int .i64 ((q55.1:Nat):Int),.slice A70 n71 c72]) (i:=0) hs83 (v:=.agg #[.int .u64 ((q31.1.1.N:Nat):Int),.int .i64 q31.1.1.P,.int .i64 ((q55.1:Nat):Int),.slice A70 n71 c72]) (.tmp rfl rfl) (.tmp rfl rfl) rfl (Nat.le_of_ble_eq_true rfl) (oneA rfl) rfl) ?_
 rintro w84 hs86
 refine t_new (S':=fun u => St H68 u (obj g80 52 [.int .u64 ((q31.1.1.N:Nat):Int),.int .i64 q31.1.1.P,.int .i64 ((q55.1:Nat):Int),.slice A70 n71 c72]::obj g_r 98 [.slice A74 n75 c76,.bool q65.2.2]::obj g45 24 [.int .u64 ((q31.1.1.N:Nat):Int),.int .i64 q31.1.1.P]::row 52 4 v_l l.length c_l::L)) rfl hs86 ?_
 refine t_nil ?_
 refine n_then (c_seq (c_seq (c_region (st (v:=.bool q31.1.2) (x_move (.tmp rfl rfl)) ?_))))
 refine st (v:=.bool (!q31.1.2)) (x_not (.tmp rfl rfl)) ?_
 refine st (v:=.bool (!q31.1.2)) (x_move (.tmp rfl rfl)) ?_
 rcases Bool.eq_false_or_eq_true q31.1.2 with hc87 | hc87
 refine g_yes (yl (dj:=33) (b:=false) rfl rfl (cVb (by rw [hc87]; rfl))) ?_
 refine st (v:=.agg #[.int .u64 ((q31.1.1.N:Nat):Int),.int .i64 q31.1.1.P,.int .i64 ((q55.1:Nat):Int),.slice A70 n71 c72]) (ld52 (cs:=[.int .u64 ((q31.1.1.N:Nat):Int),.int .i64 q31.1.1.P,.int .i64 ((q55.1:Nat):Int),.slice A70 n71 c72]) (.tmp rfl rfl) (hs86.at_ 0 rfl (0) rfl) rfl) ?_
 refine g_yes (yl (dj:=33) (b:=false) rfl rfl (cVb (by rw [hc87]; rfl))) ?_
 have hr88:kState.rep H68 (GState.mk q31.1.1 ((q55.1:Nat):Int) q65.1) [.int .u64 ((q31.1.1.N:Nat):Int),.int .i64 q31.1.1.P,.int .i64 ((q55.1:Nat):Int),.slice A70 n71 c72]:=⟨A70,n71,c72,rfl,b42,⟨b43,b44⟩,(show IB ((q55.1:Nat):Int) from ⟨by omega,by omega⟩),sp73⟩
 refine st_c cb57 .func (evs1 (.tmp rfl rfl)) (cform_spec hs86 (GState.mk q31.1.1 ((q55.1:Nat):Int) q65.1) hr88 ) ?_
 rintro e w89 ⟨rfl,hs90⟩
 refine ⟨_,rfl,?_⟩
 refine g_yes (yl (dj:=33) (b:=false) rfl rfl (cVb (by rw [hc87]; rfl))) ?_
 refine st (v:=.bool (!(sForm (GState.mk q31.1.1 ((q55.1:Nat):Int) q65.1)))) (x_not (.tmp rfl rfl)) ?_
 refine st (v:=.bool (!(sForm (GState.mk q31.1.1 ((q55.1:Nat):Int) q65.1)))) (x_pick_f (.tmp rfl (cVb (by rw [hc87]; rfl))) (.tmp rfl rfl)) ?_
 refine c_nil (n_then ?_)
 rcases Bool.eq_false_or_eq_true (sForm (GState.mk q31.1.1 ((q55.1:Nat):Int) q65.1)) with hc91 | hc91
 refine c_cond_f (t:=false) (.tmp rfl (cVb (by rw [hc91]; rfl))) rfl ?_
 refine c_skip (n_then (c_region (st (v:=v_l) (x_move (.tmp rfl hρ16)) ?_)))
 refine st (v:=.agg #[.int .u64 ((q31.1.1.N:Nat):Int),.int .i64 q31.1.1.P,.int .i64 ((q55.1:Nat):Int),.slice A70 n71 c72]) (ld52 (cs:=[.int .u64 ((q31.1.1.N:Nat):Int),.int .i64 q31.1.1.P,.int .i64 ((q55.1:Nat):Int),.slice A70 n71 c72]) (.tmp rfl rfl) (hs90.at_ 0 rfl (0) rfl) rfl) ?_
 refine st_m (m_lit (n:=1) (ps:=[(0,.agg #[.int .u64 ((q31.1.1.N:Nat):Int),.int .i64 q31.1.1.P,.int .i64 ((q55.1:Nat):Int),.slice A70 n71 c72])]) (cs:=[.int .u64 ((q31.1.1.N:Nat):Int),.int .i64 q31.1.1.P,.int .i64 ((q55.1:Nat):Int),.slice A70 n71 c72]) Try.underlying26 inf52 (.cons (.tmp rfl rfl) Evp.nil) (by decide) (by decide) rfl rfl hs90) ?_
 rintro _ w93 ⟨g92,rfl,hs95⟩
 have hs96:=hs95.p4
 have hr104:kState.rep H68 (GState.mk q31.1.1 ((q55.1:Nat):Int) q65.1) [.int .u64 ((q31.1.1.N:Nat):Int),.int .i64 q31.1.1.P,.int .i64 ((q55.1:Nat):Int),.slice A70 n71 c72]:=⟨A70,n71,c72,rfl,b42,⟨b43,b44⟩,(show IB ((q55.1:Nat):Int) from ⟨by omega,by omega⟩),sp73⟩
 refine st_m (m_appK (d:=kState) (ys:=[(GState.mk q31.1.1 ((q55.1:Nat):Int) q65.1)]) (news:=[.int .u64 ((q31.1.1.N:Nat):Int),.int .i64 q31.1.1.P,.int .i64 ((q55.1:Nat):Int),.slice A70 n71 c72]) Try.underlying26 inf52 rfl hs96 ok_l (Kn.rows_mono hk_l hle69) (.tmp rfl rfl) (.tmp rfl rfl) (Kn.rows_one hr104) rfl (hs96.at_ 1 rfl 0 rfl) (by have:([(GState.mk q31.1.1 ((q55.1:Nat):Int) q65.1)]:List GState).length = 1:=rfl; omega) (by decide)) ?_
 rintro v97 w98 ⟨cs99,ok100,hk101,hs102⟩
 have hn103:(l ++ [(GState.mk q31.1.1 ((q55.1:Nat):Int) q65.1)]).length = l.length + 1:=by simp
 refine st (v:=v97) (x_assign (.tmp rfl rfl)) ?_
 refine c_nil (n_block (n_then (c_region (st (v:=.int .i64 k) (x_move (.tmp rfl hρ17)) ?_))))
 refine st (v:=.int .i64 (k - 1)) (x_sub (k:=.i64) (a:=k) (b:=1) (.tmp rfl rfl) .const (w64 (by omega) (by omega))) ?_
 refine st (v:=.int .i64 (k - 1)) (x_assign (.tmp rfl rfl)) ?_
 refine c_nil ?_
 refine n_then ⟨_,_,rfl,?_,H68,(k - 1),(l ++ [(GState.mk q31.1.1 ((q55.1:Nat):Int) q65.1)]),v97,cs99,A74,n75,c76,q65.2.1,q65.2.2,hρ15,rfl,rfl,(hg12.trans hle69),ok100,hk101,hp78,(by omega),(by omega),(by omega),(by omega),(st_step inv (by omega) hc23 hq39 hq60 hq77 hc87 hc91),(((((hs102.p1).drop.p1).drop.p2).drop.p1).p1),rfl⟩
 omega
 refine c_cond_t (t:=true) (.tmp rfl (cVb (by rw [hc91]; rfl))) rfl ?_
 refine c_seq (c_region (st (v:=.slice none 0 0) (x_assign .const) ?_))
 refine st (v:=.bool false) (x_assign .const) ?_
 refine c_nil (n_then (c_ret (r_then (r_block (r_then (r_then (r_block (r_then (leave_ret (res_two (v:=.slice none 0 0) (u:=.bool false) rfl (.mk rfl rfl) (.mk rfl rfl)) ?_)))))))))
 exact ⟨H68,none,0,0,(([],false),q65.2),A74,n75,c76,(hg12.trans hle69),rfl,(Sl.nil _ _ none),(st_no inv (by omega) hc23 hq39 hq60 hq77 (.inr hc91)),hp78,(by omega),((hs90.drop.p1).drop.p1).drop⟩
 refine g_no (yl (dj:=33) (b:=true) rfl rfl (cVb (by rw [hc87]; rfl))) rfl ?_
 refine g_no (yl (dj:=33) (b:=true) rfl rfl (cVb (by rw [hc87]; rfl))) rfl ?_
 refine g_no (yl (dj:=33) (b:=true) rfl rfl (cVb (by rw [hc87]; rfl))) rfl ?_
 refine st (v:=.bool true) (x_pick_t (.tmp rfl (cVb (by rw [hc87]; rfl))) .const) ?_
 refine c_nil (n_then (c_cond_t (t:=true) (.tmp rfl rfl) rfl ?_))
 refine c_seq (c_region (st (v:=.slice none 0 0) (x_assign .const) ?_))
 refine st (v:=.bool false) (x_assign .const) ?_
 refine c_nil (n_then (c_ret (r_then (r_block (r_then (r_then (r_block (r_then (leave_ret (res_two (v:=.slice none 0 0) (u:=.bool false) rfl (.mk rfl rfl) (.mk rfl rfl)) ?_)))))))))
 exact ⟨H68,none,0,0,(([],false),q65.2),A74,n75,c76,(hg12.trans hle69),rfl,(Sl.nil _ _ none),(st_no inv (by omega) hc23 hq39 hq60 hq77 (.inl hc87)),hp78,(by omega),((hs86.drop.p1).drop.p1).drop⟩
 refine t_eff (k:=6) rfl ?_
 refine st_m (al52 (cs:=[.int .u64 0,.int .i64 0,.int .i64 0,.slice none 0 0]) hs64 rfl) ?_
 rintro _ w106 ⟨g105,rfl,hs108⟩
 refine t_on (S':=fun u => St H11 u (obj g105 52 [.int .u64 0,.int .i64 0,.int .i64 0,.slice none 0 0]::obj g45 24 [.int .u64 ((q31.1.1.N:Nat):Int),.int .i64 q31.1.1.P]::row 52 4 v_l l.length c_l::L)) (fun u hu => hu.drop) (hs108.p1).drop ?_
 refine t_eff (k:=4) rfl ?_
 have hs109:=hs108.p1
 refine st_c cb39 .func (evs1 (.tmp rfl rfl)) (itemsdec_spec hs109 hp63 (by omega) ) ?_
 rintro e w111 ⟨H113,A115,n116,c117,q110,A119,n120,c121,hle114,rfl,sp118,hq122,hp123,hn124,hs112⟩
 have:=sp118.len; have:=sp118.le; have:n116 * 32 ≤ 140737488351232:=sp118.bnd
 refine ⟨_,rfl,?_⟩
 refine t_on (S':=fun u => St H113 u (obj g105 52 [.int .u64 0,.int .i64 0,.int .i64 0,.slice none 0 0]::obj g45 24 [.int .u64 ((q31.1.1.N:Nat):Int),.int .i64 q31.1.1.P]::row 52 4 v_l l.length c_l::L)) (fun u hu => hu.weaken hle114) hs112.drop ?_
 refine t_st (k:=5) (v:=.agg #[.int .u64 ((q31.1.1.N:Nat):Int),.int .i64 q31.1.1.P,.int .i64 ((q55.1:Nat):Int),.slice A115 n116 c117]) rfl rfl (fun w hs => (bl52 (ps:=[(0,.agg #[.int .u64 ((q31.1.1.N:Nat):Int),.int .i64 q31.1.1.P]),(1,.int .i64 ((q55.1:Nat):Int)),(2,.slice A115 n116 c117)]) (.cons (.tmp rfl rfl) (.cons (.tmp rfl rfl) (.cons (.tmp rfl rfl) Evp.nil))) rfl)) ?_
 refine t_eff (k:=7) rfl ?_
 have hs125:=hs112.p1
 refine st_m0 (sto52 (cs':=[.int .u64 ((q31.1.1.N:Nat):Int),.int .i64 q31.1.1.P,.int .i64 ((q55.1:Nat):Int),.slice A115 n116 c117]) (i:=0) hs125 (v:=.agg #[.int .u64 ((q31.1.1.N:Nat):Int),.int .i64 q31.1.1.P,.int .i64 ((q55.1:Nat):Int),.slice A115 n116 c117]) (.tmp rfl rfl) (.tmp rfl rfl) rfl (Nat.le_of_ble_eq_true rfl) (oneA rfl) rfl) ?_
 rintro w126 hs128
 refine t_new (S':=fun u => St H113 u (obj g105 52 [.int .u64 ((q31.1.1.N:Nat):Int),.int .i64 q31.1.1.P,.int .i64 ((q55.1:Nat):Int),.slice A115 n116 c117]::obj g_r 98 [.slice A119 n120 c121,.bool q110.2.2]::obj g45 24 [.int .u64 ((q31.1.1.N:Nat):Int),.int .i64 q31.1.1.P]::row 52 4 v_l l.length c_l::L)) rfl hs128 ?_
 refine t_nil ?_
 refine n_then (c_seq (c_seq (c_region (st (v:=.bool q31.1.2) (x_move (.tmp rfl rfl)) ?_))))
 refine st (v:=.bool (!q31.1.2)) (x_not (.tmp rfl rfl)) ?_
 refine st (v:=.bool (!q31.1.2)) (x_move (.tmp rfl rfl)) ?_
 rcases Bool.eq_false_or_eq_true q31.1.2 with hc129 | hc129
 refine g_yes (yl (dj:=33) (b:=false) rfl rfl (cVb (by rw [hc129]; rfl))) ?_
 refine st (v:=.agg #[.int .u64 ((q31.1.1.N:Nat):Int),.int .i64 q31.1.1.P,.int .i64 ((q55.1:Nat):Int),.slice A115 n116 c117]) (ld52 (cs:=[.int .u64 ((q31.1.1.N:Nat):Int),.int .i64 q31.1.1.P,.int .i64 ((q55.1:Nat):Int),.slice A115 n116 c117]) (.tmp rfl rfl) (hs128.at_ 0 rfl (0) rfl) rfl) ?_
 refine g_yes (yl (dj:=33) (b:=false) rfl rfl (cVb (by rw [hc129]; rfl))) ?_
 have hr130:kState.rep H113 (GState.mk q31.1.1 ((q55.1:Nat):Int) q110.1) [.int .u64 ((q31.1.1.N:Nat):Int),.int .i64 q31.1.1.P,.int .i64 ((q55.1:Nat):Int),.slice A115 n116 c117]:=⟨A115,n116,c117,rfl,b42,⟨b43,b44⟩,(show IB ((q55.1:Nat):Int) from ⟨by omega,by omega⟩),sp118⟩
 refine st_c cb57 .func (evs1 (.tmp rfl rfl)) (cform_spec hs128 (GState.mk q31.1.1 ((q55.1:Nat):Int) q110.1) hr130 ) ?_
 rintro e w131 ⟨rfl,hs132⟩
 refine ⟨_,rfl,?_⟩
 refine g_yes (yl (dj:=33) (b:=false) rfl rfl (cVb (by rw [hc129]; rfl))) ?_
 refine st (v:=.bool (!(sForm (GState.mk q31.1.1 ((q55.1:Nat):Int) q110.1)))) (x_not (.tmp rfl rfl)) ?_
 refine st (v:=.bool (!(sForm (GState.mk q31.1.1 ((q55.1:Nat):Int) q110.1)))) (x_pick_f (.tmp rfl (cVb (by rw [hc129]; rfl))) (.tmp rfl rfl)) ?_
 refine c_nil (n_then ?_)
 rcases Bool.eq_false_or_eq_true (sForm (GState.mk q31.1.1 ((q55.1:Nat):Int) q110.1)) with hc133 | hc133
 refine c_cond_f (t:=false) (.tmp rfl (cVb (by rw [hc133]; rfl))) rfl ?_
 refine c_skip (n_then (c_region (st (v:=v_l) (x_move (.tmp rfl hρ16)) ?_)))
 refine st (v:=.agg #[.int .u64 ((q31.1.1.N:Nat):Int),.int .i64 q31.1.1.P,.int .i64 ((q55.1:Nat):Int),.slice A115 n116 c117]) (ld52 (cs:=[.int .u64 ((q31.1.1.N:Nat):Int),.int .i64 q31.1.1.P,.int .i64 ((q55.1:Nat):Int),.slice A115 n116 c117]) (.tmp rfl rfl) (hs132.at_ 0 rfl (0) rfl) rfl) ?_
 refine st_m (m_lit (n:=1) (ps:=[(0,.agg #[.int .u64 ((q31.1.1.N:Nat):Int),.int .i64 q31.1.1.P,.int .i64 ((q55.1:Nat):Int),.slice A115 n116 c117])]) (cs:=[.int .u64 ((q31.1.1.N:Nat):Int),.int .i64 q31.1.1.P,.int .i64 ((q55.1:Nat):Int),.slice A115 n116 c117]) Try.underlying26 inf52 (.cons (.tmp rfl rfl) Evp.nil) (by decide) (by decide) rfl rfl hs132) ?_
 rintro _ w135 ⟨g134,rfl,hs137⟩
 have hs138:=hs137.p4
 have hr146:kState.rep H113 (GState.mk q31.1.1 ((q55.1:Nat):Int) q110.1) [.int .u64 ((q31.1.1.N:Nat):Int),.int .i64 q31.1.1.P,.int .i64 ((q55.1:Nat):Int),.slice A115 n116 c117]:=⟨A115,n116,c117,rfl,b42,⟨b43,b44⟩,(show IB ((q55.1:Nat):Int) from ⟨by omega,by omega⟩),sp118⟩
 refine st_m (m_appK (d:=kState) (ys:=[(GState.mk q31.1.1 ((q55.1:Nat):Int) q110.1)]) (news:=[.int .u64 ((q31.1.1.N:Nat):Int),.int .i64 q31.1.1.P,.int .i64 ((q55.1:Nat):Int),.slice A115 n116 c117]) Try.underlying26 inf52 rfl hs138 ok_l (Kn.rows_mono hk_l hle114) (.tmp rfl rfl) (.tmp rfl rfl) (Kn.rows_one hr146) rfl (hs138.at_ 1 rfl 0 rfl) (by have:([(GState.mk q31.1.1 ((q55.1:Nat):Int) q110.1)]:List GState).length = 1:=rfl; omega) (by decide)) ?_
 rintro v139 w140 ⟨cs141,ok142,hk143,hs144⟩
 have hn145:(l ++ [(GState.mk q31.1.1 ((q55.1:Nat):Int) q110.1)]).length = l.length + 1:=by simp
 refine st (v:=v139) (x_assign (.tmp rfl rfl)) ?_
 refine c_nil (n_block (n_then (c_region (st (v:=.int .i64 k) (x_move (.tmp rfl hρ17)) ?_))))
 refine st (v:=.int .i64 (k - 1)) (x_sub (k:=.i64) (a:=k) (b:=1) (.tmp rfl rfl) .const (w64 (by omega) (by omega))) ?_
 refine st (v:=.int .i64 (k - 1)) (x_assign (.tmp rfl rfl)) ?_
 refine c_nil ?_
 refine n_then ⟨_,_,rfl,?_,H113,(k - 1),(l ++ [(GState.mk q31.1.1 ((q55.1:Nat):Int) q110.1)]),v139,cs141,A119,n120,c121,q110.2.1,q110.2.2,hρ15,rfl,rfl,(hg12.trans hle114),ok142,hk143,hp123,(by omega),(by omega),(by omega),(by omega),(st_step inv (by omega) hc23 hq39 hq60 hq122 hc129 hc133),(((((hs144.p1).drop.p1).drop.p2).drop.p1).p1),rfl⟩
 omega
 refine c_cond_t (t:=true) (.tmp rfl (cVb (by rw [hc133]; rfl))) rfl ?_
 refine c_seq (c_region (st (v:=.slice none 0 0) (x_assign .const) ?_))
 refine st (v:=.bool false) (x_assign .const) ?_
 refine c_nil (n_then (c_ret (r_then (r_block (r_then (r_then (r_block (r_then (leave_ret (res_two (v:=.slice none 0 0) (u:=.bool false) rfl (.mk rfl rfl) (.mk rfl rfl)) ?_)))))))))
 exact ⟨H113,none,0,0,(([],false),q110.2),A119,n120,c121,(hg12.trans hle114),rfl,(Sl.nil _ _ none),(st_no inv (by omega) hc23 hq39 hq60 hq122 (.inr hc133)),hp123,(by omega),((hs132.drop.p1).drop.p1).drop⟩
 refine g_no (yl (dj:=33) (b:=true) rfl rfl (cVb (by rw [hc129]; rfl))) rfl ?_
 refine g_no (yl (dj:=33) (b:=true) rfl rfl (cVb (by rw [hc129]; rfl))) rfl ?_
 refine g_no (yl (dj:=33) (b:=true) rfl rfl (cVb (by rw [hc129]; rfl))) rfl ?_
 refine st (v:=.bool true) (x_pick_t (.tmp rfl (cVb (by rw [hc129]; rfl))) .const) ?_
 refine c_nil (n_then (c_cond_t (t:=true) (.tmp rfl rfl) rfl ?_))
 refine c_seq (c_region (st (v:=.slice none 0 0) (x_assign .const) ?_))
 refine st (v:=.bool false) (x_assign .const) ?_
 refine c_nil (n_then (c_ret (r_then (r_block (r_then (r_then (r_block (r_then (leave_ret (res_two (v:=.slice none 0 0) (u:=.bool false) rfl (.mk rfl rfl) (.mk rfl rfl)) ?_)))))))))
 exact ⟨H113,none,0,0,(([],false),q110.2),A119,n120,c121,(hg12.trans hle114),rfl,(Sl.nil _ _ none),(st_no inv (by omega) hc23 hq39 hq60 hq122 (.inl hc129)),hp123,(by omega),((hs128.drop.p1).drop.p1).drop⟩
 refine t_eff (k:=6) rfl ?_
 refine st_m (al52 (cs:=[.int .u64 0,.int .i64 0,.int .i64 0,.slice none 0 0]) hs53 rfl) ?_
 rintro _ w148 ⟨g147,rfl,hs150⟩
 refine t_on (S':=fun u => St H11 u (obj g147 52 [.int .u64 0,.int .i64 0,.int .i64 0,.slice none 0 0]::obj g45 24 [.int .u64 ((q31.1.1.N:Nat):Int),.int .i64 q31.1.1.P]::row 52 4 v_l l.length c_l::L)) (fun u hu => hu.drop) (hs150.p2).drop ?_
 refine t_eff (k:=2) rfl ?_
 have hs151:=hs150.p2
 refine st_c cb33 .func (evs2 (.tmp rfl rfl) .const) (int_q hp40 q31.2.2 1073741824 (by omega) (by omega) hs151) ?_
 rintro e w156 ⟨q152,A153,n154,c155,hq157,hb158,hn159,rfl,hp160,hs161⟩
 refine ⟨_,rfl,?_⟩
 refine t_on (S':=fun u => St H11 u (obj g147 52 [.int .u64 0,.int .i64 0,.int .i64 0,.slice none 0 0]::obj g45 24 [.int .u64 ((q31.1.1.N:Nat):Int),.int .i64 q31.1.1.P]::row 52 4 v_l l.length c_l::L)) (fun u hu => hu) hs161.drop ?_
 refine t_eff (k:=4) rfl ?_
 refine st_c cb39 .func (evs1 (.tmp rfl rfl)) (itemsdec_spec hs161 hp160 (by omega) ) ?_
 rintro e w163 ⟨H165,A167,n168,c169,q162,A171,n172,c173,hle166,rfl,sp170,hq174,hp175,hn176,hs164⟩
 have:=sp170.len; have:=sp170.le; have:n168 * 32 ≤ 140737488351232:=sp170.bnd
 refine ⟨_,rfl,?_⟩
 refine t_on (S':=fun u => St H165 u (obj g147 52 [.int .u64 0,.int .i64 0,.int .i64 0,.slice none 0 0]::obj g45 24 [.int .u64 ((q31.1.1.N:Nat):Int),.int .i64 q31.1.1.P]::row 52 4 v_l l.length c_l::L)) (fun u hu => hu.weaken hle166) hs164.drop ?_
 refine t_st (k:=5) (v:=.agg #[.int .u64 ((q31.1.1.N:Nat):Int),.int .i64 q31.1.1.P,.int .i64 ((q152.1:Nat):Int),.slice A167 n168 c169]) rfl rfl (fun w hs => (bl52 (ps:=[(0,.agg #[.int .u64 ((q31.1.1.N:Nat):Int),.int .i64 q31.1.1.P]),(1,.int .i64 ((q152.1:Nat):Int)),(2,.slice A167 n168 c169)]) (.cons (.tmp rfl rfl) (.cons (.tmp rfl rfl) (.cons (.tmp rfl rfl) Evp.nil))) rfl)) ?_
 refine t_eff (k:=7) rfl ?_
 have hs177:=hs164.p1
 refine st_m0 (sto52 (cs':=[.int .u64 ((q31.1.1.N:Nat):Int),.int .i64 q31.1.1.P,.int .i64 ((q152.1:Nat):Int),.slice A167 n168 c169]) (i:=0) hs177 (v:=.agg #[.int .u64 ((q31.1.1.N:Nat):Int),.int .i64 q31.1.1.P,.int .i64 ((q152.1:Nat):Int),.slice A167 n168 c169]) (.tmp rfl rfl) (.tmp rfl rfl) rfl (Nat.le_of_ble_eq_true rfl) (oneA rfl) rfl) ?_
 rintro w178 hs180
 refine t_new (S':=fun u => St H165 u (obj g147 52 [.int .u64 ((q31.1.1.N:Nat):Int),.int .i64 q31.1.1.P,.int .i64 ((q152.1:Nat):Int),.slice A167 n168 c169]::obj g_r 98 [.slice A171 n172 c173,.bool q162.2.2]::obj g45 24 [.int .u64 ((q31.1.1.N:Nat):Int),.int .i64 q31.1.1.P]::row 52 4 v_l l.length c_l::L)) rfl hs180 ?_
 refine t_nil ?_
 refine n_then (c_seq (c_seq (c_region (st (v:=.bool q31.1.2) (x_move (.tmp rfl rfl)) ?_))))
 refine st (v:=.bool (!q31.1.2)) (x_not (.tmp rfl rfl)) ?_
 refine st (v:=.bool (!q31.1.2)) (x_move (.tmp rfl rfl)) ?_
 rcases Bool.eq_false_or_eq_true q31.1.2 with hc181 | hc181
 refine g_yes (yl (dj:=33) (b:=false) rfl rfl (cVb (by rw [hc181]; rfl))) ?_
 refine st (v:=.agg #[.int .u64 ((q31.1.1.N:Nat):Int),.int .i64 q31.1.1.P,.int .i64 ((q152.1:Nat):Int),.slice A167 n168 c169]) (ld52 (cs:=[.int .u64 ((q31.1.1.N:Nat):Int),.int .i64 q31.1.1.P,.int .i64 ((q152.1:Nat):Int),.slice A167 n168 c169]) (.tmp rfl rfl) (hs180.at_ 0 rfl (0) rfl) rfl) ?_
 refine g_yes (yl (dj:=33) (b:=false) rfl rfl (cVb (by rw [hc181]; rfl))) ?_
 have hr182:kState.rep H165 (GState.mk q31.1.1 ((q152.1:Nat):Int) q162.1) [.int .u64 ((q31.1.1.N:Nat):Int),.int .i64 q31.1.1.P,.int .i64 ((q152.1:Nat):Int),.slice A167 n168 c169]:=⟨A167,n168,c169,rfl,b42,⟨b43,b44⟩,(show IB ((q152.1:Nat):Int) from ⟨by omega,by omega⟩),sp170⟩
 refine st_c cb57 .func (evs1 (.tmp rfl rfl)) (cform_spec hs180 (GState.mk q31.1.1 ((q152.1:Nat):Int) q162.1) hr182 ) ?_
 rintro e w183 ⟨rfl,hs184⟩
 refine ⟨_,rfl,?_⟩
 refine g_yes (yl (dj:=33) (b:=false) rfl rfl (cVb (by rw [hc181]; rfl))) ?_
 refine st (v:=.bool (!(sForm (GState.mk q31.1.1 ((q152.1:Nat):Int) q162.1)))) (x_not (.tmp rfl rfl)) ?_
 refine st (v:=.bool (!(sForm (GState.mk q31.1.1 ((q152.1:Nat):Int) q162.1)))) (x_pick_f (.tmp rfl (cVb (by rw [hc181]; rfl))) (.tmp rfl rfl)) ?_
 refine c_nil (n_then ?_)
 rcases Bool.eq_false_or_eq_true (sForm (GState.mk q31.1.1 ((q152.1:Nat):Int) q162.1)) with hc185 | hc185
 refine c_cond_f (t:=false) (.tmp rfl (cVb (by rw [hc185]; rfl))) rfl ?_
 refine c_skip (n_then (c_region (st (v:=v_l) (x_move (.tmp rfl hρ16)) ?_)))
 refine st (v:=.agg #[.int .u64 ((q31.1.1.N:Nat):Int),.int .i64 q31.1.1.P,.int .i64 ((q152.1:Nat):Int),.slice A167 n168 c169]) (ld52 (cs:=[.int .u64 ((q31.1.1.N:Nat):Int),.int .i64 q31.1.1.P,.int .i64 ((q152.1:Nat):Int),.slice A167 n168 c169]) (.tmp rfl rfl) (hs184.at_ 0 rfl (0) rfl) rfl) ?_
 refine st_m (m_lit (n:=1) (ps:=[(0,.agg #[.int .u64 ((q31.1.1.N:Nat):Int),.int .i64 q31.1.1.P,.int .i64 ((q152.1:Nat):Int),.slice A167 n168 c169])]) (cs:=[.int .u64 ((q31.1.1.N:Nat):Int),.int .i64 q31.1.1.P,.int .i64 ((q152.1:Nat):Int),.slice A167 n168 c169]) Try.underlying26 inf52 (.cons (.tmp rfl rfl) Evp.nil) (by decide) (by decide) rfl rfl hs184) ?_
 rintro _ w187 ⟨g186,rfl,hs189⟩
 have hs190:=hs189.p4
 have hr198:kState.rep H165 (GState.mk q31.1.1 ((q152.1:Nat):Int) q162.1) [.int .u64 ((q31.1.1.N:Nat):Int),.int .i64 q31.1.1.P,.int .i64 ((q152.1:Nat):Int),.slice A167 n168 c169]:=⟨A167,n168,c169,rfl,b42,⟨b43,b44⟩,(show IB ((q152.1:Nat):Int) from ⟨by omega,by omega⟩),sp170⟩
 refine st_m (m_appK (d:=kState) (ys:=[(GState.mk q31.1.1 ((q152.1:Nat):Int) q162.1)]) (news:=[.int .u64 ((q31.1.1.N:Nat):Int),.int .i64 q31.1.1.P,.int .i64 ((q152.1:Nat):Int),.slice A167 n168 c169]) Try.underlying26 inf52 rfl hs190 ok_l (Kn.rows_mono hk_l hle166) (.tmp rfl rfl) (.tmp rfl rfl) (Kn.rows_one hr198) rfl (hs190.at_ 1 rfl 0 rfl) (by have:([(GState.mk q31.1.1 ((q152.1:Nat):Int) q162.1)]:List GState).length = 1:=rfl; omega) (by decide)) ?_
 rintro v191 w192 ⟨cs193,ok194,hk195,hs196⟩
 have hn197:(l ++ [(GState.mk q31.1.1 ((q152.1:Nat):Int) q162.1)]).length = l.length + 1:=by simp
 refine st (v:=v191) (x_assign (.tmp rfl rfl)) ?_
 refine c_nil (n_block (n_then (c_region (st (v:=.int .i64 k) (x_move (.tmp rfl hρ17)) ?_))))
 refine st (v:=.int .i64 (k - 1)) (x_sub (k:=.i64) (a:=k) (b:=1) (.tmp rfl rfl) .const (w64 (by omega) (by omega))) ?_
 refine st (v:=.int .i64 (k - 1)) (x_assign (.tmp rfl rfl)) ?_
 refine c_nil ?_
 refine n_then ⟨_,_,rfl,?_,H165,(k - 1),(l ++ [(GState.mk q31.1.1 ((q152.1:Nat):Int) q162.1)]),v191,cs193,A171,n172,c173,q162.2.1,q162.2.2,hρ15,rfl,rfl,(hg12.trans hle166),ok194,hk195,hp175,(by omega),(by omega),(by omega),(by omega),(st_step inv (by omega) hc23 hq39 hq157 hq174 hc181 hc185),(((((hs196.p1).drop.p1).drop.p2).drop.p1).p1),rfl⟩
 omega
 refine c_cond_t (t:=true) (.tmp rfl (cVb (by rw [hc185]; rfl))) rfl ?_
 refine c_seq (c_region (st (v:=.slice none 0 0) (x_assign .const) ?_))
 refine st (v:=.bool false) (x_assign .const) ?_
 refine c_nil (n_then (c_ret (r_then (r_block (r_then (r_then (r_block (r_then (leave_ret (res_two (v:=.slice none 0 0) (u:=.bool false) rfl (.mk rfl rfl) (.mk rfl rfl)) ?_)))))))))
 exact ⟨H165,none,0,0,(([],false),q162.2),A171,n172,c173,(hg12.trans hle166),rfl,(Sl.nil _ _ none),(st_no inv (by omega) hc23 hq39 hq157 hq174 (.inr hc185)),hp175,(by omega),((hs184.drop.p1).drop.p1).drop⟩
 refine g_no (yl (dj:=33) (b:=true) rfl rfl (cVb (by rw [hc181]; rfl))) rfl ?_
 refine g_no (yl (dj:=33) (b:=true) rfl rfl (cVb (by rw [hc181]; rfl))) rfl ?_
 refine g_no (yl (dj:=33) (b:=true) rfl rfl (cVb (by rw [hc181]; rfl))) rfl ?_
 refine st (v:=.bool true) (x_pick_t (.tmp rfl (cVb (by rw [hc181]; rfl))) .const) ?_
 refine c_nil (n_then (c_cond_t (t:=true) (.tmp rfl rfl) rfl ?_))
 refine c_seq (c_region (st (v:=.slice none 0 0) (x_assign .const) ?_))
 refine st (v:=.bool false) (x_assign .const) ?_
 refine c_nil (n_then (c_ret (r_then (r_block (r_then (r_then (r_block (r_then (leave_ret (res_two (v:=.slice none 0 0) (u:=.bool false) rfl (.mk rfl rfl) (.mk rfl rfl)) ?_)))))))))
 exact ⟨H165,none,0,0,(([],false),q162.2),A171,n172,c173,(hg12.trans hle166),rfl,(Sl.nil _ _ none),(st_no inv (by omega) hc23 hq39 hq157 hq174 (.inl hc181)),hp175,(by omega),((hs180.drop.p1).drop.p1).drop⟩
 have hp19:¬ ((0:Int) < k):=of_decide_eq_false hc19
 refine g_no (yk 13 false rfl rfl hc19) rfl ?_
 refine g_no (yk 13 false rfl rfl hc19) rfl ?_
 refine g_no (yk 13 false rfl rfl hc19) rfl ?_
 refine st (v:=.bool false) (x_pick_f (.tmp rfl (cVb hc19)) .const) ?_
 refine c_nil (n_then (c_cond_f (t:=false) (.tmp rfl rfl) rfl ?_))
 refine c_exit (x_then (x_then (x_here (n_then (c_seq (c_region (st (v:=v_l) (x_move (.tmp rfl hρ16)) ?_)))))))
 refine st (v:=v_l) (x_assign (.tmp rfl rfl)) ?_
 refine st (v:=.bool true) (x_assign .const) ?_
 refine c_nil (n_then (c_ret (leave_ret (res_two (v:=v_l) (u:=.bool true) rfl (.mk rfl rfl) (.mk rfl rfl)) ?_)))
 have:l.length * 48 ≤ 140737488351232:=by omega
 obtain ⟨H199,A200,c201,hle202,hs203,rfl,sp204⟩:=hs18.freezeSl (d:=kState) ok_l hk_l this
 have:=sp204.len; have:=sp204.le
 exact ⟨H199,A200,l.length,c201,((l,true),cur,bad),A2,n2,c2,(hg12.trans hle202),rfl,sp204,(st_done inv (.inl (by omega))),(hp2.mono hle202),(by omega),hs203⟩
end Go.Proofs.Ytlfihfmmhhcigaa

set_option linter.unusedVariables false
set_option linter.unusedSimpArgs false
namespace Go.Proofs.Ytlfihfmmhhcigaa
open Go Go.FM Go.Proofs
attribute [local irreducible] wpList wpQuiet wpS Code.wp Calls
end Go.Proofs.Ytlfihfmmhhcigaa

set_option linter.unusedVariables false
set_option linter.unusedSimpArgs false
namespace Go.Proofs.Ytlfihfmmhhcigaa
open Go Go.FM Go.Proofs
attribute [local irreducible] wpList wpQuiet wpS Code.wp Calls
end Go.Proofs.Ytlfihfmmhhcigaa

set_option linter.unusedVariables false
set_option linter.unusedSimpArgs false
namespace Go.Proofs.Ytlfihfmmhhcigaa
open Go Go.FM Go.Proofs
attribute [local irreducible] wpList wpQuiet wpS Code.wp Calls
end Go.Proofs.Ytlfihfmmhhcigaa

set_option linter.unusedVariables false
set_option linter.unusedSimpArgs false
namespace Go.Proofs.Ytlfihfmmhhcigaa
open Go Go.FM Go.Proofs
attribute [local irreducible] wpList wpQuiet wpS Code.wp Calls
end Go.Proofs.Ytlfihfmmhhcigaa
