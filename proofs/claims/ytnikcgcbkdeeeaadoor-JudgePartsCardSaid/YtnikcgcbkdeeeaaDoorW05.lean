/- Steps of the proofs over the functions of this seat, printed by a program (gen.py) and checked by Lean. -/
import Derived.Test.YtnikcgcbkdeeeaaDoorW01
import Derived.Test.YtnikcgcbkdeeeaaDoorW00
import Derived.Test.YtnikcgcbkdeeeaaDoorW02
import Derived.Test.YtnikcgcbkdeeeaaDoorW04
set_option linter.unusedVariables false
set_option linter.unusedSimpArgs false
namespace Go.Proofs.YtnikcgcbkdeeeaaDoor
open Go Go.FM Go.Proofs
attribute [local irreducible] wpList wpQuiet Code.wp Calls
set_option maxHeartbeats 8000000 in
theorem whole1_p {H:Hp} {w:World} {L:List Res} (hs:St H w (L)) (b:GLife) {k_b:List Value} (h_b:kLife.rep H b k_b) {g_x:Nat} (x:GItem) {k_x:List Value} (hg_x:Rd H (some ⟨g_x,0,none⟩) k_x) (h_x:kItem.rep H x k_x) {g_a:Nat} (a:GLife) {k_a:List Value} (hg_a:Rd H (some ⟨g_a,0,none⟩) k_a) (h_a:kLife.rep H a k_a):Calls Tryd.prog 31 #[.agg k_b.toArray,.pointer (some ⟨g_x,0,none⟩),.pointer (some ⟨g_a,0,none⟩)] w (fun e w' => e = .returned (.bool ((decide (b.node = x.From)) && (decide (b.view.ID = a.view.ID))))∧St H w' (L)):=by
 obtain ⟨A7,n8,c9,A11,n12,c13,rfl,⟨b1,b2⟩,b3,⟨b4,b5⟩,b6,hl10,hl14,⟨b15,b16⟩,b17,⟨b18,b19⟩⟩:=h_b
 have:=hl10.len; have:n8 * 32 ≤ 140737488351232:=hl10.bnd; have:=hl10.le
 have:=hl14.len; have:n12 * 32 ≤ 140737488351232:=hl14.bnd; have:=hl14.le
 obtain ⟨A22,n23,c24,rfl,⟨b20,b21⟩,hy25⟩:=h_x
 have:=hy25.len; have:=hy25.bnd; have:=hy25.le
 have hat26:∀ {w:World} {L:List Res},St H w L → At w ⟨g_x,0,none⟩ [.int .i64 x.From,.slice A22 n23 c24]:=fun h => hg_x.hat h
 obtain ⟨A33,n34,c35,A37,n38,c39,rfl,⟨b27,b28⟩,b29,⟨b30,b31⟩,b32,hl36,hl40,⟨b41,b42⟩,b43,⟨b44,b45⟩⟩:=h_a
 have:=hl36.len; have:n34 * 32 ≤ 140737488351232:=hl36.bnd; have:=hl36.le
 have:=hl40.len; have:n38 * 32 ≤ 140737488351232:=hl40.bnd; have:=hl40.le
 have hat46:∀ {w:World} {L:List Res},St H w L → At w ⟨g_a,0,none⟩ [.int .i64 a.node,.int .u64 ((a.view.ID.N:Nat):Int),.int .i64 a.view.ID.P,.int .u16 ((a.view.Set:Nat):Int),.slice A33 n34 c35,.slice A37 n38 c39,.int .i64 a.safe,.int .u64 ((a.next.N:Nat):Int),.int .i64 a.next.P]:=fun h => hg_a.hat h
 refine enter (args:=[.agg #[.int .i64 b.node,.int .u64 ((b.view.ID.N:Nat):Int),.int .i64 b.view.ID.P,.int .u16 ((b.view.Set:Nat):Int),.slice A7 n8 c9,.slice A11 n12 c13,.int .i64 b.safe,.int .u64 ((b.next.N:Nat):Int),.int .i64 b.next.P],.pointer (some ⟨g_x,0,none⟩),.pointer (some ⟨g_a,0,none⟩)]) (N:=19) Tryd.func31 rfl rfl rfl ?_
 refine c_seq (c_region (st_m (m_box (cs:=[.int .i64 b.node,.int .u64 ((b.view.ID.N:Nat):Int),.int .i64 b.view.ID.P,.int .u16 ((b.view.Set:Nat):Int),.slice A7 n8 c9,.slice A11 n12 c13,.int .i64 b.safe,.int .u64 ((b.next.N:Nat):Int),.int .i64 b.next.P]) hs (v:=.agg #[.int .i64 b.node,.int .u64 ((b.view.ID.N:Nat):Int),.int .i64 b.view.ID.P,.int .u16 ((b.view.Set:Nat):Int),.slice A7 n8 c9,.slice A11 n12 c13,.int .i64 b.safe,.int .u64 ((b.next.N:Nat):Int),.int .i64 b.next.P]) (.tmp rfl rfl) rfl) ?_))
 rintro _ w48 ⟨g47,rfl,hs50⟩
 refine st (v:=.bool false) (x_assign .const) ?_
 refine c_nil (n_then (c_seq (c_region (st (v:=.pointer (some ⟨g47,0 + 0,none⟩)) (fa62_0 (.tmp rfl rfl)) ?_))))
 refine st (v:=.int .i64 b.node) (ld3 (.tmp rfl rfl) (hs50.cell 0 rfl (0 + 0) rfl)) ?_
 refine st (v:=.pointer (some ⟨g_x,0 + 0,none⟩)) (fa34_0 (.tmp rfl rfl)) ?_
 refine st (v:=.int .i64 x.From) (ld3 (.tmp rfl rfl) ((hat26 hs50).cell 0 rfl)) ?_
 refine st (v:=.bool (decide ((b.node:Int) = x.From))) (x_eql (k:=.i64) (a:=b.node) (b:=x.From) (.tmp rfl rfl) (.tmp rfl rfl)) ?_
 refine st (v:=.bool (decide ((b.node:Int) = x.From))) (x_move (.tmp rfl rfl)) ?_
 refine jw 8 (fun ρ w => ρ 18 = .bool ((decide ((b.node:Int) = x.From)) && (decide (b.view.ID = a.view.ID)))∧ρ 4 = .bool false∧St H w (obj g47 62 [.int .i64 b.node,.int .u64 ((b.view.ID.N:Nat):Int),.int .i64 b.view.ID.P,.int .u16 ((b.view.Set:Nat):Int),.slice A7 n8 c9,.slice A11 n12 c13,.int .i64 b.safe,.int .u64 ((b.next.N:Nat):Int),.int .i64 b.next.P]::L)) ?_ ?_
 rcases Bool.eq_false_or_eq_true (decide ((b.node:Int) = x.From)) with hc51 | hc51
 have hp51:(b.node:Int) = x.From:=of_decide_eq_true hc51
 refine g_yes (yk 10 true rfl rfl hc51) ?_
 refine st (v:=.pointer (some ⟨g47,0 + 1,none⟩)) (fa62_1 (.tmp rfl rfl)) ?_
 refine g_yes (yk 10 true rfl rfl hc51) ?_
 refine st (v:=.pointer (some ⟨g47,0 + 1 + 0,none⟩)) (fa47_0 (.tmp rfl rfl)) ?_
 refine g_yes (yk 10 true rfl rfl hc51) ?_
 refine st (v:=.agg #[.int .u64 ((b.view.ID.N:Nat):Int),.int .i64 b.view.ID.P]) (ld44 (cs:=[.int .u64 ((b.view.ID.N:Nat):Int),.int .i64 b.view.ID.P]) (.tmp rfl rfl) (hs50.at_ 0 rfl (0 + 1 + 0) rfl) rfl) ?_
 refine g_yes (yk 10 true rfl rfl hc51) ?_
 refine st (v:=.pointer (some ⟨g_a,0 + 1,none⟩)) (fa62_1 (.tmp rfl rfl)) ?_
 refine g_yes (yk 10 true rfl rfl hc51) ?_
 refine st (v:=.pointer (some ⟨g_a,0 + 1 + 0,none⟩)) (fa47_0 (.tmp rfl rfl)) ?_
 refine g_yes (yk 10 true rfl rfl hc51) ?_
 refine st (v:=.agg #[.int .u64 ((a.view.ID.N:Nat):Int),.int .i64 a.view.ID.P]) (ld44 (cs:=[.int .u64 ((a.view.ID.N:Nat):Int),.int .i64 a.view.ID.P]) (.tmp rfl rfl) ((hat46 hs50).sub 1 rfl) rfl) ?_
 refine g_yes (yk 10 true rfl rfl hc51) ?_
 refine st (v:=.bool ((((b.view.ID.N:Nat):Int) == ((a.view.ID.N:Nat):Int)) && ((b.view.ID.P == a.view.ID.P) && true))) (x_eqlA eqg44 (.tmp rfl rfl) (.tmp rfl rfl) (fun d => eqs44 (d + 98) _ ((b.view.ID.N:Nat):Int) ((a.view.ID.N:Nat):Int) b.view.ID.P a.view.ID.P)) ?_
 refine st (v:=.bool (decide (b.view.ID = a.view.ID))) (x_pick_t (.tmp rfl (cVb hc51)) (.tmp rfl (cVb (GViewID.beq_dec b.view.ID a.view.ID)))) ?_
 exact jw_end ⟨(cVb (jand_t hc51)),rfl,hs50⟩
 have hp51:¬ ((b.node:Int) = x.From):=of_decide_eq_false hc51
 refine g_no (yk 10 false rfl rfl hc51) rfl ?_
 refine g_no (yk 10 false rfl rfl hc51) rfl ?_
 refine g_no (yk 10 false rfl rfl hc51) rfl ?_
 refine g_no (yk 10 false rfl rfl hc51) rfl ?_
 refine g_no (yk 10 false rfl rfl hc51) rfl ?_
 refine g_no (yk 10 false rfl rfl hc51) rfl ?_
 refine g_no (yk 10 false rfl rfl hc51) rfl ?_
 refine st (v:=.bool false) (x_pick_f (.tmp rfl (cVb hc51)) .const) ?_
 exact jw_end ⟨(cVb (jand_f hc51)),rfl,hs50⟩
 rintro ρ w ⟨hρ52,hρ53,hs54⟩
 refine st (v:=.bool ((decide ((b.node:Int) = x.From)) && (decide (b.view.ID = a.view.ID)))) (x_assign (.tmp rfl hρ52)) ?_
 refine c_nil (n_then (c_ret (leave_ret (res_one (v:=.bool ((decide ((b.node:Int) = x.From)) && (decide (b.view.ID = a.view.ID)))) rfl (.mk rfl rfl)) ?_)))
 exact ⟨rfl,hs54.drop⟩
set_option maxHeartbeats 8000000 in
theorem whole2_p {H:Hp} {w:World} {L:List Res} (hs:St H w (L)) (b:GLife) {k_b:List Value} (h_b:kLife.rep H b k_b) {g_k:Nat} (k:Int) {k_k:List Value} (hg_k:Rd H (some ⟨g_k,0,none⟩) k_k) (h_k:kI.rep H k k_k) {g_a:Nat} (a:GLife) {k_a:List Value} (hg_a:Rd H (some ⟨g_a,0,none⟩) k_a) (h_a:kLife.rep H a k_a):Calls Tryd.prog 34 #[.agg k_b.toArray,.pointer (some ⟨g_k,0,none⟩),.pointer (some ⟨g_a,0,none⟩)] w (fun e w' => e = .returned (.bool (((decide (b.node = k)) && (decide (b.view.ID = a.view.ID))) && (decide (a.safe ≤ (b.recv.length:Int)))))∧St H w' (L)):=by
 obtain ⟨A7,n8,c9,A11,n12,c13,rfl,⟨b1,b2⟩,b3,⟨b4,b5⟩,b6,hl10,hl14,⟨b15,b16⟩,b17,⟨b18,b19⟩⟩:=h_b
 have:=hl10.len; have:n8 * 32 ≤ 140737488351232:=hl10.bnd; have:=hl10.le
 have:=hl14.len; have:n12 * 32 ≤ 140737488351232:=hl14.bnd; have:=hl14.le
 obtain ⟨rfl,⟨b20,b21⟩⟩:=h_k
 have hat22:∀ {w:World} {L:List Res},St H w L → At w ⟨g_k,0,none⟩ [.int .i64 k]:=fun h => hg_k.hat h
 obtain ⟨A29,n30,c31,A33,n34,c35,rfl,⟨b23,b24⟩,b25,⟨b26,b27⟩,b28,hl32,hl36,⟨b37,b38⟩,b39,⟨b40,b41⟩⟩:=h_a
 have:=hl32.len; have:n30 * 32 ≤ 140737488351232:=hl32.bnd; have:=hl32.le
 have:=hl36.len; have:n34 * 32 ≤ 140737488351232:=hl36.bnd; have:=hl36.le
 have hat42:∀ {w:World} {L:List Res},St H w L → At w ⟨g_a,0,none⟩ [.int .i64 a.node,.int .u64 ((a.view.ID.N:Nat):Int),.int .i64 a.view.ID.P,.int .u16 ((a.view.Set:Nat):Int),.slice A29 n30 c31,.slice A33 n34 c35,.int .i64 a.safe,.int .u64 ((a.next.N:Nat):Int),.int .i64 a.next.P]:=fun h => hg_a.hat h
 refine enter (args:=[.agg #[.int .i64 b.node,.int .u64 ((b.view.ID.N:Nat):Int),.int .i64 b.view.ID.P,.int .u16 ((b.view.Set:Nat):Int),.slice A7 n8 c9,.slice A11 n12 c13,.int .i64 b.safe,.int .u64 ((b.next.N:Nat):Int),.int .i64 b.next.P],.pointer (some ⟨g_k,0,none⟩),.pointer (some ⟨g_a,0,none⟩)]) (N:=26) Tryd.func34 rfl rfl rfl ?_
 refine c_seq (c_region (st_m (m_box (cs:=[.int .i64 b.node,.int .u64 ((b.view.ID.N:Nat):Int),.int .i64 b.view.ID.P,.int .u16 ((b.view.Set:Nat):Int),.slice A7 n8 c9,.slice A11 n12 c13,.int .i64 b.safe,.int .u64 ((b.next.N:Nat):Int),.int .i64 b.next.P]) hs (v:=.agg #[.int .i64 b.node,.int .u64 ((b.view.ID.N:Nat):Int),.int .i64 b.view.ID.P,.int .u16 ((b.view.Set:Nat):Int),.slice A7 n8 c9,.slice A11 n12 c13,.int .i64 b.safe,.int .u64 ((b.next.N:Nat):Int),.int .i64 b.next.P]) (.tmp rfl rfl) rfl) ?_))
 rintro _ w44 ⟨g43,rfl,hs46⟩
 refine st (v:=.bool false) (x_assign .const) ?_
 refine c_nil (n_then (c_seq (c_region (st (v:=.pointer (some ⟨g43,0 + 0,none⟩)) (fa62_0 (.tmp rfl rfl)) ?_))))
 refine st (v:=.int .i64 b.node) (ld3 (.tmp rfl rfl) (hs46.cell 0 rfl (0 + 0) rfl)) ?_
 refine st (v:=.int .i64 k) (ld3 (.tmp rfl rfl) ((hat22 hs46).cell 0 rfl)) ?_
 refine st (v:=.bool (decide ((b.node:Int) = k))) (x_eql (k:=.i64) (a:=b.node) (b:=k) (.tmp rfl rfl) (.tmp rfl rfl)) ?_
 refine st (v:=.bool (decide ((b.node:Int) = k))) (x_move (.tmp rfl rfl)) ?_
 refine jw 8 (fun ρ w => ρ 17 = .bool ((decide ((b.node:Int) = k)) && (decide (b.view.ID = a.view.ID)))∧ρ 2 = .pointer (some ⟨g_a,0,none⟩)∧ρ 3 = .pointer (some ⟨g43,0,none⟩)∧ρ 4 = .bool false∧St H w (obj g43 62 [.int .i64 b.node,.int .u64 ((b.view.ID.N:Nat):Int),.int .i64 b.view.ID.P,.int .u16 ((b.view.Set:Nat):Int),.slice A7 n8 c9,.slice A11 n12 c13,.int .i64 b.safe,.int .u64 ((b.next.N:Nat):Int),.int .i64 b.next.P]::L)) ?_ ?_
 rcases Bool.eq_false_or_eq_true (decide ((b.node:Int) = k)) with hc47 | hc47
 have hp47:(b.node:Int) = k:=of_decide_eq_true hc47
 refine g_yes (yk 9 true rfl rfl hc47) ?_
 refine st (v:=.pointer (some ⟨g43,0 + 1,none⟩)) (fa62_1 (.tmp rfl rfl)) ?_
 refine g_yes (yk 9 true rfl rfl hc47) ?_
 refine st (v:=.pointer (some ⟨g43,0 + 1 + 0,none⟩)) (fa47_0 (.tmp rfl rfl)) ?_
 refine g_yes (yk 9 true rfl rfl hc47) ?_
 refine st (v:=.agg #[.int .u64 ((b.view.ID.N:Nat):Int),.int .i64 b.view.ID.P]) (ld44 (cs:=[.int .u64 ((b.view.ID.N:Nat):Int),.int .i64 b.view.ID.P]) (.tmp rfl rfl) (hs46.at_ 0 rfl (0 + 1 + 0) rfl) rfl) ?_
 refine g_yes (yk 9 true rfl rfl hc47) ?_
 refine st (v:=.pointer (some ⟨g_a,0 + 1,none⟩)) (fa62_1 (.tmp rfl rfl)) ?_
 refine g_yes (yk 9 true rfl rfl hc47) ?_
 refine st (v:=.pointer (some ⟨g_a,0 + 1 + 0,none⟩)) (fa47_0 (.tmp rfl rfl)) ?_
 refine g_yes (yk 9 true rfl rfl hc47) ?_
 refine st (v:=.agg #[.int .u64 ((a.view.ID.N:Nat):Int),.int .i64 a.view.ID.P]) (ld44 (cs:=[.int .u64 ((a.view.ID.N:Nat):Int),.int .i64 a.view.ID.P]) (.tmp rfl rfl) ((hat42 hs46).sub 1 rfl) rfl) ?_
 refine g_yes (yk 9 true rfl rfl hc47) ?_
 refine st (v:=.bool ((((b.view.ID.N:Nat):Int) == ((a.view.ID.N:Nat):Int)) && ((b.view.ID.P == a.view.ID.P) && true))) (x_eqlA eqg44 (.tmp rfl rfl) (.tmp rfl rfl) (fun d => eqs44 (d + 98) _ ((b.view.ID.N:Nat):Int) ((a.view.ID.N:Nat):Int) b.view.ID.P a.view.ID.P)) ?_
 refine st (v:=.bool (decide (b.view.ID = a.view.ID))) (x_pick_t (.tmp rfl (cVb hc47)) (.tmp rfl (cVb (GViewID.beq_dec b.view.ID a.view.ID)))) ?_
 exact jw_end ⟨(cVb (jand_t hc47)),rfl,rfl,rfl,hs46⟩
 have hp47:¬ ((b.node:Int) = k):=of_decide_eq_false hc47
 refine g_no (yk 9 false rfl rfl hc47) rfl ?_
 refine g_no (yk 9 false rfl rfl hc47) rfl ?_
 refine g_no (yk 9 false rfl rfl hc47) rfl ?_
 refine g_no (yk 9 false rfl rfl hc47) rfl ?_
 refine g_no (yk 9 false rfl rfl hc47) rfl ?_
 refine g_no (yk 9 false rfl rfl hc47) rfl ?_
 refine g_no (yk 9 false rfl rfl hc47) rfl ?_
 refine st (v:=.bool false) (x_pick_f (.tmp rfl (cVb hc47)) .const) ?_
 exact jw_end ⟨(cVb (jand_f hc47)),rfl,rfl,rfl,hs46⟩
 rintro ρ w ⟨hρ48,hρ49,hρ50,hρ51,hs52⟩
 refine st (v:=.bool ((decide ((b.node:Int) = k)) && (decide (b.view.ID = a.view.ID)))) (x_move (.tmp rfl hρ48)) ?_
 refine jw 7 (fun ρ w => ρ 25 = .bool (((decide ((b.node:Int) = k)) && (decide (b.view.ID = a.view.ID))) && (decide ((a.safe:Int) ≤ ((n12:Nat):Int))))∧ρ 4 = .bool false∧St H w (obj g43 62 [.int .i64 b.node,.int .u64 ((b.view.ID.N:Nat):Int),.int .i64 b.view.ID.P,.int .u16 ((b.view.Set:Nat):Int),.slice A7 n8 c9,.slice A11 n12 c13,.int .i64 b.safe,.int .u64 ((b.next.N:Nat):Int),.int .i64 b.next.P]::L)) ?_ ?_
 rcases Bool.eq_false_or_eq_true ((decide ((b.node:Int) = k)) && (decide (b.view.ID = a.view.ID))) with hc53 | hc53
 have hp53:((b.node:Int) = k)∧(b.view.ID = a.view.ID):=((J_and decide_eq_true_iff decide_eq_true_iff)).1 hc53
 refine g_yes (yk 18 true rfl rfl hc53) ?_
 refine st (v:=.pointer (some ⟨g43,0 + 5,none⟩)) (fa62_3 (.tmp rfl hρ50)) ?_
 refine g_yes (yk 18 true rfl rfl hc53) ?_
 refine st (v:=.slice A11 n12 c13) (ld25 (.tmp rfl rfl) (hs52.cell 0 rfl (0 + 5) rfl)) ?_
 refine g_yes (yk 18 true rfl rfl hc53) ?_
 refine st (v:=.int .i64 ((n12:Nat):Int)) (x_len (n:=n12) Tryd.underlying25 (.tmp rfl rfl)) ?_
 refine g_yes (yk 18 true rfl rfl hc53) ?_
 refine st (v:=.pointer (some ⟨g_a,0 + 6,none⟩)) (fa62_4 (.tmp rfl hρ49)) ?_
 refine g_yes (yk 18 true rfl rfl hc53) ?_
 refine st (v:=.int .i64 a.safe) (ld3 (.tmp rfl rfl) ((hat42 hs52).cell 6 rfl)) ?_
 refine g_yes (yk 18 true rfl rfl hc53) ?_
 refine st (v:=.bool (decide ((a.safe:Int) ≤ ((n12:Nat):Int)))) (x_geq (k:=.i64) (a:=((n12:Nat):Int)) (b:=a.safe) (.tmp rfl rfl) (.tmp rfl rfl)) ?_
 refine st (v:=.bool (decide ((a.safe:Int) ≤ ((n12:Nat):Int)))) (x_pick_t (.tmp rfl (cVb hc53)) (.tmp rfl rfl)) ?_
 exact jw_end ⟨(cVb (jand_t hc53)),hρ51,hs52⟩
 have hp53:¬ (((b.node:Int) = k)∧(b.view.ID = a.view.ID)):=J_no (J_and decide_eq_true_iff decide_eq_true_iff) hc53
 refine g_no (yk 18 false rfl rfl hc53) rfl ?_
 refine g_no (yk 18 false rfl rfl hc53) rfl ?_
 refine g_no (yk 18 false rfl rfl hc53) rfl ?_
 refine g_no (yk 18 false rfl rfl hc53) rfl ?_
 refine g_no (yk 18 false rfl rfl hc53) rfl ?_
 refine g_no (yk 18 false rfl rfl hc53) rfl ?_
 refine st (v:=.bool false) (x_pick_f (.tmp rfl (cVb hc53)) .const) ?_
 exact jw_end ⟨(cVb (jand_f hc53)),hρ51,hs52⟩
 rintro ρ w ⟨hρ54,hρ55,hs56⟩
 refine st (v:=.bool (((decide ((b.node:Int) = k)) && (decide (b.view.ID = a.view.ID))) && (decide ((a.safe:Int) ≤ ((n12:Nat):Int))))) (x_assign (.tmp rfl hρ54)) ?_
 refine c_nil (n_then (c_ret (leave_ret (res_one (v:=.bool (((decide ((b.node:Int) = k)) && (decide (b.view.ID = a.view.ID))) && (decide ((a.safe:Int) ≤ ((n12:Nat):Int))))) rfl (.mk rfl rfl)) ?_)))
 have hans57:(((decide (b.node = k)) && (decide (b.view.ID = a.view.ID))) && (decide (a.safe ≤ (b.recv.length:Int)))) = (((decide ((b.node:Int) = k)) && (decide (b.view.ID = a.view.ID))) && (decide ((a.safe:Int) ≤ ((n12:Nat):Int)))):=(by congr 1; exact decide_eq_decide.2 (by omega))
 rw [hans57]
 exact ⟨rfl,hs56.drop⟩
set_option maxHeartbeats 8000000 in
theorem index_life {H:Hp} {w:World} {L:List Res} (hs:St H w (L)) {A_l:Option Addr} {n_l c_l:Nat} (l:(List GLife)) (h_l:Sl kLife H A_l n_l c_l l) {f_p:Nat} {cap_p:Array Value} (p:GLife → Bool) (cb_p:Cb Tryd.prog f_p) (h_p:∀ {w:World} {L:List Res} (hs:St H w L) (x0_:GLife) {k_x0_:List Value} (h_x0_:kLife.rep H x0_ k_x0_),Calls Tryd.prog f_p (#[.agg k_x0_.toArray] ++ cap_p) w (fun e w' => e = .returned (.bool (p x0_))∧St H w' L)):Calls Tryd.prog 30 #[.slice A_l n_l c_l,.func (.func f_p) #[] cap_p] w (fun e w' => e = .returned (.int .i64 (idxP p l))∧St H w' (L)):=by
 have:=h_l.len; have:=h_l.le; have:n_l * 104 ≤ 140737488351232:=h_l.bnd
 refine enter (args:=[.slice A_l n_l c_l,.func (.func f_p) #[] cap_p]) (N:=19) Tryd.func30 rfl rfl rfl ?_
 refine c_seq (c_region (st (v:=.int .i64 0) (x_assign .const) ?_))
 refine c_nil (n_then (c_seq (c_seq (c_region (st (v:=.slice A_l n_l c_l) (x_move (.tmp rfl rfl)) ?_)))))
 refine st (v:=.int .i64 ((n_l:Nat):Int)) (x_len (n:=n_l) Tryd.underlying58 (.tmp rfl rfl)) ?_
 refine st (v:=.int .i64 0) (x_move .const) ?_
 refine c_nil (n_then (c_block (c_loop (fun ρ w mm => ∃ (i:Nat),ρ 0 = .slice A_l n_l c_l∧ρ 1 = .func (.func f_p) #[] cap_p∧ρ 7 = .int .i64 ((n_l:Nat):Int)∧ρ 8 = .int .i64 ((i:Nat):Int)∧(i ≤ n_l)∧(∀ (j:Nat) (y:GLife),j < i → l[j]? = some y → p y = false)∧St H w (L)∧mm = n_l - i) _ ⟨0,rfl,rfl,rfl,rfl,(by omega),(fun j y h _ => absurd h (Nat.not_lt_zero _)),hs,rfl⟩ ?_)))
 rintro ρ w mm ⟨i,hρ2,hρ3,hρ4,hρ5,hi,ha,hs6,rfl⟩
 refine c_seq (c_region (st (v:=.bool (decide ((((i:Nat):Int):Int) < ((n_l:Nat):Int)))) (x_lss (k:=.i64) (a:=((i:Nat):Int)) (b:=((n_l:Nat):Int)) (.tmp rfl hρ5) (.tmp rfl hρ4)) ?_))
 refine c_nil (n_then (c_seq ?_))
 rcases Bool.eq_false_or_eq_true (decide ((((i:Nat):Int):Int) < ((n_l:Nat):Int))) with hc7 | hc7
 have hp7:(((i:Nat):Int):Int) < ((n_l:Nat):Int):=of_decide_eq_true hc7
 refine c_cond_t (t:=true) (.tmp rfl (cVb hc7)) rfl ?_
 refine c_skip (n_then (c_seq (c_block (c_seq (c_region (st (v:=.int .i64 ((i:Nat):Int)) (x_move (.tmp rfl hρ5)) ?_))))))
 refine st (v:=.int .i64 ((i:Nat):Int)) (x_assign (.tmp rfl rfl)) ?_
 refine c_nil (n_then (c_seq (c_region (st (v:=.func (.func f_p) #[] cap_p) (x_move (.tmp rfl hρ3)) ?_))))
 refine st (v:=.slice A_l n_l c_l) (x_move (.tmp rfl hρ2)) ?_
 refine st (v:=.int .i64 ((i:Nat):Int)) (x_move (.tmp rfl rfl)) ?_
 obtain ⟨e8,b9,o10,cs11,hx12,hA13,hr14,hat15⟩:=h_l.get (i:=i) (by omega)
 obtain ⟨A22,n23,c24,A26,n27,c28,rfl,⟨b16,b17⟩,b18,⟨b19,b20⟩,b21,hl25,hl29,⟨b30,b31⟩,b32,⟨b33,b34⟩⟩:=hr14
 have:=hl25.len; have:n23 * 32 ≤ 140737488351232:=hl25.bnd; have:=hl25.le
 have:=hl29.len; have:n27 * 32 ≤ 140737488351232:=hl29.bnd; have:=hl29.le
 have hat15x:∀ {w:World} {L:List Res},St H w L → At w ⟨b9,o10 + i * 9,none⟩ [.int .i64 e8.node,.int .u64 ((e8.view.ID.N:Nat):Int),.int .i64 e8.view.ID.P,.int .u16 ((e8.view.Set:Nat):Int),.slice A22 n23 c24,.slice A26 n27 c28,.int .i64 e8.safe,.int .u64 ((e8.next.N:Nat):Int),.int .i64 e8.next.P]:=fun h => hat15 h
 refine st (v:=.pointer (some ⟨b9,(o10 + i * 9),none⟩)) (ixo58 (.tmp rfl rfl) hA13 (i:=((i:Nat):Int)) (.tmp rfl rfl) (by omega) (by omega) (by omega)) ?_
 refine st (v:=.agg #[.int .i64 e8.node,.int .u64 ((e8.view.ID.N:Nat):Int),.int .i64 e8.view.ID.P,.int .u16 ((e8.view.Set:Nat):Int),.slice A22 n23 c24,.slice A26 n27 c28,.int .i64 e8.safe,.int .u64 ((e8.next.N:Nat):Int),.int .i64 e8.next.P]) (ld62 (cs:=[.int .i64 e8.node,.int .u64 ((e8.view.ID.N:Nat):Int),.int .i64 e8.view.ID.P,.int .u16 ((e8.view.Set:Nat):Int),.slice A22 n23 c24,.slice A26 n27 c28,.int .i64 e8.safe,.int .u64 ((e8.next.N:Nat):Int),.int .i64 e8.next.P]) (.tmp rfl rfl) ((hat15x hs6).sub 0 rfl) rfl) ?_
 have hr35:kLife.rep H e8 [.int .i64 e8.node,.int .u64 ((e8.view.ID.N:Nat):Int),.int .i64 e8.view.ID.P,.int .u16 ((e8.view.Set:Nat):Int),.slice A22 n23 c24,.slice A26 n27 c28,.int .i64 e8.safe,.int .u64 ((e8.next.N:Nat):Int),.int .i64 e8.next.P]:=⟨A22,n23,c24,A26,n27,c28,rfl,⟨b16,b17⟩,b18,⟨b19,b20⟩,b21,hl25,hl29,⟨b30,b31⟩,b32,⟨b33,b34⟩⟩
 refine st_cc cb_p (.tmp rfl rfl) (evs1 (.tmp rfl rfl)) rfl (h_p hs6 e8 hr35) ?_
 rintro e w36 ⟨rfl,hs37⟩
 refine ⟨_,rfl,?_⟩
 refine c_nil (n_then ?_)
 rcases Bool.eq_false_or_eq_true (p e8) with hc38 | hc38
 refine c_cond_t (t:=true) (.tmp rfl (cVb hc38)) rfl ?_
 refine c_seq (c_region (st (v:=.int .i64 ((i:Nat):Int)) (x_move (.tmp rfl rfl)) ?_))
 refine st (v:=.int .i64 ((i:Nat):Int)) (x_assign (.tmp rfl rfl)) ?_
 refine c_nil (n_then (c_ret (r_block (r_then (r_then (r_block (r_then (leave_ret (res_one (v:=.int .i64 ((i:Nat):Int)) rfl (.mk rfl rfl)) ?_))))))))
 have hans39:idxP p l = ((i:Nat):Int):=idxP_at p l i _ hx12 hc38 ha
 rw [hans39]
 exact ⟨rfl,hs37⟩
 refine c_cond_f (t:=false) (.tmp rfl (cVb hc38)) rfl ?_
 refine c_skip (n_block (n_then (c_region (st (v:=.int .i64 (((i + 1):Nat):Int)) (x_add (k:=.i64) (a:=((i:Nat):Int)) (b:=1) (.tmp rfl hρ5) .const ((w64 (by omega) (by omega)).trans (by omega))) ?_))))
 refine st (v:=.int .i64 (((i + 1):Nat):Int)) (x_move (.tmp rfl rfl)) ?_
 refine c_nil ?_
 refine n_then ⟨_,_,rfl,?_,(i + 1),hρ2,hρ3,hρ4,rfl,(by omega),(before_next ha hx12 hc38),hs37,rfl⟩
 omega
 have hp7:¬ ((((i:Nat):Int):Int) < ((n_l:Nat):Int)):=of_decide_eq_false hc7
 refine c_cond_f (t:=false) (.tmp rfl (cVb hc7)) rfl ?_
 refine c_exit (x_then (x_then (x_here (n_then (c_seq (c_region (st (v:=.int .i64 (-1)) (x_assign .const) ?_)))))))
 refine c_nil (n_then (c_ret (leave_ret (res_one (v:=.int .i64 (-1)) rfl (.mk rfl rfl)) ?_)))
 have hans40:idxP p l = -1:=idxP_none p l (fun j y hy => ha j y (by have:=(List.getElem?_eq_some_iff.1 hy).1; omega) hy)
 rw [hans40]
 exact ⟨rfl,hs6⟩
set_option maxHeartbeats 8000000 in
theorem contains_life {H:Hp} {w:World} {L:List Res} (hs:St H w (L)) {A_l:Option Addr} {n_l c_l:Nat} (l:(List GLife)) (h_l:Sl kLife H A_l n_l c_l l) {f_p:Nat} {cap_p:Array Value} (p:GLife → Bool) (cb_p:Cb Tryd.prog f_p) (h_p:∀ {w:World} {L:List Res} (hs:St H w L) (x0_:GLife) {k_x0_:List Value} (h_x0_:kLife.rep H x0_ k_x0_),Calls Tryd.prog f_p (#[.agg k_x0_.toArray] ++ cap_p) w (fun e w' => e = .returned (.bool (p x0_))∧St H w' L)):Calls Tryd.prog 33 #[.slice A_l n_l c_l,.func (.func f_p) #[] cap_p] w (fun e w' => e = .returned (.bool (l.any p))∧St H w' (L)):=by
 have:=h_l.len; have:=h_l.le; have:n_l * 104 ≤ 140737488351232:=h_l.bnd
 refine enter (args:=[.slice A_l n_l c_l,.func (.func f_p) #[] cap_p]) (N:=9) Tryd.func33 rfl rfl rfl ?_
 refine c_seq (c_region (st (v:=.bool false) (x_assign .const) ?_))
 refine c_nil (n_then (c_seq (c_region (st (v:=.slice A_l n_l c_l) (x_move (.tmp rfl rfl)) ?_))))
 refine st (v:=.func (.func f_p) #[] cap_p) (x_move (.tmp rfl rfl)) ?_
 refine st_c cb30 .func (evs2 (.tmp rfl rfl) (.tmp rfl rfl)) (index_life hs l h_l p cb_p h_p ) ?_
 rintro e w1 ⟨rfl,hs2⟩
 refine ⟨_,rfl,?_⟩
 refine st (v:=.bool (decide ((0:Int) ≤ (idxP p l)))) (x_geq (k:=.i64) (a:=(idxP p l)) (b:=0) (.tmp rfl rfl) .const) ?_
 refine st (v:=.bool (decide ((0:Int) ≤ (idxP p l)))) (x_assign (.tmp rfl rfl)) ?_
 refine c_nil (n_then (c_ret (leave_ret (res_one (v:=.bool (decide ((0:Int) ≤ (idxP p l)))) rfl (.mk rfl rfl)) ?_)))
 have hans3:(l.any p) = (decide ((0:Int) ≤ (idxP p l))):=(idxP_any p l).symm
 rw [hans3]
 exact ⟨rfl,hs2⟩
end Go.Proofs.YtnikcgcbkdeeeaaDoor

set_option linter.unusedVariables false
set_option linter.unusedSimpArgs false
namespace Go.Proofs.YtnikcgcbkdeeeaaDoor
open Go Go.FM Go.Proofs
attribute [local irreducible] wpList wpQuiet Code.wp Calls
set_option maxHeartbeats 8000000 in
theorem whole_spec {H:Hp} {w:World} {L:List Res} (hs:St H w (L)) (a:GLife) {k_a:List Value} (h_a:kLife.rep H a k_a) {A_all:Option Addr} {n_all c_all:Nat} (all:(List GLife)) (h_all:Sl kLife H A_all n_all c_all all) (hnode:∀ b ∈ all,0 ≤ b.node∧b.node < 16) (htab:Tab H):Calls Tryd.prog 26 #[.agg k_a.toArray,.slice A_all n_all c_all] w (fun e w' => ∃ (H':Hp),H.le H'∧e = .returned (.bool (wholeL a all))∧St H' w' (L)):=by
 obtain ⟨A7,n8,c9,A11,n12,c13,rfl,⟨b1,b2⟩,b3,⟨b4,b5⟩,b6,hl10,hl14,⟨b15,b16⟩,b17,⟨b18,b19⟩⟩:=h_a
 have:=hl10.len; have:n8 * 32 ≤ 140737488351232:=hl10.bnd; have:=hl10.le
 have:=hl14.len; have:n12 * 32 ≤ 140737488351232:=hl14.bnd; have:=hl14.le
 have:=h_all.len; have:=h_all.le; have:n_all * 104 ≤ 140737488351232:=h_all.bnd
 refine enter (args:=[.agg #[.int .i64 a.node,.int .u64 ((a.view.ID.N:Nat):Int),.int .i64 a.view.ID.P,.int .u16 ((a.view.Set:Nat):Int),.slice A7 n8 c9,.slice A11 n12 c13,.int .i64 a.safe,.int .u64 ((a.next.N:Nat):Int),.int .i64 a.next.P],.slice A_all n_all c_all]) (N:=78) Tryd.func26 rfl rfl rfl ?_
 have hll:(lst a.view.Set).length ≤ 16:=by rw [lst_length]; exact pc_le 16 a.view.Set
 refine c_seq (c_region (st_m (m_box (cs:=[.int .i64 a.node,.int .u64 ((a.view.ID.N:Nat):Int),.int .i64 a.view.ID.P,.int .u16 ((a.view.Set:Nat):Int),.slice A7 n8 c9,.slice A11 n12 c13,.int .i64 a.safe,.int .u64 ((a.next.N:Nat):Int),.int .i64 a.next.P]) hs (v:=.agg #[.int .i64 a.node,.int .u64 ((a.view.ID.N:Nat):Int),.int .i64 a.view.ID.P,.int .u16 ((a.view.Set:Nat):Int),.slice A7 n8 c9,.slice A11 n12 c13,.int .i64 a.safe,.int .u64 ((a.next.N:Nat):Int),.int .i64 a.next.P]) (.tmp rfl rfl) rfl) ?_))
 rintro _ w21 ⟨g20,rfl,hs23⟩
 refine st (v:=.bool false) (x_assign .const) ?_
 refine c_nil (n_then (c_seq (c_region (st_m (al73 (cs:=[.int .i64 0,.int .i64 0,.int .i64 0,.int .i64 0,.int .i64 0,.int .i64 0,.int .i64 0,.int .i64 0,.int .i64 0,.int .i64 0,.int .i64 0,.int .i64 0,.int .i64 0,.int .i64 0,.int .i64 0,.int .i64 0]) hs23 rfl) ?_))))
 rintro _ w25 ⟨g24,rfl,hs27⟩
 have hs28:St H _ (obj g24 73 (aCells (List.replicate 16 0))::obj g20 62 [.int .i64 a.node,.int .u64 ((a.view.ID.N:Nat):Int),.int .i64 a.view.ID.P,.int .u16 ((a.view.Set:Nat):Int),.slice A7 n8 c9,.slice A11 n12 c13,.int .i64 a.safe,.int .u64 ((a.next.N:Nat):Int),.int .i64 a.next.P]::L):=hs27
 refine c_nil (n_then (c_seq (c_seq (c_region ?_))))
 have hs29:=hs28.p1
 obtain ⟨H30,hle31,hs32,rd33,hb34⟩:=hs29.freezeObj
 have hat35:∀ {w:World} {L:List Res},St H30 w L → At w ⟨g20,0,none⟩ [.int .i64 a.node,.int .u64 ((a.view.ID.N:Nat):Int),.int .i64 a.view.ID.P,.int .u16 ((a.view.Set:Nat):Int),.slice A7 n8 c9,.slice A11 n12 c13,.int .i64 a.safe,.int .u64 ((a.next.N:Nat):Int),.int .i64 a.next.P]:=fun h => rd33.hat h
 skip
 refine st (v:=.pointer (some ⟨g20,0 + 5,none⟩)) (fa62_3 (.tmp rfl rfl)) ?_
 refine st (v:=.slice A11 n12 c13) (ld25 (.tmp rfl rfl) ((hat35 hs32).cell 5 rfl)) ?_
 refine st (v:=.int .i64 ((n12:Nat):Int)) (x_len (n:=n12) Tryd.underlying25 (.tmp rfl rfl)) ?_
 refine st (v:=.int .i64 0) (x_move .const) ?_
 refine c_nil (n_then (c_block (c_loop (fun ρ w mm => ∃ (H36:Hp) (j:Nat) (ats:List Int),ρ 1 = .slice A_all n_all c_all∧ρ 2 = .pointer (some ⟨g20,0,none⟩)∧ρ 5 = .pointer (some ⟨g24,0,none⟩)∧ρ 12 = .slice A11 n12 c13∧ρ 13 = .int .i64 ((n12:Nat):Int)∧ρ 14 = .int .i64 ((j:Nat):Int)∧(H30.le H36)∧(j ≤ a.recv.length)∧(ats = cnts (a.recv.take j))∧(∀ j':Nat,j' < j → gotAt all a j' = true)∧St H36 w (obj g24 73 (aCells ats)::L)∧mm = a.recv.length - j) _ ⟨H30,0,(List.replicate 16 (0:Int)),rfl,rfl,rfl,rfl,rfl,rfl,(Hp.le.refl _),(by omega),cnts_zero,(fun j h => absurd h (Nat.not_lt_zero _)),hs32,rfl⟩ ?_)))
 rintro ρ w mm ⟨H36,j,ats,hρ38,hρ39,hρ40,hρ41,hρ42,hρ43,hg37,hj,hat,hg,hs44,rfl⟩
 refine c_seq (c_region (st (v:=.bool (decide ((((j:Nat):Int):Int) < ((n12:Nat):Int)))) (x_lss (k:=.i64) (a:=((j:Nat):Int)) (b:=((n12:Nat):Int)) (.tmp rfl hρ43) (.tmp rfl hρ42)) ?_))
 refine c_nil (n_then (c_seq ?_))
 rcases Bool.eq_false_or_eq_true (decide ((((j:Nat):Int):Int) < ((n12:Nat):Int))) with hc45 | hc45
 have hp45:(((j:Nat):Int):Int) < ((n12:Nat):Int):=of_decide_eq_true hc45
 refine c_cond_t (t:=true) (.tmp rfl (cVb hc45)) rfl ?_
 refine c_skip (n_then (c_seq (c_block (c_seq (c_region ?_)))))
 obtain ⟨e46,b47,o48,cs49,hx50,hA51,hr52,hat53⟩:=((hl14.mono hle31).mono hg37).get (i:=j) (by omega)
 obtain ⟨A56,n57,c58,rfl,⟨b54,b55⟩,hy59⟩:=hr52
 have:=hy59.len; have:=hy59.bnd; have:=hy59.le
 have hat53x:∀ {w:World} {L:List Res},St H36 w L → At w ⟨b47,o48 + j * 2,none⟩ [.int .i64 e46.From,.slice A56 n57 c58]:=fun h => hat53 h
 refine st (v:=.pointer (some ⟨b47,(o48 + j * 2),none⟩)) (ixo25 (.tmp rfl hρ41) hA51 (i:=((j:Nat):Int)) (.tmp rfl hρ43) (by omega) (by omega) (by omega)) ?_
 refine st (v:=.agg #[.int .i64 e46.From,.slice A56 n57 c58]) (ld34 (cs:=[.int .i64 e46.From,.slice A56 n57 c58]) (.tmp rfl rfl) ((hat53x hs44).sub 0 rfl) rfl) ?_
 refine st_m (al34 (cs:=[.int .i64 0,.slice none 0 0]) hs44 rfl) ?_
 rintro _ w61 ⟨g60,rfl,hs63⟩
 refine st_m0 (sto34 (cs':=[.int .i64 e46.From,.slice A56 n57 c58]) (i:=0) hs63 (v:=.agg #[.int .i64 e46.From,.slice A56 n57 c58]) (.tmp rfl rfl) (.tmp rfl rfl) rfl (Nat.le_of_ble_eq_true rfl) (oneA rfl) rfl) ?_
 rintro w65 hs67
 refine c_nil (n_then (c_seq (c_region (st (v:=.slice A_all n_all c_all) (x_move (.tmp rfl hρ38)) ?_))))
 obtain ⟨H68,hle69,hs70,rd71,hb72⟩:=hs67.freezeObj
 have hat73:∀ {w:World} {L:List Res},St H68 w L → At w ⟨g60,0,none⟩ [.int .i64 e46.From,.slice A56 n57 c58]:=fun h => rd71.hat h
 refine st (v:=.func (.func 31) #[] #[.pointer (some ⟨g60,0,none⟩),.pointer (some ⟨g20,0,none⟩)]) (x_makeFunc (vs:=#[]) (us:=#[.pointer (some ⟨g60,0,none⟩),.pointer (some ⟨g20,0,none⟩)]) evs0 (evs2 (.tmp rfl rfl) (.tmp rfl hρ39))) ?_
 refine st_c cb30 .func (evs2 (.tmp rfl rfl) (.tmp rfl rfl)) (index_life hs70 all (((h_all.mono hle31).mono hg37).mono hle69) (fun (y0:GLife) => ((decide (y0.node = e46.From)) && (decide (y0.view.ID = a.view.ID)))) cb31 (fun {_} {_} hs y0 {_} h0 => whole1_p hs y0 h0 e46 rd71 ⟨A56,n57,c58,rfl,⟨b54,b55⟩,(hy59.mono hle69)⟩ a ((rd33.mono hg37).mono hle69) ⟨A7,n8,c9,A11,n12,c13,rfl,⟨b1,b2⟩,b3,⟨b4,b5⟩,b6,(((hl10.mono hle31).mono hg37).mono hle69),(((hl14.mono hle31).mono hg37).mono hle69),⟨b15,b16⟩,b17,⟨b18,b19⟩⟩) ) ?_
 rintro e w74 ⟨rfl,hs75⟩
 refine ⟨_,rfl,?_⟩
 refine st (v:=.int .i64 (idxP (fun (y0:GLife) => ((decide (y0.node = e46.From)) && (decide (y0.view.ID = a.view.ID)))) all)) (x_assign (.tmp rfl rfl)) ?_
 refine c_nil (n_then (c_seq (c_seq (q_region mixed hs75 (by kernel_rfl) ?_))))
 refine q_st (v:=.int .i64 (idxP (fun (y0:GLife) => ((decide (y0.node = e46.From)) && (decide (y0.view.ID = a.view.ID)))) all)) (fun w hs => (x_move (.tmp rfl rfl))) ?_
 refine q_st (v:=.bool (decide (((idxP (fun (y0:GLife) => ((decide (y0.node = e46.From)) && (decide (y0.view.ID = a.view.ID)))) all):Int) < 0))) (fun w hs => (x_lss (k:=.i64) (a:=(idxP (fun (y0:GLife) => ((decide (y0.node = e46.From)) && (decide (y0.view.ID = a.view.ID)))) all)) (b:=0) (.tmp rfl rfl) .const)) ?_
 refine q_st (v:=.bool (decide (((idxP (fun (y0:GLife) => ((decide (y0.node = e46.From)) && (decide (y0.view.ID = a.view.ID)))) all):Int) < 0))) (fun w hs => (x_move (.tmp rfl rfl))) ?_
 rcases Bool.eq_false_or_eq_true (decide (((idxP (fun (y0:GLife) => ((decide (y0.node = e46.From)) && (decide (y0.view.ID = a.view.ID)))) all):Int) < 0)) with hc76 | hc76
 have hp76:((idxP (fun (y0:GLife) => ((decide (y0.node = e46.From)) && (decide (y0.view.ID = a.view.ID)))) all):Int) < 0:=of_decide_eq_true hc76
 refine q_no (yk 23 true rfl rfl hc76) rfl ?_
 refine q_no (yk 23 true rfl rfl hc76) rfl ?_
 refine q_no (yk 23 true rfl rfl hc76) rfl ?_
 refine q_no (yk 23 true rfl rfl hc76) rfl ?_
 refine q_no (yk 23 true rfl rfl hc76) rfl ?_
 refine q_no (yk 23 true rfl rfl hc76) rfl ?_
 refine q_no (yk 23 true rfl rfl hc76) rfl ?_
 refine q_no (yk 23 true rfl rfl hc76) rfl ?_
 refine q_no (yk 23 true rfl rfl hc76) rfl ?_
 refine q_no (yk 23 true rfl rfl hc76) rfl ?_
 refine q_no (yk 23 true rfl rfl hc76) rfl ?_
 refine q_st (v:=.bool true) (fun w hs => (x_pick_t (.tmp rfl (cVb hc76)) .const)) ?_
 refine q_st (v:=.bool true) (fun w hs => (x_move (.tmp rfl rfl))) ?_
 refine q_no (yl (dj:=36) (b:=true) rfl rfl rfl) rfl ?_
 refine q_no (yl (dj:=36) (b:=true) rfl rfl rfl) rfl ?_
 refine q_no (yl (dj:=36) (b:=true) rfl rfl rfl) rfl ?_
 refine q_no (yl (dj:=36) (b:=true) rfl rfl rfl) rfl ?_
 refine q_no (yl (dj:=36) (b:=true) rfl rfl rfl) rfl ?_
 refine q_no (yl (dj:=36) (b:=true) rfl rfl rfl) rfl ?_
 refine q_no (yl (dj:=36) (b:=true) rfl rfl rfl) rfl ?_
 refine q_no (yl (dj:=36) (b:=true) rfl rfl rfl) rfl ?_
 refine q_no (yl (dj:=36) (b:=true) rfl rfl rfl) rfl ?_
 refine q_no (yl (dj:=36) (b:=true) rfl rfl rfl) rfl ?_
 refine q_no (yl (dj:=36) (b:=true) rfl rfl rfl) rfl ?_
 refine q_no (yl (dj:=36) (b:=true) rfl rfl rfl) rfl ?_
 refine q_no (yl (dj:=36) (b:=true) rfl rfl rfl) rfl ?_
 refine q_no (yl (dj:=36) (b:=true) rfl rfl rfl) rfl ?_
 refine q_st (v:=.bool true) (fun w hs => (x_pick_t (.tmp rfl rfl) .const)) ?_
 refine q_nil ?_
 intro w hs77
 refine n_then (c_cond_t (t:=true) (.tmp rfl rfl) rfl ?_)
 refine c_seq (c_region (st (v:=.bool false) (x_assign .const) ?_))
 refine c_nil (n_then (c_ret (r_then (r_block (r_then (r_then (r_block (r_then (leave_ret (res_one (v:=.bool false) rfl (.mk rfl rfl)) ?_)))))))))
 have hans78:wholeL a all = false:=whole_no1 (j:=j) (by omega) (got_bad1 hx50 (idx_none (p:=(fun (y0:GLife) => ((decide (y0.node = e46.From)) && (decide (y0.view.ID = a.view.ID))))) (l:=all) (by omega)))
 rw [hans78]
 exact ⟨H68,((hle31.trans hg37).trans hle69),rfl,hs77.drop⟩
 have hp76:¬ (((idxP (fun (y0:GLife) => ((decide (y0.node = e46.From)) && (decide (y0.view.ID = a.view.ID)))) all):Int) < 0):=of_decide_eq_false hc76
 refine q_yes (yk 23 false rfl rfl hc76) ?_
 have hge:=idxP_ge (fun (y0:GLife) => ((decide (y0.node = e46.From)) && (decide (y0.view.ID = a.view.ID)))) all
 obtain ⟨e79,b80,o81,cs82,hx83,hA84,hr85,hat86⟩:=(((h_all.mono hle31).mono hg37).mono hle69).get (i:=(idxP (fun (y0:GLife) => ((decide (y0.node = e46.From)) && (decide (y0.view.ID = a.view.ID)))) all).toNat) (by omega)
 obtain ⟨A93,n94,c95,A97,n98,c99,rfl,⟨b87,b88⟩,b89,⟨b90,b91⟩,b92,hl96,hl100,⟨b101,b102⟩,b103,⟨b104,b105⟩⟩:=hr85
 have:=hl96.len; have:n94 * 32 ≤ 140737488351232:=hl96.bnd; have:=hl96.le
 have:=hl100.len; have:n98 * 32 ≤ 140737488351232:=hl100.bnd; have:=hl100.le
 have hat86x:∀ {w:World} {L:List Res},St H68 w L → At w ⟨b80,o81 + ((idxP (fun (y0:GLife) => ((decide (y0.node = e46.From)) && (decide (y0.view.ID = a.view.ID)))) all).toNat) * 9,none⟩ [.int .i64 e79.node,.int .u64 ((e79.view.ID.N:Nat):Int),.int .i64 e79.view.ID.P,.int .u16 ((e79.view.Set:Nat):Int),.slice A93 n94 c95,.slice A97 n98 c99,.int .i64 e79.safe,.int .u64 ((e79.next.N:Nat):Int),.int .i64 e79.next.P]:=fun h => hat86 h
 obtain ⟨hfi,hpi⟩:=idx_find (p:=(fun (y0:GLife) => ((decide (y0.node = e46.From)) && (decide (y0.view.ID = a.view.ID))))) (by omega) hx83
 have hno:=hnode e79 (List.mem_of_getElem? hx83)
 have hnx:e79.node = e46.From:=by have h9:=hpi; simp only [Bool.and_eq_true,decide_eq_true_eq] at h9; exact h9.1
 have hcl:cntI (a.recv.take j) ((e46.From.toNat:Nat):Int) ≤ j:=cnt_le
 have hxn:((e46.From.toNat:Nat):Int) = e46.From:=Int.toNat_of_nonneg (by omega)
 skip
 refine q_st (v:=.pointer (some ⟨g60,0 + 0,none⟩)) (fun w hs => (fa34_0 (.tmp rfl rfl))) ?_
 refine q_yes (yk 23 false rfl rfl hc76) ?_
 refine q_st (v:=.int .i64 e46.From) (fun w hs => (ld3 (.tmp rfl rfl) ((hat73 hs).cell 0 rfl))) ?_
 refine q_yes (yk 23 false rfl rfl hc76) ?_
 refine q_st (v:=.pointer (some ⟨g24,e46.From.toNat,none⟩)) (fun w hs => (ixo73 (.tmp rfl hρ40) (i:=e46.From) (.tmp rfl rfl) (by omega) (by omega) (by omega))) ?_
 refine q_yes (yk 23 false rfl rfl hc76) ?_
 refine q_st (v:=.int .i64 (((cntI (a.recv.take j) ((e46.From.toNat:Nat):Int)):Nat):Int)) (fun w hs => (ld3 (.tmp rfl rfl) (hs.cell 0 rfl e46.From.toNat (cnts_get hat (by omega))))) ?_
 refine q_yes (yk 23 false rfl rfl hc76) ?_
 refine q_st (v:=.slice A_all n_all c_all) (fun w hs => (x_move (.tmp rfl hρ38))) ?_
 refine q_yes (yk 23 false rfl rfl hc76) ?_
 refine q_st (v:=.int .i64 (idxP (fun (y0:GLife) => ((decide (y0.node = e46.From)) && (decide (y0.view.ID = a.view.ID)))) all)) (fun w hs => (x_move (.tmp rfl rfl))) ?_
 refine q_yes (yk 23 false rfl rfl hc76) ?_
 refine q_st (v:=.pointer (some ⟨b80,(o81 + ((idxP (fun (y0:GLife) => ((decide (y0.node = e46.From)) && (decide (y0.view.ID = a.view.ID)))) all).toNat) * 9),none⟩)) (fun w hs => (ixo58 (.tmp rfl rfl) hA84 (i:=(idxP (fun (y0:GLife) => ((decide (y0.node = e46.From)) && (decide (y0.view.ID = a.view.ID)))) all)) (.tmp rfl rfl) (by omega) (by omega) (by omega))) ?_
 refine q_yes (yk 23 false rfl rfl hc76) ?_
 refine q_st (v:=.pointer (some ⟨b80,(o81 + ((idxP (fun (y0:GLife) => ((decide (y0.node = e46.From)) && (decide (y0.view.ID = a.view.ID)))) all).toNat) * 9) + 4,none⟩)) (fun w hs => (fa62_2 (.tmp rfl rfl))) ?_
 refine q_yes (yk 23 false rfl rfl hc76) ?_
 refine q_st (v:=.slice A93 n94 c95) (fun w hs => (ld25 (.tmp rfl rfl) ((hat86x hs).cell 4 rfl))) ?_
 refine q_yes (yk 23 false rfl rfl hc76) ?_
 refine q_st (v:=.int .i64 ((n94:Nat):Int)) (fun w hs => (x_len (n:=n94) Tryd.underlying25 (.tmp rfl rfl))) ?_
 refine q_yes (yk 23 false rfl rfl hc76) ?_
 refine q_st (v:=.bool (decide ((((n94:Nat):Int):Int) ≤ (((cntI (a.recv.take j) ((e46.From.toNat:Nat):Int)):Nat):Int)))) (fun w hs => (x_geq (k:=.i64) (a:=(((cntI (a.recv.take j) ((e46.From.toNat:Nat):Int)):Nat):Int)) (b:=((n94:Nat):Int)) (.tmp rfl rfl) (.tmp rfl rfl))) ?_
 refine q_st (v:=.bool (decide ((((n94:Nat):Int):Int) ≤ (((cntI (a.recv.take j) ((e46.From.toNat:Nat):Int)):Nat):Int)))) (fun w hs => (x_pick_f (.tmp rfl (cVb hc76)) (.tmp rfl rfl))) ?_
 refine q_st (v:=.bool (decide ((((n94:Nat):Int):Int) ≤ (((cntI (a.recv.take j) ((e46.From.toNat:Nat):Int)):Nat):Int)))) (fun w hs => (x_move (.tmp rfl rfl))) ?_
 rcases Bool.eq_false_or_eq_true (decide ((((n94:Nat):Int):Int) ≤ (((cntI (a.recv.take j) ((e46.From.toNat:Nat):Int)):Nat):Int))) with hc106 | hc106
 have hp106:(((n94:Nat):Int):Int) ≤ (((cntI (a.recv.take j) ((e46.From.toNat:Nat):Int)):Nat):Int):=of_decide_eq_true hc106
 refine q_no (yk 36 true rfl rfl hc106) rfl ?_
 refine q_no (yk 36 true rfl rfl hc106) rfl ?_
 refine q_no (yk 36 true rfl rfl hc106) rfl ?_
 refine q_no (yk 36 true rfl rfl hc106) rfl ?_
 refine q_no (yk 36 true rfl rfl hc106) rfl ?_
 refine q_no (yk 36 true rfl rfl hc106) rfl ?_
 refine q_no (yk 36 true rfl rfl hc106) rfl ?_
 refine q_no (yk 36 true rfl rfl hc106) rfl ?_
 refine q_no (yk 36 true rfl rfl hc106) rfl ?_
 refine q_no (yk 36 true rfl rfl hc106) rfl ?_
 refine q_no (yk 36 true rfl rfl hc106) rfl ?_
 refine q_no (yk 36 true rfl rfl hc106) rfl ?_
 refine q_no (yk 36 true rfl rfl hc106) rfl ?_
 refine q_no (yk 36 true rfl rfl hc106) rfl ?_
 refine q_st (v:=.bool true) (fun w hs => (x_pick_t (.tmp rfl (cVb hc106)) .const)) ?_
 refine q_nil ?_
 intro w hs107
 refine n_then (c_cond_t (t:=true) (.tmp rfl rfl) rfl ?_)
 refine c_seq (c_region (st (v:=.bool false) (x_assign .const) ?_))
 refine c_nil (n_then (c_ret (r_then (r_block (r_then (r_then (r_block (r_then (leave_ret (res_one (v:=.bool false) rfl (.mk rfl rfl)) ?_)))))))))
 have hans108:wholeL a all = false:=whole_no1 (j:=j) (by omega) (got_bad2 hx50 hfi (by rw [← hxn,List.getElem?_eq_none (by omega)]; simp))
 rw [hans108]
 exact ⟨H68,((hle31.trans hg37).trans hle69),rfl,hs107.drop⟩
 have hp106:¬ ((((n94:Nat):Int):Int) ≤ (((cntI (a.recv.take j) ((e46.From.toNat:Nat):Int)):Nat):Int)):=of_decide_eq_false hc106
 refine q_yes (yk 36 false rfl rfl hc106) ?_
 refine q_st (v:=.slice A_all n_all c_all) (fun w hs => (x_move (.tmp rfl hρ38))) ?_
 refine q_yes (yk 36 false rfl rfl hc106) ?_
 refine q_st (v:=.int .i64 (idxP (fun (y0:GLife) => ((decide (y0.node = e46.From)) && (decide (y0.view.ID = a.view.ID)))) all)) (fun w hs => (x_move (.tmp rfl rfl))) ?_
 refine q_yes (yk 36 false rfl rfl hc106) ?_
 refine q_st (v:=.pointer (some ⟨b80,(o81 + ((idxP (fun (y0:GLife) => ((decide (y0.node = e46.From)) && (decide (y0.view.ID = a.view.ID)))) all).toNat) * 9),none⟩)) (fun w hs => (ixo58 (.tmp rfl rfl) hA84 (i:=(idxP (fun (y0:GLife) => ((decide (y0.node = e46.From)) && (decide (y0.view.ID = a.view.ID)))) all)) (.tmp rfl rfl) (by omega) (by omega) (by omega))) ?_
 refine q_yes (yk 36 false rfl rfl hc106) ?_
 refine q_st (v:=.pointer (some ⟨b80,(o81 + ((idxP (fun (y0:GLife) => ((decide (y0.node = e46.From)) && (decide (y0.view.ID = a.view.ID)))) all).toNat) * 9) + 4,none⟩)) (fun w hs => (fa62_2 (.tmp rfl rfl))) ?_
 refine q_yes (yk 36 false rfl rfl hc106) ?_
 refine q_st (v:=.slice A93 n94 c95) (fun w hs => (ld25 (.tmp rfl rfl) ((hat86x hs).cell 4 rfl))) ?_
 refine q_yes (yk 36 false rfl rfl hc106) ?_
 refine q_st (v:=.pointer (some ⟨g60,0 + 0,none⟩)) (fun w hs => (fa34_0 (.tmp rfl rfl))) ?_
 refine q_yes (yk 36 false rfl rfl hc106) ?_
 refine q_st (v:=.int .i64 e46.From) (fun w hs => (ld3 (.tmp rfl rfl) ((hat73 hs).cell 0 rfl))) ?_
 refine q_yes (yk 36 false rfl rfl hc106) ?_
 refine q_st (v:=.pointer (some ⟨g24,e46.From.toNat,none⟩)) (fun w hs => (ixo73 (.tmp rfl hρ40) (i:=e46.From) (.tmp rfl rfl) (by omega) (by omega) (by omega))) ?_
 refine q_yes (yk 36 false rfl rfl hc106) ?_
 refine q_st (v:=.int .i64 (((cntI (a.recv.take j) ((e46.From.toNat:Nat):Int)):Nat):Int)) (fun w hs => (ld3 (.tmp rfl rfl) (hs.cell 0 rfl e46.From.toNat (cnts_get hat (by omega))))) ?_
 refine q_yes (yk 36 false rfl rfl hc106) ?_
 obtain ⟨e109,b110,o111,cs112,hx113,hA114,hr115,hat116⟩:=hl96.get (i:=(cntI (a.recv.take j) ((e46.From.toNat:Nat):Int))) (by omega)
 obtain ⟨A119,n120,c121,rfl,⟨b117,b118⟩,hy122⟩:=hr115
 have:=hy122.len; have:=hy122.bnd; have:=hy122.le
 have hat116x:∀ {w:World} {L:List Res},St H68 w L → At w ⟨b110,o111 + (cntI (a.recv.take j) ((e46.From.toNat:Nat):Int)) * 2,none⟩ [.int .i64 e109.From,.slice A119 n120 c121]:=fun h => hat116 h
 refine q_st (v:=.pointer (some ⟨b110,(o111 + (cntI (a.recv.take j) ((e46.From.toNat:Nat):Int)) * 2),none⟩)) (fun w hs => (ixo25 (.tmp rfl rfl) hA114 (i:=(((cntI (a.recv.take j) ((e46.From.toNat:Nat):Int)):Nat):Int)) (.tmp rfl rfl) (by omega) (by omega) (by omega))) ?_
 refine q_yes (yk 36 false rfl rfl hc106) ?_
 refine q_st (v:=.agg #[.int .i64 e109.From,.slice A119 n120 c121]) (fun w hs => (ld34 (cs:=[.int .i64 e109.From,.slice A119 n120 c121]) (.tmp rfl rfl) ((hat116x hs).sub 0 rfl) rfl)) ?_
 refine q_yes (yk 36 false rfl rfl hc106) ?_
 refine q_st (v:=.agg #[.int .i64 e46.From,.slice A56 n57 c58]) (fun w hs => (ld34 (cs:=[.int .i64 e46.From,.slice A56 n57 c58]) (.tmp rfl rfl) ((hat73 hs).sub 0 rfl) rfl)) ?_
 refine q_yes (yk 36 false rfl rfl hc106) ?_
 refine q_c (v:=.bool (decide (e109 = e46))) cb20 .func (evs2 (.tmp rfl rfl) (.tmp rfl rfl)) (fun w hs => same_item hs e109 (k_a:=[.int .i64 e109.From,.slice A119 n120 c121]) ⟨A119,n120,c121,rfl,⟨b117,b118⟩,hy122⟩ e46 (k_b:=[.int .i64 e46.From,.slice A56 n57 c58]) ⟨A56,n57,c58,rfl,⟨b54,b55⟩,(hy59.mono hle69)⟩ ) ?_
 refine q_yes (yk 36 false rfl rfl hc106) ?_
 refine q_st (v:=.bool (!(decide (e109 = e46)))) (fun w hs => (x_not (.tmp rfl rfl))) ?_
 refine q_st (v:=.bool (!(decide (e109 = e46)))) (fun w hs => (x_pick_f (.tmp rfl (cVb hc106)) (.tmp rfl rfl))) ?_
 refine q_nil ?_
 intro w hs125
 refine n_then ?_
 rcases Bool.eq_false_or_eq_true (decide (e109 = e46)) with hc126 | hc126
 refine c_cond_f (t:=false) (.tmp rfl (cVb (by rw [hc126]; rfl))) rfl ?_
 refine c_skip (n_then (c_region (st (v:=.pointer (some ⟨g60,0 + 0,none⟩)) (fa34_0 (.tmp rfl rfl)) ?_)))
 refine st (v:=.int .i64 e46.From) (ld3 (.tmp rfl rfl) ((hat73 hs125).cell 0 rfl)) ?_
 refine st (v:=.pointer (some ⟨g24,e46.From.toNat,none⟩)) (ixo73 (.tmp rfl hρ40) (i:=e46.From) (.tmp rfl rfl) (by omega) (by omega) (by omega)) ?_
 refine st (v:=.int .i64 (((cntI (a.recv.take j) ((e46.From.toNat:Nat):Int)):Nat):Int)) (ld3 (.tmp rfl rfl) (hs125.cell 0 rfl e46.From.toNat (cnts_get hat (by omega)))) ?_
 refine st (v:=.int .i64 ((((cntI (a.recv.take j) ((e46.From.toNat:Nat):Int)) + 1):Nat):Int)) (x_add (k:=.i64) (a:=(((cntI (a.recv.take j) ((e46.From.toNat:Nat):Int)):Nat):Int)) (b:=1) (.tmp rfl rfl) .const ((w64 (by omega) (by omega)).trans (by omega))) ?_
 refine st (v:=.pointer (some ⟨g24,e46.From.toNat,none⟩)) (ixo73 (.tmp rfl hρ40) (i:=e46.From) (.tmp rfl rfl) (by omega) (by omega) (by omega)) ?_
 refine st_m0 (sto3 (cs':=aCells (ats.set e46.From.toNat ((((cntI (a.recv.take j) ((e46.From.toNat:Nat):Int)) + 1):Nat):Int))) (i:=e46.From.toNat) hs125 (v:=.int .i64 ((((cntI (a.recv.take j) ((e46.From.toNat:Nat):Int)) + 1):Nat):Int)) (.tmp rfl rfl) (.tmp rfl rfl) rfl (by rw [acells_len,cnts_len hat]; omega) one1 (acells_set (by rw [cnts_len hat]; omega))) ?_
 rintro w127 hs128
 refine c_nil (n_block (n_then (c_region (st (v:=.int .i64 (((j + 1):Nat):Int)) (x_add (k:=.i64) (a:=((j:Nat):Int)) (b:=1) (.tmp rfl hρ43) .const ((w64 (by omega) (by omega)).trans (by omega))) ?_))))
 refine st (v:=.int .i64 (((j + 1):Nat):Int)) (x_move (.tmp rfl rfl)) ?_
 refine c_nil ?_
 refine n_then ⟨_,_,rfl,?_,H68,(j + 1),(ats.set e46.From.toNat ((((cntI (a.recv.take j) ((e46.From.toNat:Nat):Int)) + 1):Nat):Int)),hρ38,hρ39,hρ40,hρ41,hρ42,rfl,(hg37.trans hle69),(by omega),(cnts_next hat hx50 (by omega) (by omega)),(see_next (p:=fun j => gotAt all a j = true) hg (got_ok hx50 hfi (by rw [← hxn,hx113,of_decide_eq_true hc126]))),hs128,rfl⟩
 omega
 refine c_cond_t (t:=true) (.tmp rfl (cVb (by rw [hc126]; rfl))) rfl ?_
 refine c_seq (c_region (st (v:=.bool false) (x_assign .const) ?_))
 refine c_nil (n_then (c_ret (r_then (r_block (r_then (r_then (r_block (r_then (leave_ret (res_one (v:=.bool false) rfl (.mk rfl rfl)) ?_)))))))))
 have hans129:wholeL a all = false:=whole_no1 (j:=j) (by omega) (got_bad2 hx50 hfi (by rw [← hxn,hx113]; intro h9; exact of_decide_eq_false hc126 (Option.some.inj h9)))
 rw [hans129]
 exact ⟨H68,((hle31.trans hg37).trans hle69),rfl,hs125.drop⟩
 have hp45:¬ ((((j:Nat):Int):Int) < ((n12:Nat):Int)):=of_decide_eq_false hc45
 refine c_cond_f (t:=false) (.tmp rfl (cVb hc45)) rfl ?_
 refine c_exit (x_then (x_then (x_here (n_then (c_seq (c_seq (c_region (st (v:=.pointer (some ⟨g20,0 + 1,none⟩)) (fa62_1 (.tmp rfl hρ39)) ?_))))))))
 refine st (v:=.pointer (some ⟨g20,0 + 1 + 2,none⟩)) (fa47_1 (.tmp rfl rfl)) ?_
 refine st (v:=.int .u16 ((a.view.Set:Nat):Int)) (ld45 (.tmp rfl rfl) ((hat35 (hs44.weaken hg37)).cell 3 rfl)) ?_
 refine st_c cb32 .func (evs1 (.tmp rfl rfl)) (list_spec hs44 (htab.mono (hle31.trans hg37)) a.view.Set b6) ?_
 rintro e w131 ⟨v130,rfl,ok132,hs133⟩
 refine ⟨_,rfl,?_⟩
 obtain ⟨A135,c136,hv137,hc138⟩:=ok132.slice
 refine st (v:=.int .i64 (((lst a.view.Set).length:Nat):Int)) (x_len (n:=(lst a.view.Set).length) Tryd.underlying31 (.tmp rfl hv137)) ?_
 refine st (v:=.int .i64 0) (x_move .const) ?_
 refine c_nil (n_then (c_block (c_loop (fun ρ w mm => ∃ (H139:Hp) (q:Nat),ρ 1 = .slice A_all n_all c_all∧ρ 2 = .pointer (some ⟨g20,0,none⟩)∧ρ 62 = v130∧ρ 63 = .int .i64 (((lst a.view.Set).length:Nat):Int)∧ρ 64 = .int .i64 ((q:Nat):Int)∧(H36.le H139)∧(q ≤ (lst a.view.Set).length)∧(∀ (q' k:Nat),q' < q → (lst a.view.Set)[q']? = some k → (decide (0 < a.safe) && !safeAt all a (k:Int)) = false)∧St H139 w (row 3 1 v130 ((lst a.view.Set).length) ((lst a.view.Set).map encI)::L)∧mm = (lst a.view.Set).length - q) _ ⟨H36,0,hρ38,hρ39,rfl,rfl,rfl,(Hp.le.refl _),(by omega),(fun q k h => absurd h (Nat.not_lt_zero _)),(hs133.p1).drop,rfl⟩ ?_)))
 rintro ρ w mm ⟨H139,q,hρ141,hρ142,hρ143,hρ144,hρ145,hg140,hq,hs2,hs146,rfl⟩
 refine c_seq (c_region (st (v:=.bool (decide ((((q:Nat):Int):Int) < (((lst a.view.Set).length:Nat):Int)))) (x_lss (k:=.i64) (a:=((q:Nat):Int)) (b:=(((lst a.view.Set).length:Nat):Int)) (.tmp rfl hρ145) (.tmp rfl hρ144)) ?_))
 refine c_nil (n_then (c_seq ?_))
 rcases Bool.eq_false_or_eq_true (decide ((((q:Nat):Int):Int) < (((lst a.view.Set).length:Nat):Int))) with hc147 | hc147
 have hp147:(((q:Nat):Int):Int) < (((lst a.view.Set).length:Nat):Int):=of_decide_eq_true hc147
 refine c_cond_t (t:=true) (.tmp rfl (cVb hc147)) rfl ?_
 refine c_skip (n_then (c_seq (c_block (c_seq (c_region ?_)))))
 obtain ⟨g148,c149,hv150⟩:=ok132.pos (by omega)
 refine st (v:=.pointer (some ⟨g148,(q),none⟩)) (ixo31 (.tmp rfl (hρ143.trans hv150)) rfl (i:=((q:Nat):Int)) (.tmp rfl hρ145) (by omega) (by omega) (by omega)) ?_
 obtain ⟨z151,hz152⟩:∃ x,(lst a.view.Set)[q]? = some x:=⟨_,List.getElem?_eq_getElem (by omega)⟩
 refine st (v:=.int .i64 ((z151:Nat):Int)) (ld3 (.tmp rfl rfl) (hs146.rowEnc (enc:=encI) 0 rfl hv150 q hz152)) ?_
 refine st_m (al3 (cs:=[.int .i64 0]) hs146 rfl) ?_
 rintro _ w154 ⟨g153,rfl,hs156⟩
 refine st_m0 (sto3 (cs':=[.int .i64 ((z151:Nat):Int)]) (i:=0) hs156 (v:=.int .i64 ((z151:Nat):Int)) (.tmp rfl rfl) (.tmp rfl rfl) rfl (Nat.le_of_ble_eq_true rfl) one1 rfl) ?_
 rintro w157 hs159
 refine c_nil (n_then (c_seq (c_region ?_)))
 have hz16:=lst_lt hz152
 obtain ⟨H160,hle161,hs162,rd163,hb164⟩:=hs159.freezeObj
 have hat165:∀ {w:World} {L:List Res},St H160 w L → At w ⟨g153,0,none⟩ [.int .i64 ((z151:Nat):Int)]:=fun h => rd163.hat h
 skip
 refine st (v:=.pointer (some ⟨g20,0 + 6,none⟩)) (fa62_4 (.tmp rfl hρ142)) ?_
 refine st (v:=.int .i64 a.safe) (ld3 (.tmp rfl rfl) ((hat35 (((hs162.weaken hle161).weaken hg140).weaken hg37)).cell 6 rfl)) ?_
 refine st (v:=.bool (decide ((0:Int) < a.safe))) (x_gtr (k:=.i64) (a:=a.safe) (b:=0) (.tmp rfl rfl) .const) ?_
 refine st (v:=.bool (decide ((0:Int) < a.safe))) (x_move (.tmp rfl rfl)) ?_
 rcases Bool.eq_false_or_eq_true (decide ((0:Int) < a.safe)) with hc166 | hc166
 have hp166:(0:Int) < a.safe:=of_decide_eq_true hc166
 refine g_yes (yk 71 true rfl rfl hc166) ?_
 refine st (v:=.slice A_all n_all c_all) (x_move (.tmp rfl hρ141)) ?_
 refine g_yes (yk 71 true rfl rfl hc166) ?_
 refine st (v:=.func (.func 34) #[] #[.pointer (some ⟨g153,0,none⟩),.pointer (some ⟨g20,0,none⟩)]) (x_makeFunc (vs:=#[]) (us:=#[.pointer (some ⟨g153,0,none⟩),.pointer (some ⟨g20,0,none⟩)]) evs0 (evs2 (.tmp rfl rfl) (.tmp rfl hρ142))) ?_
 refine g_yes (yk 71 true rfl rfl hc166) ?_
 refine st_c cb33 .func (evs2 (.tmp rfl rfl) (.tmp rfl rfl)) (contains_life hs162 all ((((h_all.mono hle31).mono hg37).mono hg140).mono hle161) (fun (y0:GLife) => (((decide (y0.node = ((z151:Nat):Int))) && (decide (y0.view.ID = a.view.ID))) && (decide (a.safe ≤ (y0.recv.length:Int))))) cb34 (fun {_} {_} hs y0 {_} h0 => whole2_p hs y0 h0 ((z151:Nat):Int) rd163 ⟨rfl,(show IB ((z151:Nat):Int) from ⟨by omega,by omega⟩)⟩ a (((rd33.mono hg37).mono hg140).mono hle161) ⟨A7,n8,c9,A11,n12,c13,rfl,⟨b1,b2⟩,b3,⟨b4,b5⟩,b6,((((hl10.mono hle31).mono hg37).mono hg140).mono hle161),((((hl14.mono hle31).mono hg37).mono hg140).mono hle161),⟨b15,b16⟩,b17,⟨b18,b19⟩⟩) ) ?_
 rintro e w167 ⟨rfl,hs168⟩
 refine ⟨_,rfl,?_⟩
 refine g_yes (yk 71 true rfl rfl hc166) ?_
 refine st (v:=.bool (!(all.any (fun (y0:GLife) => (((decide (y0.node = ((z151:Nat):Int))) && (decide (y0.view.ID = a.view.ID))) && (decide (a.safe ≤ (y0.recv.length:Int)))))))) (x_not (.tmp rfl rfl)) ?_
 refine st (v:=.bool (!(all.any (fun (y0:GLife) => (((decide (y0.node = ((z151:Nat):Int))) && (decide (y0.view.ID = a.view.ID))) && (decide (a.safe ≤ (y0.recv.length:Int)))))))) (x_pick_t (.tmp rfl (cVb hc166)) (.tmp rfl rfl)) ?_
 refine c_nil (n_then ?_)
 rcases Bool.eq_false_or_eq_true (all.any (fun (y0:GLife) => (((decide (y0.node = ((z151:Nat):Int))) && (decide (y0.view.ID = a.view.ID))) && (decide (a.safe ≤ (y0.recv.length:Int)))))) with hc169 | hc169
 refine c_cond_f (t:=false) (.tmp rfl (cVb (by rw [hc169]; rfl))) rfl ?_
 refine c_skip (n_block (n_then (c_region (st (v:=.int .i64 (((q + 1):Nat):Int)) (x_add (k:=.i64) (a:=((q:Nat):Int)) (b:=1) (.tmp rfl hρ145) .const ((w64 (by omega) (by omega)).trans (by omega))) ?_))))
 refine st (v:=.int .i64 (((q + 1):Nat):Int)) (x_move (.tmp rfl rfl)) ?_
 refine c_nil ?_
 refine n_then ⟨_,_,rfl,?_,H160,(q + 1),hρ141,hρ142,hρ143,hρ144,rfl,(hg140.trans hle161),(by omega),(nth_next (p:=fun (k:Nat) => (decide (0 < a.safe) && !safeAt all a (k:Int)) = false) hs2 hz152 (by rw [show safeAt all a ((z151:Nat):Int) = true from hc169]; simp)),hs168,rfl⟩
 omega
 refine c_cond_t (t:=true) (.tmp rfl (cVb (by rw [hc169]; rfl))) rfl ?_
 refine c_seq (c_region (st (v:=.bool false) (x_assign .const) ?_))
 refine c_nil (n_then (c_ret (r_block (r_then (r_then (r_block (r_then (leave_ret (res_one (v:=.bool false) rfl (.mk rfl rfl)) ?_))))))))
 have hans170:wholeL a all = false:=whole_no2 hz152 (by omega) hc169
 rw [hans170]
 exact ⟨H160,(((hle31.trans hg37).trans hg140).trans hle161),rfl,hs168.drop⟩
 have hp166:¬ ((0:Int) < a.safe):=of_decide_eq_false hc166
 refine g_no (yk 71 false rfl rfl hc166) rfl ?_
 refine g_no (yk 71 false rfl rfl hc166) rfl ?_
 refine g_no (yk 71 false rfl rfl hc166) rfl ?_
 refine g_no (yk 71 false rfl rfl hc166) rfl ?_
 refine st (v:=.bool false) (x_pick_f (.tmp rfl (cVb hc166)) .const) ?_
 refine c_nil (n_then (c_cond_f (t:=false) (.tmp rfl rfl) rfl ?_))
 refine c_skip (n_block (n_then (c_region (st (v:=.int .i64 (((q + 1):Nat):Int)) (x_add (k:=.i64) (a:=((q:Nat):Int)) (b:=1) (.tmp rfl hρ145) .const ((w64 (by omega) (by omega)).trans (by omega))) ?_))))
 refine st (v:=.int .i64 (((q + 1):Nat):Int)) (x_move (.tmp rfl rfl)) ?_
 refine c_nil ?_
 refine n_then ⟨_,_,rfl,?_,H160,(q + 1),hρ141,hρ142,hρ143,hρ144,rfl,(hg140.trans hle161),(by omega),(nth_next (p:=fun (k:Nat) => (decide (0 < a.safe) && !safeAt all a (k:Int)) = false) hs2 hz152 (by rw [decide_eq_false (show ¬ 0 < a.safe by omega)]; rfl)),hs162,rfl⟩
 omega
 have hp147:¬ ((((q:Nat):Int):Int) < (((lst a.view.Set).length:Nat):Int)):=of_decide_eq_false hc147
 refine c_cond_f (t:=false) (.tmp rfl (cVb hc147)) rfl ?_
 refine c_exit (x_then (x_then (x_here (n_then (c_seq (c_region (st (v:=.bool true) (x_assign .const) ?_)))))))
 refine c_nil (n_then (c_ret (leave_ret (res_one (v:=.bool true) rfl (.mk rfl rfl)) ?_)))
 have hans171:wholeL a all = true:=whole_yes (fun j' hj' => hg j' (by omega)) (fun q' k hq' hk => hs2 q' k (by omega) hk)
 rw [hans171]
 exact ⟨H139,((hle31.trans hg37).trans hg140),rfl,hs146.drop⟩
end Go.Proofs.YtnikcgcbkdeeeaaDoor
