/- Steps of the proofs over the functions of this seat, printed by a program (gen.py) and checked by Lean. -/
import Derived.Test.YtcccaihjgoaehaaDoorW01
import Derived.Test.YtcccaihjgoaehaaDoorW00
import Derived.Test.YtcccaihjgoaehaaDoorW05
set_option linter.unusedVariables false
set_option linter.unusedSimpArgs false
namespace Go.Proofs.YtcccaihjgoaehaaDoor
open Go Go.FM Go.Proofs
attribute [local irreducible] wpList wpQuiet wpS Code.wp Calls
set_option maxHeartbeats 8000000 in
theorem propose_X {H:Hp} {w:World} {L:List Res} {g_m m_n m_self m_high:Nat} {m_cur:GView} {m_prom:GViewID} {m_jl:List GState} {m_os:List (GViewID × GViewID)} {A_m:Option Addr} {jn_m jc_m:Nat} {m_prop:Option GProp} {pv_m:Value} (hs:St H w (obj g_m 78 ((.int .i64 ((m_n:Nat):Int))::(.int .i64 ((m_self:Nat):Int))::(.int .u64 ((m_cur.ID.N:Nat):Int))::(.int .i64 m_cur.ID.P)::(.int .u16 ((m_cur.Set:Nat):Int))::(.int .u64 ((m_prom.N:Nat):Int))::(.int .i64 m_prom.P)::(.int .u64 ((m_high:Nat):Int))::pv_m::(.slice A_m jn_m jc_m)::oCells m_os)::L)) (ok_m:MemB H m_n m_self m_cur m_prom m_high A_m jn_m jc_m m_jl m_os) (f:GFrame) {k_f:List Value} (h_f:kFrame.rep H f k_f) (sx:GState) {k_sx:List Value} (h_sx:kState.rep H sx k_sx):Calls Tryd.prog 31 #[.pointer (some ⟨g_m,0,none⟩),.agg k_f.toArray,.agg k_sx.toArray] w (fun e w' => ∃ (H':Hp) (v0:Value) (cs0:List Value) (m_prom':GViewID) (m_high':Nat),H.le H'∧e = .returned (.tuple #[v0,.pointer none,.int .i64 ((MB.propose (MB.mk m_n m_self m_cur m_prom m_high m_prop m_jl m_os) f sx).2.2.2)])∧RowOk kOut.sz v0 ((MB.propose (MB.mk m_n m_self m_cur m_prom m_high m_prop m_jl m_os) f sx).2.1).length cs0∧kOut.toKn.rows H' ((MB.propose (MB.mk m_n m_self m_cur m_prom m_high m_prop m_jl m_os) f sx).2.1) cs0∧MemB H' m_n m_self m_cur m_prom' m_high' A_m jn_m jc_m m_jl m_os∧(MB.mk m_n m_self m_cur m_prom' m_high' m_prop m_jl m_os) = (MB.propose (MB.mk m_n m_self m_cur m_prom m_high m_prop m_jl m_os) f sx).1∧St H' w' (row 53 kOut.sz v0 ((MB.propose (MB.mk m_n m_self m_cur m_prom m_high m_prop m_jl m_os) f sx).2.1).length cs0::obj g_m 78 ((.int .i64 ((m_n:Nat):Int))::(.int .i64 ((m_self:Nat):Int))::(.int .u64 ((m_cur.ID.N:Nat):Int))::(.int .i64 m_cur.ID.P)::(.int .u16 ((m_cur.Set:Nat):Int))::(.int .u64 ((m_prom'.N:Nat):Int))::(.int .i64 m_prom'.P)::(.int .u64 ((m_high':Nat):Int))::pv_m::(.slice A_m jn_m jc_m)::oCells m_os)::L)):=by
 have hn1_m:1 ≤ m_n:=ok_m.n1
 have hn16_m:m_n ≤ 16:=ok_m.n16
 have hsf_m:m_self < m_n:=ok_m.self
 have hol_m:m_os.length = 16:=ok_m.len
 have hhi_m:m_high < 18446744073709551616:=ok_m.high
 obtain ⟨A14,n15,c16,A19,n20,c21,A23,n24,c25,rfl,b1,⟨b2,b3⟩,b4,⟨b5,b6⟩,b7,b8,⟨b9,b10⟩,b11,⟨b12,b13⟩,hl17,b18,hl22,hl26,b27,b28⟩:=h_f
 have:=hl17.len; have:n15 * 48 ≤ 140737488351232:=hl17.bnd; have:=hl17.le
 have:=hl22.len; have:n20 * 24 ≤ 140737488351232:=hl22.bnd; have:=hl22.le
 have:=hl26.len; have:n24 * 32 ≤ 140737488351232:=hl26.bnd; have:=hl26.le
 obtain ⟨A34,n35,c36,rfl,b29,⟨b30,b31⟩,⟨b32,b33⟩,hl37⟩:=h_sx
 have:=hl37.len; have:n35 * 32 ≤ 140737488351232:=hl37.bnd; have:=hl37.le
 refine enter (args:=[.pointer (some ⟨g_m,0,none⟩),.agg #[.int .u8 ((f.Kind:Nat):Int),.int .i64 f.From,.int .u64 ((f.ID.N:Nat):Int),.int .i64 f.ID.P,.int .u16 ((f.Set:Nat):Int),.int .u64 ((f.Cur.N:Nat):Int),.int .i64 f.Cur.P,.int .u64 ((f.Prom.N:Nat):Int),.int .i64 f.Prom.P,.slice A14 n15 c16,.int .u64 ((f.Base:Nat):Int),.slice A19 n20 c21,.slice A23 n24 c25,.int .u64 ((f.Ack:Nat):Int),.int .u64 ((f.Safe:Nat):Int)],.agg #[.int .u64 ((sx.V.N:Nat):Int),.int .i64 sx.V.P,.int .i64 sx.Floor,.slice A34 n35 c36]]) (N:=106) Tryd.func31 rfl rfl rfl ?_
 refine c_seq (c_region (st_m (m_box (cs:=[.int .u8 ((f.Kind:Nat):Int),.int .i64 f.From,.int .u64 ((f.ID.N:Nat):Int),.int .i64 f.ID.P,.int .u16 ((f.Set:Nat):Int),.int .u64 ((f.Cur.N:Nat):Int),.int .i64 f.Cur.P,.int .u64 ((f.Prom.N:Nat):Int),.int .i64 f.Prom.P,.slice A14 n15 c16,.int .u64 ((f.Base:Nat):Int),.slice A19 n20 c21,.slice A23 n24 c25,.int .u64 ((f.Ack:Nat):Int),.int .u64 ((f.Safe:Nat):Int)]) hs (v:=.agg #[.int .u8 ((f.Kind:Nat):Int),.int .i64 f.From,.int .u64 ((f.ID.N:Nat):Int),.int .i64 f.ID.P,.int .u16 ((f.Set:Nat):Int),.int .u64 ((f.Cur.N:Nat):Int),.int .i64 f.Cur.P,.int .u64 ((f.Prom.N:Nat):Int),.int .i64 f.Prom.P,.slice A14 n15 c16,.int .u64 ((f.Base:Nat):Int),.slice A19 n20 c21,.slice A23 n24 c25,.int .u64 ((f.Ack:Nat):Int),.int .u64 ((f.Safe:Nat):Int)]) (.tmp rfl rfl) rfl) ?_))
 rintro _ w39 ⟨g38,rfl,hs41⟩
 refine st_m (m_box (cs:=[.int .u64 ((sx.V.N:Nat):Int),.int .i64 sx.V.P,.int .i64 sx.Floor,.slice A34 n35 c36]) hs41 (v:=.agg #[.int .u64 ((sx.V.N:Nat):Int),.int .i64 sx.V.P,.int .i64 sx.Floor,.slice A34 n35 c36]) (.tmp rfl rfl) rfl) ?_
 rintro _ w43 ⟨g42,rfl,hs45⟩
 refine st (v:=.slice none 0 0) (x_assign .const) ?_
 refine st (v:=.pointer none) (x_assign .const) ?_
 refine st (v:=.int .i64 0) (x_assign .const) ?_
 refine c_nil (n_then (c_seq (c_seq (q_region mixed hs45 (by kernel_rfl) ?_))))
 refine q_st (v:=.pointer (some ⟨g38,0 + 2,none⟩)) (fun w hs => (fa51_2 (.tmp rfl rfl))) ?_
 refine q_st (v:=.pointer (some ⟨g38,0 + 2 + 1,none⟩)) (fun w hs => (fa34_1 (.tmp rfl rfl))) ?_
 refine q_st (v:=.int .i64 f.ID.P) (fun w hs => (ld3 (.tmp rfl rfl) (hs.cell 1 rfl (0 + 2 + 1) rfl))) ?_
 refine q_st (v:=.pointer (some ⟨g38,0 + 1,none⟩)) (fun w hs => (fa51_1 (.tmp rfl rfl))) ?_
 refine q_st (v:=.int .i64 f.From) (fun w hs => (ld3 (.tmp rfl rfl) (hs.cell 1 rfl (0 + 1) rfl))) ?_
 refine q_st (v:=.bool (decide ((f.ID.P:Int) ≠ f.From))) (fun w hs => (x_neq (k:=.i64) (a:=f.ID.P) (b:=f.From) (.tmp rfl rfl) (.tmp rfl rfl))) ?_
 refine q_st (v:=.bool (decide ((f.ID.P:Int) ≠ f.From))) (fun w hs => (x_move (.tmp rfl rfl))) ?_
 refine jq 9 (fun ρ => ρ 24 = .bool ((decide ((f.ID.P:Int) ≠ f.From)) || (!(has f.Set ((m_self:Nat):Int))))∧ρ 0 = .pointer (some ⟨g_m,0,none⟩)∧ρ 4 = .pointer (some ⟨g38,0,none⟩)∧ρ 5 = .pointer (some ⟨g42,0,none⟩)∧True) ?_ ?_
 rcases Bool.eq_false_or_eq_true (decide ((f.ID.P:Int) ≠ f.From)) with hc46 | hc46
 have hp46:(f.ID.P:Int) ≠ f.From:=of_decide_eq_true hc46
 refine q_no (yk 15 true rfl rfl hc46) rfl ?_
 refine q_no (yk 15 true rfl rfl hc46) rfl ?_
 refine q_no (yk 15 true rfl rfl hc46) rfl ?_
 refine q_no (yk 15 true rfl rfl hc46) rfl ?_
 refine q_no (yk 15 true rfl rfl hc46) rfl ?_
 refine q_no (yk 15 true rfl rfl hc46) rfl ?_
 refine q_no (yk 15 true rfl rfl hc46) rfl ?_
 refine q_no (yk 15 true rfl rfl hc46) rfl ?_
 refine q_st (v:=.bool true) (fun w hs => (x_pick_t (.tmp rfl (cVb hc46)) .const)) ?_
 exact jq_end ⟨(cVb (jor_t hc46)),rfl,rfl,rfl,True.intro⟩
 have hp46:¬ ((f.ID.P:Int) ≠ f.From):=of_decide_eq_false hc46
 refine q_yes (yk 15 false rfl rfl hc46) ?_
 refine q_st (v:=.pointer (some ⟨g38,0 + 4,none⟩)) (fun w hs => (fa51_3 (.tmp rfl rfl))) ?_
 refine q_yes (yk 15 false rfl rfl hc46) ?_
 refine q_st (v:=.int .u16 ((f.Set:Nat):Int)) (fun w hs => (ld31 (.tmp rfl rfl) (hs.cell 1 rfl (0 + 4) rfl))) ?_
 refine q_yes (yk 15 false rfl rfl hc46) ?_
 refine q_st (v:=.pointer (some ⟨g_m,0,none⟩)) (fun w hs => (x_move (.tmp rfl rfl))) ?_
 refine q_yes (yk 15 false rfl rfl hc46) ?_
 refine q_st (v:=.pointer (some ⟨g_m,0,none⟩)) (fun w hs => (x_nilCheck (.tmp rfl rfl))) ?_
 refine q_yes (yk 15 false rfl rfl hc46) ?_
 refine q_st (v:=.pointer (some ⟨g_m,0 + 1,none⟩)) (fun w hs => (fa78_1 (.tmp rfl rfl))) ?_
 refine q_yes (yk 15 false rfl rfl hc46) ?_
 refine q_st (v:=.int .i64 ((m_self:Nat):Int)) (fun w hs => (ld3 (.tmp rfl rfl) (hs.cell 2 rfl (0 + 1) rfl))) ?_
 refine q_yes (yk 15 false rfl rfl hc46) ?_
 refine q_c (v:=.bool (has f.Set ((m_self:Nat):Int))) cb34 .func (evs2 (.tmp rfl rfl) (.tmp rfl rfl)) (fun w hs => has_spec hs f.Set ((m_self:Nat):Int) b7 (by omega)) ?_
 refine q_yes (yk 15 false rfl rfl hc46) ?_
 refine q_st (v:=.bool (!(has f.Set ((m_self:Nat):Int)))) (fun w hs => (x_not (.tmp rfl rfl))) ?_
 refine q_st (v:=.bool (!(has f.Set ((m_self:Nat):Int)))) (fun w hs => (x_pick_f (.tmp rfl (cVb hc46)) (.tmp rfl rfl))) ?_
 exact jq_end ⟨(cVb (jor_f hc46)),rfl,rfl,rfl,True.intro⟩
 rintro ρ ⟨hρ47,hρ48,hρ49,hρ50,_⟩
 refine q_st (v:=.bool ((decide ((f.ID.P:Int) ≠ f.From)) || (!(has f.Set ((m_self:Nat):Int))))) (fun w hs => (x_move (.tmp rfl hρ47))) ?_
 refine jq 7 (fun ρ => ρ 32 = .bool (((decide ((f.ID.P:Int) ≠ f.From)) || (!(has f.Set ((m_self:Nat):Int)))) || (!(has f.Set f.From)))∧ρ 0 = .pointer (some ⟨g_m,0,none⟩)∧ρ 4 = .pointer (some ⟨g38,0,none⟩)∧ρ 5 = .pointer (some ⟨g42,0,none⟩)∧True) ?_ ?_
 rcases Bool.eq_false_or_eq_true ((decide ((f.ID.P:Int) ≠ f.From)) || (!(has f.Set ((m_self:Nat):Int)))) with hc52 | hc52
 have hp52:((f.ID.P:Int) ≠ f.From) ∨ (¬ ((has f.Set ((m_self:Nat):Int)) = true)):=((J_or decide_eq_true_iff (J_not Iff.rfl))).1 hc52
 refine q_no (yk 25 true rfl rfl hc52) rfl ?_
 refine q_no (yk 25 true rfl rfl hc52) rfl ?_
 refine q_no (yk 25 true rfl rfl hc52) rfl ?_
 refine q_no (yk 25 true rfl rfl hc52) rfl ?_
 refine q_no (yk 25 true rfl rfl hc52) rfl ?_
 refine q_no (yk 25 true rfl rfl hc52) rfl ?_
 refine q_st (v:=.bool true) (fun w hs => (x_pick_t (.tmp rfl (cVb hc52)) .const)) ?_
 exact jq_end ⟨(cVb (jor_t hc52)),hρ48,hρ49,hρ50,True.intro⟩
 have hp52:¬ (((f.ID.P:Int) ≠ f.From) ∨ (¬ ((has f.Set ((m_self:Nat):Int)) = true))):=J_no (J_or decide_eq_true_iff (J_not Iff.rfl)) hc52
 refine q_yes (yk 25 false rfl rfl hc52) ?_
 refine q_st (v:=.pointer (some ⟨g38,0 + 4,none⟩)) (fun w hs => (fa51_3 (.tmp rfl hρ49))) ?_
 refine q_yes (yk 25 false rfl rfl hc52) ?_
 refine q_st (v:=.int .u16 ((f.Set:Nat):Int)) (fun w hs => (ld31 (.tmp rfl rfl) (hs.cell 1 rfl (0 + 4) rfl))) ?_
 refine q_yes (yk 25 false rfl rfl hc52) ?_
 refine q_st (v:=.pointer (some ⟨g38,0 + 1,none⟩)) (fun w hs => (fa51_1 (.tmp rfl hρ49))) ?_
 refine q_yes (yk 25 false rfl rfl hc52) ?_
 refine q_st (v:=.int .i64 f.From) (fun w hs => (ld3 (.tmp rfl rfl) (hs.cell 1 rfl (0 + 1) rfl))) ?_
 refine q_yes (yk 25 false rfl rfl hc52) ?_
 refine q_c (v:=.bool (has f.Set f.From)) cb34 .func (evs2 (.tmp rfl rfl) (.tmp rfl rfl)) (fun w hs => has_spec hs f.Set f.From b7 (by omega)) ?_
 refine q_yes (yk 25 false rfl rfl hc52) ?_
 refine q_st (v:=.bool (!(has f.Set f.From))) (fun w hs => (x_not (.tmp rfl rfl))) ?_
 refine q_st (v:=.bool (!(has f.Set f.From))) (fun w hs => (x_pick_f (.tmp rfl (cVb hc52)) (.tmp rfl rfl))) ?_
 exact jq_end ⟨(cVb (jor_f hc52)),hρ48,hρ49,hρ50,True.intro⟩
 rintro ρ ⟨hρ53,hρ54,hρ55,hρ56,_⟩
 refine q_st (v:=.bool (((decide ((f.ID.P:Int) ≠ f.From)) || (!(has f.Set ((m_self:Nat):Int)))) || (!(has f.Set f.From)))) (fun w hs => (x_move (.tmp rfl hρ53))) ?_
 refine jq 9 (fun ρ => ρ 42 = .bool ((((decide ((f.ID.P:Int) ≠ f.From)) || (!(has f.Set ((m_self:Nat):Int)))) || (!(has f.Set f.From))) || (decide (((((f.Set / 2 ^ m_n):Nat):Int):Int) ≠ 0)))∧ρ 0 = .pointer (some ⟨g_m,0,none⟩)∧ρ 4 = .pointer (some ⟨g38,0,none⟩)∧ρ 5 = .pointer (some ⟨g42,0,none⟩)∧True) ?_ ?_
 rcases Bool.eq_false_or_eq_true (((decide ((f.ID.P:Int) ≠ f.From)) || (!(has f.Set ((m_self:Nat):Int)))) || (!(has f.Set f.From))) with hc58 | hc58
 have hp58:(((f.ID.P:Int) ≠ f.From) ∨ (¬ ((has f.Set ((m_self:Nat):Int)) = true))) ∨ (¬ ((has f.Set f.From) = true)):=((J_or (J_or decide_eq_true_iff (J_not Iff.rfl)) (J_not Iff.rfl))).1 hc58
 refine q_no (yk 33 true rfl rfl hc58) rfl ?_
 refine q_no (yk 33 true rfl rfl hc58) rfl ?_
 refine q_no (yk 33 true rfl rfl hc58) rfl ?_
 refine q_no (yk 33 true rfl rfl hc58) rfl ?_
 refine q_no (yk 33 true rfl rfl hc58) rfl ?_
 refine q_no (yk 33 true rfl rfl hc58) rfl ?_
 refine q_no (yk 33 true rfl rfl hc58) rfl ?_
 refine q_no (yk 33 true rfl rfl hc58) rfl ?_
 refine q_st (v:=.bool true) (fun w hs => (x_pick_t (.tmp rfl (cVb hc58)) .const)) ?_
 exact jq_end ⟨(cVb (jor_t hc58)),hρ54,hρ55,hρ56,True.intro⟩
 have hp58:¬ ((((f.ID.P:Int) ≠ f.From) ∨ (¬ ((has f.Set ((m_self:Nat):Int)) = true))) ∨ (¬ ((has f.Set f.From) = true))):=J_no (J_or (J_or decide_eq_true_iff (J_not Iff.rfl)) (J_not Iff.rfl)) hc58
 refine q_yes (yk 33 false rfl rfl hc58) ?_
 refine q_st (v:=.pointer (some ⟨g38,0 + 4,none⟩)) (fun w hs => (fa51_3 (.tmp rfl hρ55))) ?_
 refine q_yes (yk 33 false rfl rfl hc58) ?_
 refine q_st (v:=.int .u16 ((f.Set:Nat):Int)) (fun w hs => (ld31 (.tmp rfl rfl) (hs.cell 1 rfl (0 + 4) rfl))) ?_
 refine q_yes (yk 33 false rfl rfl hc58) ?_
 refine q_st (v:=.pointer (some ⟨g_m,0,none⟩)) (fun w hs => (x_move (.tmp rfl hρ54))) ?_
 refine q_yes (yk 33 false rfl rfl hc58) ?_
 refine q_st (v:=.pointer (some ⟨g_m,0,none⟩)) (fun w hs => (x_nilCheck (.tmp rfl rfl))) ?_
 refine q_yes (yk 33 false rfl rfl hc58) ?_
 refine q_st (v:=.pointer (some ⟨g_m,0 + 0,none⟩)) (fun w hs => (fa78_0 (.tmp rfl rfl))) ?_
 refine q_yes (yk 33 false rfl rfl hc58) ?_
 refine q_st (v:=.int .i64 ((m_n:Nat):Int)) (fun w hs => (ld3 (.tmp rfl rfl) (hs.cell 2 rfl (0 + 0) rfl))) ?_
 refine q_yes (yk 33 false rfl rfl hc58) ?_
 have hb59:(f.Set / 2 ^ m_n) < 65536:=Nat.lt_of_le_of_lt (Nat.div_le_self _ _) b7
 refine q_st (v:=.int .u16 (((f.Set / 2 ^ m_n):Nat):Int)) (fun w hs => (x_shr (k:=.u16) (m:=f.Set) (b:=((m_n:Nat):Int)) rfl (.tmp rfl rfl) (.tmp rfl rfl) (by omega) (show _ < 2 ^ 16 from b7))) ?_
 refine q_yes (yk 33 false rfl rfl hc58) ?_
 refine q_st (v:=.bool (decide (((((f.Set / 2 ^ m_n):Nat):Int):Int) ≠ 0))) (fun w hs => (x_neq (k:=.u16) (a:=(((f.Set / 2 ^ m_n):Nat):Int)) (b:=0) (.tmp rfl rfl) .const)) ?_
 refine q_st (v:=.bool (decide (((((f.Set / 2 ^ m_n):Nat):Int):Int) ≠ 0))) (fun w hs => (x_pick_f (.tmp rfl (cVb hc58)) (.tmp rfl rfl))) ?_
 exact jq_end ⟨(cVb (jor_f hc58)),hρ54,hρ55,hρ56,True.intro⟩
 rintro ρ ⟨hρ60,hρ61,hρ62,hρ63,_⟩
 refine q_nil ?_
 intro w hs65
 refine n_then ?_
 rcases Bool.eq_false_or_eq_true ((((decide ((f.ID.P:Int) ≠ f.From)) || (!(has f.Set ((m_self:Nat):Int)))) || (!(has f.Set f.From))) || (decide (((((f.Set / 2 ^ m_n):Nat):Int):Int) ≠ 0))) with hc66 | hc66
 have hp66:((((f.ID.P:Int) ≠ f.From) ∨ (¬ ((has f.Set ((m_self:Nat):Int)) = true))) ∨ (¬ ((has f.Set f.From) = true))) ∨ (((((f.Set / 2 ^ m_n):Nat):Int):Int) ≠ 0):=((J_or (J_or (J_or decide_eq_true_iff (J_not Iff.rfl)) (J_not Iff.rfl)) decide_eq_true_iff)).1 hc66
 refine c_cond_t (t:=true) (.tmp rfl (hρ60.trans (cVb hc66))) rfl ?_
 refine c_seq (c_region (st (v:=.slice none 0 0) (x_assign .const) ?_))
 refine st (v:=.pointer none) (x_assign .const) ?_
 refine st (v:=.int .i64 3) (x_assign .const) ?_
 refine c_nil (n_then (c_ret (r_then (leave_ret (res_three (v:=.slice none 0 0) (u:=.pointer none) (x:=.int .i64 3) rfl (.mk rfl rfl) (.mk rfl rfl) (.mk rfl rfl)) ?_))))
 have hpq:(MB.propose (MB.mk m_n m_self m_cur m_prom m_high m_prop m_jl m_os) f sx) = _:=prop_bad hc66
 rw [hpq]
 have hs67:St H _ (row 53 16 (.slice none 0 0) (([]:List GOut).length) []::obj g42 37 [.int .u64 ((sx.V.N:Nat):Int),.int .i64 sx.V.P,.int .i64 sx.Floor,.slice A34 n35 c36]::obj g38 51 [.int .u8 ((f.Kind:Nat):Int),.int .i64 f.From,.int .u64 ((f.ID.N:Nat):Int),.int .i64 f.ID.P,.int .u16 ((f.Set:Nat):Int),.int .u64 ((f.Cur.N:Nat):Int),.int .i64 f.Cur.P,.int .u64 ((f.Prom.N:Nat):Int),.int .i64 f.Prom.P,.slice A14 n15 c16,.int .u64 ((f.Base:Nat):Int),.slice A19 n20 c21,.slice A23 n24 c25,.int .u64 ((f.Ack:Nat):Int),.int .u64 ((f.Safe:Nat):Int)]::obj g_m 78 ((.int .i64 ((m_n:Nat):Int))::(.int .i64 ((m_self:Nat):Int))::(.int .u64 ((m_cur.ID.N:Nat):Int))::(.int .i64 m_cur.ID.P)::(.int .u16 ((m_cur.Set:Nat):Int))::(.int .u64 ((m_prom.N:Nat):Int))::(.int .i64 m_prom.P)::(.int .u64 ((m_high:Nat):Int))::pv_m::(.slice A_m jn_m jc_m)::oCells m_os)::L):=hs65.krowNil 53 kOut
 have okm69:MemB H m_n m_self m_cur m_prom m_high A_m jn_m jc_m m_jl m_os:=⟨hn1_m,hn16_m,hsf_m,⟨ok_m.cur.n,ok_m.cur.p⟩,ok_m.set,⟨ok_m.prom.n,ok_m.prom.p⟩,ok_m.high,ok_m.joined,ok_m.len,ok_m.oth⟩
 exact ⟨H,(.slice none 0 0),[],m_prom,m_high,(Hp.le.refl _),rfl,(RowOk.knil kOut),(Kn.rows_nil _ _),okm69,rfl,((((hs67.p1).drop.p1).drop.p1).p1)⟩
 have hp66:¬ (((((f.ID.P:Int) ≠ f.From) ∨ (¬ ((has f.Set ((m_self:Nat):Int)) = true))) ∨ (¬ ((has f.Set f.From) = true))) ∨ (((((f.Set / 2 ^ m_n):Nat):Int):Int) ≠ 0)):=J_no (J_or (J_or (J_or decide_eq_true_iff (J_not Iff.rfl)) (J_not Iff.rfl)) decide_eq_true_iff) hc66
 refine c_cond_f (t:=false) (.tmp rfl (hρ60.trans (cVb hc66))) rfl ?_
 refine c_skip (n_then (c_seq (c_region (st (v:=.pointer (some ⟨g_m,0,none⟩)) (x_move (.tmp rfl hρ61)) ?_))))
 refine st (v:=.pointer (some ⟨g38,0 + 2,none⟩)) (fa51_2 (.tmp rfl hρ62)) ?_
 refine st (v:=.agg #[.int .u64 ((f.ID.N:Nat):Int),.int .i64 f.ID.P]) (ld34 (cs:=[.int .u64 ((f.ID.N:Nat):Int),.int .i64 f.ID.P]) (.tmp rfl rfl) (hs65.at_ 1 rfl (0 + 2) rfl) rfl) ?_
 have hs70:=hs65.p2
 have okm71:MemB H m_n m_self m_cur m_prom m_high A_m jn_m jc_m m_jl m_os:=⟨hn1_m,hn16_m,hsf_m,⟨ok_m.cur.n,ok_m.cur.p⟩,ok_m.set,⟨ok_m.prom.n,ok_m.prom.p⟩,ok_m.high,ok_m.joined,ok_m.len,ok_m.oth⟩
 have hr72:kViewID.rep H f.ID [.int .u64 ((f.ID.N:Nat):Int),.int .i64 f.ID.P]:=⟨rfl,b4,⟨b5,b6⟩⟩
 refine st_c cb30 .func (evs2 (.tmp rfl rfl) (.tmp rfl rfl)) (hear_X hs70 (m_prop:=m_prop) (m_n:=m_n) (m_self:=m_self) (m_cur:=m_cur) (m_prom:=m_prom) (m_high:=m_high) (m_jl:=m_jl) (m_os:=m_os) okm71 f.ID hr72 ) ?_
 rintro e w73 ⟨rfl,okm75,hs74⟩
 refine ⟨_,rfl,?_⟩
 refine c_nil (n_then (c_seq (c_block (c_seq (q_region mixed hs74 (by kernel_rfl) ?_)))))
 refine q_st (v:=.pointer (some ⟨g38,0 + 2,none⟩)) (fun w hs => (fa51_2 (.tmp rfl hρ62))) ?_
 refine q_st (v:=.agg #[.int .u64 ((f.ID.N:Nat):Int),.int .i64 f.ID.P]) (fun w hs => (ld34 (cs:=[.int .u64 ((f.ID.N:Nat):Int),.int .i64 f.ID.P]) (.tmp rfl rfl) (hs.at_ 2 rfl (0 + 2) rfl) rfl)) ?_
 refine q_st (v:=.pointer (some ⟨g_m,0,none⟩)) (fun w hs => (x_move (.tmp rfl hρ61))) ?_
 refine q_st (v:=.pointer (some ⟨g_m,0,none⟩)) (fun w hs => (x_nilCheck (.tmp rfl rfl))) ?_
 refine q_st (v:=.pointer (some ⟨g_m,0 + 5,none⟩)) (fun w hs => (fa78_3 (.tmp rfl rfl))) ?_
 refine q_st (v:=.agg #[.int .u64 ((m_prom.N:Nat):Int),.int .i64 m_prom.P]) (fun w hs => (ld34 (cs:=[.int .u64 ((m_prom.N:Nat):Int),.int .i64 m_prom.P]) (.tmp rfl rfl) (hs.at_ 0 rfl (0 + 5) rfl) rfl)) ?_
 refine q_c (v:=.bool (decide (0 < cmpV f.ID.N f.ID.P m_prom.N m_prom.P))) cb33 .func (evs2 (.tmp rfl rfl) (.tmp rfl rfl)) (fun w hs => above_spec hs f.ID.N f.ID.P m_prom.N m_prom.P) ?_
 refine q_st (v:=.bool (decide (0 < cmpV f.ID.N f.ID.P m_prom.N m_prom.P))) (fun w hs => (x_assign (.tmp rfl rfl))) ?_
 refine q_nil ?_
 intro w hs76
 refine n_then ?_
 rcases Bool.eq_false_or_eq_true (decide (0 < cmpV f.ID.N f.ID.P m_prom.N m_prom.P)) with hc77 | hc77
 refine c_cond_t (t:=true) (.tmp rfl (cVb hc77)) rfl ?_
 refine c_region (st (v:=.pointer (some ⟨g_m,0,none⟩)) (x_move (.tmp rfl hρ61)) ?_)
 refine st (v:=.pointer (some ⟨g38,0 + 2,none⟩)) (fa51_2 (.tmp rfl hρ62)) ?_
 refine st (v:=.agg #[.int .u64 ((f.ID.N:Nat):Int),.int .i64 f.ID.P]) (ld34 (cs:=[.int .u64 ((f.ID.N:Nat):Int),.int .i64 f.ID.P]) (.tmp rfl rfl) (hs76.at_ 2 rfl (0 + 2) rfl) rfl) ?_
 refine st (v:=.pointer (some ⟨g_m,0,none⟩)) (x_nilCheck (.tmp rfl rfl)) ?_
 refine st (v:=.pointer (some ⟨g_m,0 + 5,none⟩)) (fa78_3 (.tmp rfl rfl)) ?_
 refine st_m0 (sto34 (cs':=((.int .i64 ((m_n:Nat):Int))::(.int .i64 ((m_self:Nat):Int))::(.int .u64 ((m_cur.ID.N:Nat):Int))::(.int .i64 m_cur.ID.P)::(.int .u16 ((m_cur.Set:Nat):Int))::(.int .u64 ((f.ID.N:Nat):Int))::(.int .i64 f.ID.P)::(.int .u64 (((max m_high f.ID.N):Nat):Int))::pv_m::(.slice A_m jn_m jc_m)::oCells m_os)) (i:=0 + 5) hs76 (v:=.agg #[.int .u64 ((f.ID.N:Nat):Int),.int .i64 f.ID.P]) (.tmp rfl rfl) (.tmp rfl rfl) rfl (Nat.le_of_ble_eq_true rfl) (oneA rfl) rfl) ?_
 rintro w78 hs80
 refine c_nil (n_block (n_then (c_seq (t_region (L:=obj g_m 78 ((.int .i64 ((m_n:Nat):Int))::(.int .i64 ((m_self:Nat):Int))::(.int .u64 ((m_cur.ID.N:Nat):Int))::(.int .i64 m_cur.ID.P)::(.int .u16 ((m_cur.Set:Nat):Int))::(.int .u64 ((f.ID.N:Nat):Int))::(.int .i64 f.ID.P)::(.int .u64 (((max m_high f.ID.N):Nat):Int))::pv_m::(.slice A_m jn_m jc_m)::oCells m_os)::obj g42 37 [.int .u64 ((sx.V.N:Nat):Int),.int .i64 sx.V.P,.int .i64 sx.Floor,.slice A34 n35 c36]::obj g38 51 [.int .u8 ((f.Kind:Nat):Int),.int .i64 f.From,.int .u64 ((f.ID.N:Nat):Int),.int .i64 f.ID.P,.int .u16 ((f.Set:Nat):Int),.int .u64 ((f.Cur.N:Nat):Int),.int .i64 f.Cur.P,.int .u64 ((f.Prom.N:Nat):Int),.int .i64 f.Prom.P,.slice A14 n15 c16,.int .u64 ((f.Base:Nat):Int),.slice A19 n20 c21,.slice A23 n24 c25,.int .u64 ((f.Ack:Nat):Int),.int .u64 ((f.Safe:Nat):Int)]::L) (L':=obj g_m 78 ((.int .i64 ((m_n:Nat):Int))::(.int .i64 ((m_self:Nat):Int))::(.int .u64 ((m_cur.ID.N:Nat):Int))::(.int .i64 m_cur.ID.P)::(.int .u16 ((m_cur.Set:Nat):Int))::(.int .u64 ((f.ID.N:Nat):Int))::(.int .i64 f.ID.P)::(.int .u64 (((max m_high f.ID.N):Nat):Int))::pv_m::(.slice A_m jn_m jc_m)::oCells m_os)::obj g42 37 [.int .u64 ((sx.V.N:Nat):Int),.int .i64 sx.V.P,.int .i64 sx.Floor,.slice A34 n35 c36]::obj g38 51 [.int .u8 ((f.Kind:Nat):Int),.int .i64 f.From,.int .u64 ((f.ID.N:Nat):Int),.int .i64 f.ID.P,.int .u16 ((f.Set:Nat):Int),.int .u64 ((f.Cur.N:Nat):Int),.int .i64 f.Cur.P,.int .u64 ((f.Prom.N:Nat):Int),.int .i64 f.Prom.P,.slice A14 n15 c16,.int .u64 ((f.Base:Nat):Int),.slice A19 n20 c21,.slice A23 n24 c25,.int .u64 ((f.Ack:Nat):Int),.int .u64 ((f.Safe:Nat):Int)]::L) (Z:=[12]) (F:=[2,3]) (pl:=(.q 0 (.q 1 (.q 2 (.q 3 (.q 4 (.q 5 (.q 6 (.q 7 (.q 8 (.e 9 (.q 10 (.q 11 (.e 12 (.q 13 (.q 14 (.q 15 .done))))))))))))))))) mixed hs80 (fun u hu => hu) (by kernel_rfl) ?_))))
 intro w81 hs82
 refine t_st (k:=0) (v:=.pointer (some ⟨g38,0 + 1,none⟩)) rfl rfl (fun w hs => (fa51_1 (.tmp rfl hρ62))) ?_
 refine t_st (k:=1) (v:=.int .i64 f.From) rfl rfl (fun w hs => (ld3 (.tmp rfl rfl) (hs.cell 2 rfl (0 + 1) rfl))) ?_
 refine t_fr (k:=2) (v:=.pointer (some ⟨g_m,0,none⟩)) rfl (fun w _ => (x_move (.tmp rfl hρ61))) ?_
 refine t_fr (k:=3) (v:=.pointer (some ⟨g_m,0,none⟩)) rfl (fun w _ => (x_nilCheck (.tmp rfl rfl))) ?_
 refine t_st (k:=4) (v:=.pointer (some ⟨g_m,0 + 1,none⟩)) rfl rfl (fun w hs => (fa78_1 (.tmp rfl rfl))) ?_
 refine t_st (k:=5) (v:=.int .i64 ((m_self:Nat):Int)) rfl rfl (fun w hs => (ld3 (.tmp rfl rfl) (hs.cell 0 rfl (0 + 1) rfl))) ?_
 refine t_st (k:=6) (v:=.pointer (some ⟨g38,0 + 2,none⟩)) rfl rfl (fun w hs => (fa51_2 (.tmp rfl hρ62))) ?_
 refine t_st (k:=7) (v:=.agg #[.int .u64 ((f.ID.N:Nat):Int),.int .i64 f.ID.P]) rfl rfl (fun w hs => (ld34 (cs:=[.int .u64 ((f.ID.N:Nat):Int),.int .i64 f.ID.P]) (.tmp rfl rfl) (hs.at_ 2 rfl (0 + 2) rfl) rfl)) ?_
 refine t_st (k:=8) (v:=.agg #[.int .u64 ((sx.V.N:Nat):Int),.int .i64 sx.V.P,.int .i64 sx.Floor,.slice A34 n35 c36]) rfl rfl (fun w hs => (ld37 (cs:=[.int .u64 ((sx.V.N:Nat):Int),.int .i64 sx.V.P,.int .i64 sx.Floor,.slice A34 n35 c36]) (.tmp rfl hρ63) (hs.at_ 1 rfl (0) rfl) rfl)) ?_
 refine t_eff (k:=9) rfl ?_
 refine st_m (m_lit (n:=1) (ps:=[(0,.agg #[.int .u64 ((sx.V.N:Nat):Int),.int .i64 sx.V.P,.int .i64 sx.Floor,.slice A34 n35 c36])]) (cs:=[.int .u64 ((sx.V.N:Nat):Int),.int .i64 sx.V.P,.int .i64 sx.Floor,.slice A34 n35 c36]) Tryd.underlying40 inf37 (.cons (.tmp rfl rfl) Evp.nil) (by decide) (by decide) rfl rfl hs82) ?_
 rintro _ w84 ⟨g83,rfl,hs86⟩
 refine t_on (S':=fun u => St H u (obj g83 37 [.int .u64 ((sx.V.N:Nat):Int),.int .i64 sx.V.P,.int .i64 sx.Floor,.slice A34 n35 c36]::obj g_m 78 ((.int .i64 ((m_n:Nat):Int))::(.int .i64 ((m_self:Nat):Int))::(.int .u64 ((m_cur.ID.N:Nat):Int))::(.int .i64 m_cur.ID.P)::(.int .u16 ((m_cur.Set:Nat):Int))::(.int .u64 ((f.ID.N:Nat):Int))::(.int .i64 f.ID.P)::(.int .u64 (((max m_high f.ID.N):Nat):Int))::pv_m::(.slice A_m jn_m jc_m)::oCells m_os)::obj g42 37 [.int .u64 ((sx.V.N:Nat):Int),.int .i64 sx.V.P,.int .i64 sx.Floor,.slice A34 n35 c36]::obj g38 51 [.int .u8 ((f.Kind:Nat):Int),.int .i64 f.From,.int .u64 ((f.ID.N:Nat):Int),.int .i64 f.ID.P,.int .u16 ((f.Set:Nat):Int),.int .u64 ((f.Cur.N:Nat):Int),.int .i64 f.Cur.P,.int .u64 ((f.Prom.N:Nat):Int),.int .i64 f.Prom.P,.slice A14 n15 c16,.int .u64 ((f.Base:Nat):Int),.slice A19 n20 c21,.slice A23 n24 c25,.int .u64 ((f.Ack:Nat):Int),.int .u64 ((f.Safe:Nat):Int)]::L)) (fun u hu => hu.drop) hs86 ?_
 refine t_st (k:=10) (v:=.agg #[.int .u8 3,.int .i64 ((m_self:Nat):Int),.int .u64 ((f.ID.N:Nat):Int),.int .i64 f.ID.P,.int .u16 0,.int .u64 0,.int .i64 0,.int .u64 0,.int .i64 0,.slice (some ⟨g83,0,none⟩) 1 1,.int .u64 0,.slice none 0 0,.slice none 0 0,.int .u64 0,.int .u64 0]) rfl rfl (fun w hs => (bl51 (ps:=[(0,.int .u8 3),(1,.int .i64 ((m_self:Nat):Int)),(2,.agg #[.int .u64 ((f.ID.N:Nat):Int),.int .i64 f.ID.P]),(6,.slice (some ⟨g83,0,none⟩) 1 1)]) (.cons .const (.cons (.tmp rfl rfl) (.cons (.tmp rfl rfl) (.cons (.tmp rfl rfl) Evp.nil)))) rfl)) ?_
 refine t_st (k:=11) (v:=.agg #[.int .i64 f.From,.int .u8 3,.int .i64 ((m_self:Nat):Int),.int .u64 ((f.ID.N:Nat):Int),.int .i64 f.ID.P,.int .u16 0,.int .u64 0,.int .i64 0,.int .u64 0,.int .i64 0,.slice (some ⟨g83,0,none⟩) 1 1,.int .u64 0,.slice none 0 0,.slice none 0 0,.int .u64 0,.int .u64 0]) rfl rfl (fun w hs => (bl53 (ps:=[(0,.int .i64 f.From),(1,.agg #[.int .u8 3,.int .i64 ((m_self:Nat):Int),.int .u64 ((f.ID.N:Nat):Int),.int .i64 f.ID.P,.int .u16 0,.int .u64 0,.int .i64 0,.int .u64 0,.int .i64 0,.slice (some ⟨g83,0,none⟩) 1 1,.int .u64 0,.slice none 0 0,.slice none 0 0,.int .u64 0,.int .u64 0])]) (.cons (.tmp rfl rfl) (.cons (.tmp rfl rfl) Evp.nil)) rfl)) ?_
 refine t_eff (k:=12) rfl ?_
 have hr92:kState.rep H sx [.int .u64 ((sx.V.N:Nat):Int),.int .i64 sx.V.P,.int .i64 sx.Floor,.slice A34 n35 c36]:=⟨A34,n35,c36,rfl,b29,⟨b30,b31⟩,⟨b32,b33⟩,hl37⟩
 have hk93:kState.toKn.rows H [sx] [.int .u64 ((sx.V.N:Nat):Int),.int .i64 sx.V.P,.int .i64 sx.Floor,.slice A34 n35 c36]:=Kn.rows_one hr92
 obtain ⟨H87,hle88,hs89,rd90,hb91⟩:=hs86.freezeObj
 have sp94:Sl kState H87 ((some ⟨g83,0,none⟩)) 1 1 [sx]:=⟨⟨_,rd90,Kn.rows_mono hk93 hle88⟩,rfl,Nat.le_refl _,by decide,by decide⟩
 refine st_m (m_lit (n:=1) (ps:=[(0,.agg #[.int .i64 f.From,.int .u8 3,.int .i64 ((m_self:Nat):Int),.int .u64 ((f.ID.N:Nat):Int),.int .i64 f.ID.P,.int .u16 0,.int .u64 0,.int .i64 0,.int .u64 0,.int .i64 0,.slice (some ⟨g83,0,none⟩) 1 1,.int .u64 0,.slice none 0 0,.slice none 0 0,.int .u64 0,.int .u64 0])]) (cs:=[.int .i64 f.From,.int .u8 3,.int .i64 ((m_self:Nat):Int),.int .u64 ((f.ID.N:Nat):Int),.int .i64 f.ID.P,.int .u16 0,.int .u64 0,.int .i64 0,.int .u64 0,.int .i64 0,.slice (some ⟨g83,0,none⟩) 1 1,.int .u64 0,.slice none 0 0,.slice none 0 0,.int .u64 0,.int .u64 0]) Tryd.underlying27 inf53 (.cons (.tmp rfl rfl) Evp.nil) (by decide) (by decide) rfl rfl hs89) ?_
 rintro _ w96 ⟨g95,rfl,hs98⟩
 refine t_new (S':=fun u => St H87 u (obj g95 53 [.int .i64 f.From,.int .u8 3,.int .i64 ((m_self:Nat):Int),.int .u64 ((f.ID.N:Nat):Int),.int .i64 f.ID.P,.int .u16 0,.int .u64 0,.int .i64 0,.int .u64 0,.int .i64 0,.slice (some ⟨g83,0,none⟩) 1 1,.int .u64 0,.slice none 0 0,.slice none 0 0,.int .u64 0,.int .u64 0]::obj g_m 78 ((.int .i64 ((m_n:Nat):Int))::(.int .i64 ((m_self:Nat):Int))::(.int .u64 ((m_cur.ID.N:Nat):Int))::(.int .i64 m_cur.ID.P)::(.int .u16 ((m_cur.Set:Nat):Int))::(.int .u64 ((f.ID.N:Nat):Int))::(.int .i64 f.ID.P)::(.int .u64 (((max m_high f.ID.N):Nat):Int))::pv_m::(.slice A_m jn_m jc_m)::oCells m_os)::obj g42 37 [.int .u64 ((sx.V.N:Nat):Int),.int .i64 sx.V.P,.int .i64 sx.Floor,.slice A34 n35 c36]::obj g38 51 [.int .u8 ((f.Kind:Nat):Int),.int .i64 f.From,.int .u64 ((f.ID.N:Nat):Int),.int .i64 f.ID.P,.int .u16 ((f.Set:Nat):Int),.int .u64 ((f.Cur.N:Nat):Int),.int .i64 f.Cur.P,.int .u64 ((f.Prom.N:Nat):Int),.int .i64 f.Prom.P,.slice A14 n15 c16,.int .u64 ((f.Base:Nat):Int),.slice A19 n20 c21,.slice A23 n24 c25,.int .u64 ((f.Ack:Nat):Int),.int .u64 ((f.Safe:Nat):Int)]::L)) rfl hs98 ?_
 refine t_st (k:=13) (v:=.slice (some ⟨g95,0,none⟩) 1 1) rfl rfl (fun w hs => (x_assign (.tmp rfl rfl))) ?_
 refine t_st (k:=14) (v:=.pointer none) rfl rfl (fun w hs => (x_assign .const)) ?_
 refine t_st (k:=15) (v:=.int .i64 0) rfl rfl (fun w hs => (x_assign .const)) ?_
 refine t_nil ?_
 refine n_then (c_ret (leave_ret (res_three (v:=.slice (some ⟨g95,0,none⟩) 1 1) (u:=.pointer none) (x:=.int .i64 0) rfl (.mk rfl rfl) (.mk rfl rfl) (.mk rfl rfl)) ?_))
 have hr103:kOut.rep H87 (GOut.mk f.From (GFrame.mk 3 ((m_self:Nat):Int) f.ID 0 (GViewID.mk 0 0) (GViewID.mk 0 0) [sx] 0 [] [] 0 0)) [.int .i64 f.From,.int .u8 3,.int .i64 ((m_self:Nat):Int),.int .u64 ((f.ID.N:Nat):Int),.int .i64 f.ID.P,.int .u16 0,.int .u64 0,.int .i64 0,.int .u64 0,.int .i64 0,.slice (some ⟨g83,0,none⟩) 1 1,.int .u64 0,.slice none 0 0,.slice none 0 0,.int .u64 0,.int .u64 0]:=⟨(some ⟨g83,0,none⟩),1,1,none,0,0,none,0,0,rfl,⟨b2,b3⟩,(show 3 < 256 from by omega),(show IB ((m_self:Nat):Int) from ⟨by omega,by omega⟩),b4,⟨b5,b6⟩,(show 0 < 65536 from by omega),(show 0 < 18446744073709551616 from by omega),(show IB 0 from ⟨by omega,by omega⟩),(show 0 < 18446744073709551616 from by omega),(show IB 0 from ⟨by omega,by omega⟩),sp94,(show 0 < 18446744073709551616 from by omega),(Sl.nil _ _ none),(Sl.nil _ _ none),(show 0 < 18446744073709551616 from by omega),(show 0 < 18446744073709551616 from by omega)⟩
 obtain ⟨hs100,ok101⟩:=hs98.rowOfObj (n:=1) (size:=kOut.sz) rfl (by decide)
 have hk102:kOut.toKn.rows H87 [(GOut.mk f.From (GFrame.mk 3 ((m_self:Nat):Int) f.ID 0 (GViewID.mk 0 0) (GViewID.mk 0 0) [sx] 0 [] [] 0 0))] [.int .i64 f.From,.int .u8 3,.int .i64 ((m_self:Nat):Int),.int .u64 ((f.ID.N:Nat):Int),.int .i64 f.ID.P,.int .u16 0,.int .u64 0,.int .i64 0,.int .u64 0,.int .i64 0,.slice (some ⟨g83,0,none⟩) 1 1,.int .u64 0,.slice none 0 0,.slice none 0 0,.int .u64 0,.int .u64 0]:=Kn.rows_one hr103
 have:([(GOut.mk f.From (GFrame.mk 3 ((m_self:Nat):Int) f.ID 0 (GViewID.mk 0 0) (GViewID.mk 0 0) [sx] 0 [] [] 0 0))]:List GOut).length = 1:=rfl
 have hs104:St H87 _ (row 53 16 (.slice (some ⟨g95,0,none⟩) 1 1) (([(GOut.mk f.From (GFrame.mk 3 ((m_self:Nat):Int) f.ID 0 (GViewID.mk 0 0) (GViewID.mk 0 0) [sx] 0 [] [] 0 0))]:List GOut).length) [.int .i64 f.From,.int .u8 3,.int .i64 ((m_self:Nat):Int),.int .u64 ((f.ID.N:Nat):Int),.int .i64 f.ID.P,.int .u16 0,.int .u64 0,.int .i64 0,.int .u64 0,.int .i64 0,.slice (some ⟨g83,0,none⟩) 1 1,.int .u64 0,.slice none 0 0,.slice none 0 0,.int .u64 0,.int .u64 0]::obj g_m 78 ((.int .i64 ((m_n:Nat):Int))::(.int .i64 ((m_self:Nat):Int))::(.int .u64 ((m_cur.ID.N:Nat):Int))::(.int .i64 m_cur.ID.P)::(.int .u16 ((m_cur.Set:Nat):Int))::(.int .u64 ((f.ID.N:Nat):Int))::(.int .i64 f.ID.P)::(.int .u64 (((max m_high f.ID.N):Nat):Int))::pv_m::(.slice A_m jn_m jc_m)::oCells m_os)::obj g42 37 [.int .u64 ((sx.V.N:Nat):Int),.int .i64 sx.V.P,.int .i64 sx.Floor,.slice A34 n35 c36]::obj g38 51 [.int .u8 ((f.Kind:Nat):Int),.int .i64 f.From,.int .u64 ((f.ID.N:Nat):Int),.int .i64 f.ID.P,.int .u16 ((f.Set:Nat):Int),.int .u64 ((f.Cur.N:Nat):Int),.int .i64 f.Cur.P,.int .u64 ((f.Prom.N:Nat):Int),.int .i64 f.Prom.P,.slice A14 n15 c16,.int .u64 ((f.Base:Nat):Int),.slice A19 n20 c21,.slice A23 n24 c25,.int .u64 ((f.Ack:Nat):Int),.int .u64 ((f.Safe:Nat):Int)]::L):=hs100
 have hpq:(MB.propose (MB.mk m_n m_self m_cur m_prom m_high m_prop m_jl m_os) f sx) = _:=prop_above hc66 hc77
 rw [hpq]
 have okm105:MemB H87 m_n m_self m_cur f.ID (max m_high f.ID.N) A_m jn_m jc_m m_jl m_os:=⟨hn1_m,hn16_m,hsf_m,⟨okm75.cur.n,okm75.cur.p⟩,okm75.set,⟨b4,⟨b5,b6⟩⟩,okm75.high,(okm75.joined.mono hle88),okm75.len,okm75.oth⟩
 exact ⟨H87,(.slice (some ⟨g95,0,none⟩) 1 1),[.int .i64 f.From,.int .u8 3,.int .i64 ((m_self:Nat):Int),.int .u64 ((f.ID.N:Nat):Int),.int .i64 f.ID.P,.int .u16 0,.int .u64 0,.int .i64 0,.int .u64 0,.int .i64 0,.slice (some ⟨g83,0,none⟩) 1 1,.int .u64 0,.slice none 0 0,.slice none 0 0,.int .u64 0,.int .u64 0],f.ID,(max m_high f.ID.N),hle88,rfl,ok101,hk102,okm105,rfl,((((hs104.p2).drop.p2).drop.p1).p1)⟩
 refine c_cond_f (t:=false) (.tmp rfl (cVb hc77)) rfl ?_
 refine c_seq (q_region mixed hs76 (by kernel_rfl) ?_)
 refine q_st (v:=.pointer (some ⟨g38,0 + 2,none⟩)) (fun w hs => (fa51_2 (.tmp rfl hρ62))) ?_
 refine q_st (v:=.agg #[.int .u64 ((f.ID.N:Nat):Int),.int .i64 f.ID.P]) (fun w hs => (ld34 (cs:=[.int .u64 ((f.ID.N:Nat):Int),.int .i64 f.ID.P]) (.tmp rfl rfl) (hs.at_ 2 rfl (0 + 2) rfl) rfl)) ?_
 refine q_st (v:=.pointer (some ⟨g_m,0,none⟩)) (fun w hs => (x_move (.tmp rfl hρ61))) ?_
 refine q_st (v:=.pointer (some ⟨g_m,0,none⟩)) (fun w hs => (x_nilCheck (.tmp rfl rfl))) ?_
 refine q_st (v:=.pointer (some ⟨g_m,0 + 5,none⟩)) (fun w hs => (fa78_3 (.tmp rfl rfl))) ?_
 refine q_st (v:=.agg #[.int .u64 ((m_prom.N:Nat):Int),.int .i64 m_prom.P]) (fun w hs => (ld34 (cs:=[.int .u64 ((m_prom.N:Nat):Int),.int .i64 m_prom.P]) (.tmp rfl rfl) (hs.at_ 0 rfl (0 + 5) rfl) rfl)) ?_
 refine q_st (v:=.bool (!((((f.ID.N:Nat):Int) == ((m_prom.N:Nat):Int)) && ((f.ID.P == m_prom.P) && true)))) (fun w hs => (x_neqA eqg34 (.tmp rfl rfl) (.tmp rfl rfl) (fun d => eqs34 (d + 98) _ ((f.ID.N:Nat):Int) ((m_prom.N:Nat):Int) f.ID.P m_prom.P))) ?_
 refine q_st (v:=.bool (!(decide (f.ID = m_prom)))) (fun w hs => (x_move (.tmp rfl (congrArg (fun z => Value.bool (!z)) (GViewID.beq_dec f.ID m_prom))))) ?_
 refine jq 9 (fun ρ => ρ 77 = .bool ((!(decide (f.ID = m_prom))) || (decide (m_cur.ID = f.ID)))∧ρ 0 = .pointer (some ⟨g_m,0,none⟩)∧ρ 4 = .pointer (some ⟨g38,0,none⟩)∧ρ 5 = .pointer (some ⟨g42,0,none⟩)∧True) ?_ ?_
 rcases Bool.eq_false_or_eq_true (decide (f.ID = m_prom)) with hc106 | hc106
 have hp106:f.ID = m_prom:=of_decide_eq_true hc106
 refine q_yes (yl (dj:=68) (b:=false) rfl rfl (cVb (by rw [hc106]; rfl))) ?_
 refine q_st (v:=.pointer (some ⟨g_m,0,none⟩)) (fun w hs => (x_move (.tmp rfl hρ61))) ?_
 refine q_yes (yl (dj:=68) (b:=false) rfl rfl (cVb (by rw [hc106]; rfl))) ?_
 refine q_st (v:=.pointer (some ⟨g_m,0,none⟩)) (fun w hs => (x_nilCheck (.tmp rfl rfl))) ?_
 refine q_yes (yl (dj:=68) (b:=false) rfl rfl (cVb (by rw [hc106]; rfl))) ?_
 refine q_st (v:=.pointer (some ⟨g_m,0 + 2,none⟩)) (fun w hs => (fa78_2 (.tmp rfl rfl))) ?_
 refine q_yes (yl (dj:=68) (b:=false) rfl rfl (cVb (by rw [hc106]; rfl))) ?_
 refine q_st (v:=.pointer (some ⟨g_m,0 + 2 + 0,none⟩)) (fun w hs => (fa39_0 (.tmp rfl rfl))) ?_
 refine q_yes (yl (dj:=68) (b:=false) rfl rfl (cVb (by rw [hc106]; rfl))) ?_
 refine q_st (v:=.agg #[.int .u64 ((m_cur.ID.N:Nat):Int),.int .i64 m_cur.ID.P]) (fun w hs => (ld34 (cs:=[.int .u64 ((m_cur.ID.N:Nat):Int),.int .i64 m_cur.ID.P]) (.tmp rfl rfl) (hs.at_ 0 rfl (0 + 2 + 0) rfl) rfl)) ?_
 refine q_yes (yl (dj:=68) (b:=false) rfl rfl (cVb (by rw [hc106]; rfl))) ?_
 refine q_st (v:=.pointer (some ⟨g38,0 + 2,none⟩)) (fun w hs => (fa51_2 (.tmp rfl hρ62))) ?_
 refine q_yes (yl (dj:=68) (b:=false) rfl rfl (cVb (by rw [hc106]; rfl))) ?_
 refine q_st (v:=.agg #[.int .u64 ((f.ID.N:Nat):Int),.int .i64 f.ID.P]) (fun w hs => (ld34 (cs:=[.int .u64 ((f.ID.N:Nat):Int),.int .i64 f.ID.P]) (.tmp rfl rfl) (hs.at_ 2 rfl (0 + 2) rfl) rfl)) ?_
 refine q_yes (yl (dj:=68) (b:=false) rfl rfl (cVb (by rw [hc106]; rfl))) ?_
 refine q_st (v:=.bool ((((m_cur.ID.N:Nat):Int) == ((f.ID.N:Nat):Int)) && ((m_cur.ID.P == f.ID.P) && true))) (fun w hs => (x_eqlA eqg34 (.tmp rfl rfl) (.tmp rfl rfl) (fun d => eqs34 (d + 98) _ ((m_cur.ID.N:Nat):Int) ((f.ID.N:Nat):Int) m_cur.ID.P f.ID.P))) ?_
 refine q_st (v:=.bool (decide (m_cur.ID = f.ID))) (fun w hs => (x_pick_f (.tmp rfl (cVb (by rw [hc106]; rfl))) (.tmp rfl (cVb (GViewID.beq_dec m_cur.ID f.ID))))) ?_
 exact jq_end ⟨(cVb (jor_f (by rw [hc106]; rfl))),hρ61,hρ62,hρ63,True.intro⟩
 have hp106:¬ (f.ID = m_prom):=of_decide_eq_false hc106
 refine q_no (yl (dj:=68) (b:=true) rfl rfl (cVb (by rw [hc106]; rfl))) rfl ?_
 refine q_no (yl (dj:=68) (b:=true) rfl rfl (cVb (by rw [hc106]; rfl))) rfl ?_
 refine q_no (yl (dj:=68) (b:=true) rfl rfl (cVb (by rw [hc106]; rfl))) rfl ?_
 refine q_no (yl (dj:=68) (b:=true) rfl rfl (cVb (by rw [hc106]; rfl))) rfl ?_
 refine q_no (yl (dj:=68) (b:=true) rfl rfl (cVb (by rw [hc106]; rfl))) rfl ?_
 refine q_no (yl (dj:=68) (b:=true) rfl rfl (cVb (by rw [hc106]; rfl))) rfl ?_
 refine q_no (yl (dj:=68) (b:=true) rfl rfl (cVb (by rw [hc106]; rfl))) rfl ?_
 refine q_no (yl (dj:=68) (b:=true) rfl rfl (cVb (by rw [hc106]; rfl))) rfl ?_
 refine q_st (v:=.bool true) (fun w hs => (x_pick_t (.tmp rfl (cVb (by rw [hc106]; rfl))) .const)) ?_
 exact jq_end ⟨(cVb (jor_t (by rw [hc106]; rfl))),hρ61,hρ62,hρ63,True.intro⟩
 rintro ρ ⟨hρ107,hρ108,hρ109,hρ110,_⟩
 refine q_st (v:=.bool ((!(decide (f.ID = m_prom))) || (decide (m_cur.ID = f.ID)))) (fun w hs => (x_assign (.tmp rfl hρ107))) ?_
 refine q_nil ?_
 intro w hs112
 refine n_then ?_
 rcases Bool.eq_false_or_eq_true ((!(decide (f.ID = m_prom))) || (decide (m_cur.ID = f.ID))) with hc113 | hc113
 have hp113:(¬ (f.ID = m_prom)) ∨ (m_cur.ID = f.ID):=((J_or (J_not decide_eq_true_iff) decide_eq_true_iff)).1 hc113
 refine c_cond_t (t:=true) (.tmp rfl (cVb hc113)) rfl ?_
 refine c_seq (t_region (L:=obj g_m 78 ((.int .i64 ((m_n:Nat):Int))::(.int .i64 ((m_self:Nat):Int))::(.int .u64 ((m_cur.ID.N:Nat):Int))::(.int .i64 m_cur.ID.P)::(.int .u16 ((m_cur.Set:Nat):Int))::(.int .u64 ((m_prom.N:Nat):Int))::(.int .i64 m_prom.P)::(.int .u64 (((max m_high f.ID.N):Nat):Int))::pv_m::(.slice A_m jn_m jc_m)::oCells m_os)::obj g42 37 [.int .u64 ((sx.V.N:Nat):Int),.int .i64 sx.V.P,.int .i64 sx.Floor,.slice A34 n35 c36]::obj g38 51 [.int .u8 ((f.Kind:Nat):Int),.int .i64 f.From,.int .u64 ((f.ID.N:Nat):Int),.int .i64 f.ID.P,.int .u16 ((f.Set:Nat):Int),.int .u64 ((f.Cur.N:Nat):Int),.int .i64 f.Cur.P,.int .u64 ((f.Prom.N:Nat):Int),.int .i64 f.Prom.P,.slice A14 n15 c16,.int .u64 ((f.Base:Nat):Int),.slice A19 n20 c21,.slice A23 n24 c25,.int .u64 ((f.Ack:Nat):Int),.int .u64 ((f.Safe:Nat):Int)]::L) (L':=obj g_m 78 ((.int .i64 ((m_n:Nat):Int))::(.int .i64 ((m_self:Nat):Int))::(.int .u64 ((m_cur.ID.N:Nat):Int))::(.int .i64 m_cur.ID.P)::(.int .u16 ((m_cur.Set:Nat):Int))::(.int .u64 ((m_prom.N:Nat):Int))::(.int .i64 m_prom.P)::(.int .u64 (((max m_high f.ID.N):Nat):Int))::pv_m::(.slice A_m jn_m jc_m)::oCells m_os)::obj g42 37 [.int .u64 ((sx.V.N:Nat):Int),.int .i64 sx.V.P,.int .i64 sx.Floor,.slice A34 n35 c36]::obj g38 51 [.int .u8 ((f.Kind:Nat):Int),.int .i64 f.From,.int .u64 ((f.ID.N:Nat):Int),.int .i64 f.ID.P,.int .u16 ((f.Set:Nat):Int),.int .u64 ((f.Cur.N:Nat):Int),.int .i64 f.Cur.P,.int .u64 ((f.Prom.N:Nat):Int),.int .i64 f.Prom.P,.slice A14 n15 c16,.int .u64 ((f.Base:Nat):Int),.slice A19 n20 c21,.slice A23 n24 c25,.int .u64 ((f.Ack:Nat):Int),.int .u64 ((f.Safe:Nat):Int)]::L) (Z:=[14]) (F:=[2,3,8,9]) (pl:=(.q 0 (.q 1 (.q 2 (.q 3 (.q 4 (.q 5 (.q 6 (.q 7 (.q 8 (.q 9 (.q 10 (.q 11 (.q 12 (.q 13 (.e 14 (.q 15 (.q 16 (.q 17 .done))))))))))))))))))) mixed hs112 (fun u hu => hu) (by kernel_rfl) ?_)
 intro w114 hs115
 refine t_st (k:=0) (v:=.pointer (some ⟨g38,0 + 1,none⟩)) rfl rfl (fun w hs => (fa51_1 (.tmp rfl hρ109))) ?_
 refine t_st (k:=1) (v:=.int .i64 f.From) rfl rfl (fun w hs => (ld3 (.tmp rfl rfl) (hs.cell 2 rfl (0 + 1) rfl))) ?_
 refine t_fr (k:=2) (v:=.pointer (some ⟨g_m,0,none⟩)) rfl (fun w _ => (x_move (.tmp rfl hρ108))) ?_
 refine t_fr (k:=3) (v:=.pointer (some ⟨g_m,0,none⟩)) rfl (fun w _ => (x_nilCheck (.tmp rfl rfl))) ?_
 refine t_st (k:=4) (v:=.pointer (some ⟨g_m,0 + 1,none⟩)) rfl rfl (fun w hs => (fa78_1 (.tmp rfl rfl))) ?_
 refine t_st (k:=5) (v:=.int .i64 ((m_self:Nat):Int)) rfl rfl (fun w hs => (ld3 (.tmp rfl rfl) (hs.cell 0 rfl (0 + 1) rfl))) ?_
 refine t_st (k:=6) (v:=.pointer (some ⟨g38,0 + 2,none⟩)) rfl rfl (fun w hs => (fa51_2 (.tmp rfl hρ109))) ?_
 refine t_st (k:=7) (v:=.agg #[.int .u64 ((f.ID.N:Nat):Int),.int .i64 f.ID.P]) rfl rfl (fun w hs => (ld34 (cs:=[.int .u64 ((f.ID.N:Nat):Int),.int .i64 f.ID.P]) (.tmp rfl rfl) (hs.at_ 2 rfl (0 + 2) rfl) rfl)) ?_
 refine t_fr (k:=8) (v:=.pointer (some ⟨g_m,0,none⟩)) rfl (fun w _ => (x_move (.tmp rfl hρ108))) ?_
 refine t_fr (k:=9) (v:=.pointer (some ⟨g_m,0,none⟩)) rfl (fun w _ => (x_nilCheck (.tmp rfl rfl))) ?_
 refine t_st (k:=10) (v:=.pointer (some ⟨g_m,0 + 5,none⟩)) rfl rfl (fun w hs => (fa78_3 (.tmp rfl rfl))) ?_
 refine t_st (k:=11) (v:=.agg #[.int .u64 ((m_prom.N:Nat):Int),.int .i64 m_prom.P]) rfl rfl (fun w hs => (ld34 (cs:=[.int .u64 ((m_prom.N:Nat):Int),.int .i64 m_prom.P]) (.tmp rfl rfl) (hs.at_ 0 rfl (0 + 5) rfl) rfl)) ?_
 refine t_st (k:=12) (v:=.agg #[.int .u8 4,.int .i64 ((m_self:Nat):Int),.int .u64 ((f.ID.N:Nat):Int),.int .i64 f.ID.P,.int .u16 0,.int .u64 0,.int .i64 0,.int .u64 ((m_prom.N:Nat):Int),.int .i64 m_prom.P,.slice none 0 0,.int .u64 0,.slice none 0 0,.slice none 0 0,.int .u64 0,.int .u64 0]) rfl rfl (fun w hs => (bl51 (ps:=[(0,.int .u8 4),(1,.int .i64 ((m_self:Nat):Int)),(2,.agg #[.int .u64 ((f.ID.N:Nat):Int),.int .i64 f.ID.P]),(5,.agg #[.int .u64 ((m_prom.N:Nat):Int),.int .i64 m_prom.P])]) (.cons .const (.cons (.tmp rfl rfl) (.cons (.tmp rfl rfl) (.cons (.tmp rfl rfl) Evp.nil)))) rfl)) ?_
 refine t_st (k:=13) (v:=.agg #[.int .i64 f.From,.int .u8 4,.int .i64 ((m_self:Nat):Int),.int .u64 ((f.ID.N:Nat):Int),.int .i64 f.ID.P,.int .u16 0,.int .u64 0,.int .i64 0,.int .u64 ((m_prom.N:Nat):Int),.int .i64 m_prom.P,.slice none 0 0,.int .u64 0,.slice none 0 0,.slice none 0 0,.int .u64 0,.int .u64 0]) rfl rfl (fun w hs => (bl53 (ps:=[(0,.int .i64 f.From),(1,.agg #[.int .u8 4,.int .i64 ((m_self:Nat):Int),.int .u64 ((f.ID.N:Nat):Int),.int .i64 f.ID.P,.int .u16 0,.int .u64 0,.int .i64 0,.int .u64 ((m_prom.N:Nat):Int),.int .i64 m_prom.P,.slice none 0 0,.int .u64 0,.slice none 0 0,.slice none 0 0,.int .u64 0,.int .u64 0])]) (.cons (.tmp rfl rfl) (.cons (.tmp rfl rfl) Evp.nil)) rfl)) ?_
 refine t_eff (k:=14) rfl ?_
 refine st_m (m_lit (n:=1) (ps:=[(0,.agg #[.int .i64 f.From,.int .u8 4,.int .i64 ((m_self:Nat):Int),.int .u64 ((f.ID.N:Nat):Int),.int .i64 f.ID.P,.int .u16 0,.int .u64 0,.int .i64 0,.int .u64 ((m_prom.N:Nat):Int),.int .i64 m_prom.P,.slice none 0 0,.int .u64 0,.slice none 0 0,.slice none 0 0,.int .u64 0,.int .u64 0])]) (cs:=[.int .i64 f.From,.int .u8 4,.int .i64 ((m_self:Nat):Int),.int .u64 ((f.ID.N:Nat):Int),.int .i64 f.ID.P,.int .u16 0,.int .u64 0,.int .i64 0,.int .u64 ((m_prom.N:Nat):Int),.int .i64 m_prom.P,.slice none 0 0,.int .u64 0,.slice none 0 0,.slice none 0 0,.int .u64 0,.int .u64 0]) Tryd.underlying27 inf53 (.cons (.tmp rfl rfl) Evp.nil) (by decide) (by decide) rfl rfl hs115) ?_
 rintro _ w117 ⟨g116,rfl,hs119⟩
 refine t_new (S':=fun u => St H u (obj g116 53 [.int .i64 f.From,.int .u8 4,.int .i64 ((m_self:Nat):Int),.int .u64 ((f.ID.N:Nat):Int),.int .i64 f.ID.P,.int .u16 0,.int .u64 0,.int .i64 0,.int .u64 ((m_prom.N:Nat):Int),.int .i64 m_prom.P,.slice none 0 0,.int .u64 0,.slice none 0 0,.slice none 0 0,.int .u64 0,.int .u64 0]::obj g_m 78 ((.int .i64 ((m_n:Nat):Int))::(.int .i64 ((m_self:Nat):Int))::(.int .u64 ((m_cur.ID.N:Nat):Int))::(.int .i64 m_cur.ID.P)::(.int .u16 ((m_cur.Set:Nat):Int))::(.int .u64 ((m_prom.N:Nat):Int))::(.int .i64 m_prom.P)::(.int .u64 (((max m_high f.ID.N):Nat):Int))::pv_m::(.slice A_m jn_m jc_m)::oCells m_os)::obj g42 37 [.int .u64 ((sx.V.N:Nat):Int),.int .i64 sx.V.P,.int .i64 sx.Floor,.slice A34 n35 c36]::obj g38 51 [.int .u8 ((f.Kind:Nat):Int),.int .i64 f.From,.int .u64 ((f.ID.N:Nat):Int),.int .i64 f.ID.P,.int .u16 ((f.Set:Nat):Int),.int .u64 ((f.Cur.N:Nat):Int),.int .i64 f.Cur.P,.int .u64 ((f.Prom.N:Nat):Int),.int .i64 f.Prom.P,.slice A14 n15 c16,.int .u64 ((f.Base:Nat):Int),.slice A19 n20 c21,.slice A23 n24 c25,.int .u64 ((f.Ack:Nat):Int),.int .u64 ((f.Safe:Nat):Int)]::L)) rfl hs119 ?_
 refine t_st (k:=15) (v:=.slice (some ⟨g116,0,none⟩) 1 1) rfl rfl (fun w hs => (x_assign (.tmp rfl rfl))) ?_
 refine t_st (k:=16) (v:=.pointer none) rfl rfl (fun w hs => (x_assign .const)) ?_
 refine t_st (k:=17) (v:=.int .i64 9) rfl rfl (fun w hs => (x_assign .const)) ?_
 refine t_nil ?_
 refine n_then (c_ret (r_block (r_then (leave_ret (res_three (v:=.slice (some ⟨g116,0,none⟩) 1 1) (u:=.pointer none) (x:=.int .i64 9) rfl (.mk rfl rfl) (.mk rfl rfl) (.mk rfl rfl)) ?_))))
 have hr124:kOut.rep H (GOut.mk f.From (GFrame.mk 4 ((m_self:Nat):Int) f.ID 0 (GViewID.mk 0 0) m_prom [] 0 [] [] 0 0)) [.int .i64 f.From,.int .u8 4,.int .i64 ((m_self:Nat):Int),.int .u64 ((f.ID.N:Nat):Int),.int .i64 f.ID.P,.int .u16 0,.int .u64 0,.int .i64 0,.int .u64 ((m_prom.N:Nat):Int),.int .i64 m_prom.P,.slice none 0 0,.int .u64 0,.slice none 0 0,.slice none 0 0,.int .u64 0,.int .u64 0]:=⟨none,0,0,none,0,0,none,0,0,rfl,⟨b2,b3⟩,(show 4 < 256 from by omega),(show IB ((m_self:Nat):Int) from ⟨by omega,by omega⟩),b4,⟨b5,b6⟩,(show 0 < 65536 from by omega),(show 0 < 18446744073709551616 from by omega),(show IB 0 from ⟨by omega,by omega⟩),okm75.prom.n,okm75.prom.p,(Sl.nil _ _ none),(show 0 < 18446744073709551616 from by omega),(Sl.nil _ _ none),(Sl.nil _ _ none),(show 0 < 18446744073709551616 from by omega),(show 0 < 18446744073709551616 from by omega)⟩
 obtain ⟨hs121,ok122⟩:=hs119.rowOfObj (n:=1) (size:=kOut.sz) rfl (by decide)
 have hk123:kOut.toKn.rows H [(GOut.mk f.From (GFrame.mk 4 ((m_self:Nat):Int) f.ID 0 (GViewID.mk 0 0) m_prom [] 0 [] [] 0 0))] [.int .i64 f.From,.int .u8 4,.int .i64 ((m_self:Nat):Int),.int .u64 ((f.ID.N:Nat):Int),.int .i64 f.ID.P,.int .u16 0,.int .u64 0,.int .i64 0,.int .u64 ((m_prom.N:Nat):Int),.int .i64 m_prom.P,.slice none 0 0,.int .u64 0,.slice none 0 0,.slice none 0 0,.int .u64 0,.int .u64 0]:=Kn.rows_one hr124
 have:([(GOut.mk f.From (GFrame.mk 4 ((m_self:Nat):Int) f.ID 0 (GViewID.mk 0 0) m_prom [] 0 [] [] 0 0))]:List GOut).length = 1:=rfl
 have hs125:St H _ (row 53 16 (.slice (some ⟨g116,0,none⟩) 1 1) (([(GOut.mk f.From (GFrame.mk 4 ((m_self:Nat):Int) f.ID 0 (GViewID.mk 0 0) m_prom [] 0 [] [] 0 0))]:List GOut).length) [.int .i64 f.From,.int .u8 4,.int .i64 ((m_self:Nat):Int),.int .u64 ((f.ID.N:Nat):Int),.int .i64 f.ID.P,.int .u16 0,.int .u64 0,.int .i64 0,.int .u64 ((m_prom.N:Nat):Int),.int .i64 m_prom.P,.slice none 0 0,.int .u64 0,.slice none 0 0,.slice none 0 0,.int .u64 0,.int .u64 0]::obj g_m 78 ((.int .i64 ((m_n:Nat):Int))::(.int .i64 ((m_self:Nat):Int))::(.int .u64 ((m_cur.ID.N:Nat):Int))::(.int .i64 m_cur.ID.P)::(.int .u16 ((m_cur.Set:Nat):Int))::(.int .u64 ((m_prom.N:Nat):Int))::(.int .i64 m_prom.P)::(.int .u64 (((max m_high f.ID.N):Nat):Int))::pv_m::(.slice A_m jn_m jc_m)::oCells m_os)::obj g42 37 [.int .u64 ((sx.V.N:Nat):Int),.int .i64 sx.V.P,.int .i64 sx.Floor,.slice A34 n35 c36]::obj g38 51 [.int .u8 ((f.Kind:Nat):Int),.int .i64 f.From,.int .u64 ((f.ID.N:Nat):Int),.int .i64 f.ID.P,.int .u16 ((f.Set:Nat):Int),.int .u64 ((f.Cur.N:Nat):Int),.int .i64 f.Cur.P,.int .u64 ((f.Prom.N:Nat):Int),.int .i64 f.Prom.P,.slice A14 n15 c16,.int .u64 ((f.Base:Nat):Int),.slice A19 n20 c21,.slice A23 n24 c25,.int .u64 ((f.Ack:Nat):Int),.int .u64 ((f.Safe:Nat):Int)]::L):=hs121
 have hpq:(MB.propose (MB.mk m_n m_self m_cur m_prom m_high m_prop m_jl m_os) f sx) = _:=prop_old hc66 hc77 hc113
 rw [hpq]
 have okm126:MemB H m_n m_self m_cur m_prom (max m_high f.ID.N) A_m jn_m jc_m m_jl m_os:=⟨hn1_m,hn16_m,hsf_m,⟨okm75.cur.n,okm75.cur.p⟩,okm75.set,⟨okm75.prom.n,okm75.prom.p⟩,okm75.high,okm75.joined,okm75.len,okm75.oth⟩
 exact ⟨H,(.slice (some ⟨g116,0,none⟩) 1 1),[.int .i64 f.From,.int .u8 4,.int .i64 ((m_self:Nat):Int),.int .u64 ((f.ID.N:Nat):Int),.int .i64 f.ID.P,.int .u16 0,.int .u64 0,.int .i64 0,.int .u64 ((m_prom.N:Nat):Int),.int .i64 m_prom.P,.slice none 0 0,.int .u64 0,.slice none 0 0,.slice none 0 0,.int .u64 0,.int .u64 0],m_prom,(max m_high f.ID.N),(Hp.le.refl _),rfl,ok122,hk123,okm126,rfl,((((hs125.p2).drop.p2).drop.p1).p1)⟩
 have hp113:¬ ((¬ (f.ID = m_prom)) ∨ (m_cur.ID = f.ID)):=J_no (J_or (J_not decide_eq_true_iff) decide_eq_true_iff) hc113
 refine c_cond_f (t:=false) (.tmp rfl (cVb hc113)) rfl ?_
 refine c_skip (n_block (n_then (c_seq (t_region (L:=obj g_m 78 ((.int .i64 ((m_n:Nat):Int))::(.int .i64 ((m_self:Nat):Int))::(.int .u64 ((m_cur.ID.N:Nat):Int))::(.int .i64 m_cur.ID.P)::(.int .u16 ((m_cur.Set:Nat):Int))::(.int .u64 ((m_prom.N:Nat):Int))::(.int .i64 m_prom.P)::(.int .u64 (((max m_high f.ID.N):Nat):Int))::pv_m::(.slice A_m jn_m jc_m)::oCells m_os)::obj g42 37 [.int .u64 ((sx.V.N:Nat):Int),.int .i64 sx.V.P,.int .i64 sx.Floor,.slice A34 n35 c36]::obj g38 51 [.int .u8 ((f.Kind:Nat):Int),.int .i64 f.From,.int .u64 ((f.ID.N:Nat):Int),.int .i64 f.ID.P,.int .u16 ((f.Set:Nat):Int),.int .u64 ((f.Cur.N:Nat):Int),.int .i64 f.Cur.P,.int .u64 ((f.Prom.N:Nat):Int),.int .i64 f.Prom.P,.slice A14 n15 c16,.int .u64 ((f.Base:Nat):Int),.slice A19 n20 c21,.slice A23 n24 c25,.int .u64 ((f.Ack:Nat):Int),.int .u64 ((f.Safe:Nat):Int)]::L) (L':=obj g_m 78 ((.int .i64 ((m_n:Nat):Int))::(.int .i64 ((m_self:Nat):Int))::(.int .u64 ((m_cur.ID.N:Nat):Int))::(.int .i64 m_cur.ID.P)::(.int .u16 ((m_cur.Set:Nat):Int))::(.int .u64 ((m_prom.N:Nat):Int))::(.int .i64 m_prom.P)::(.int .u64 (((max m_high f.ID.N):Nat):Int))::pv_m::(.slice A_m jn_m jc_m)::oCells m_os)::obj g42 37 [.int .u64 ((sx.V.N:Nat):Int),.int .i64 sx.V.P,.int .i64 sx.Floor,.slice A34 n35 c36]::obj g38 51 [.int .u8 ((f.Kind:Nat):Int),.int .i64 f.From,.int .u64 ((f.ID.N:Nat):Int),.int .i64 f.ID.P,.int .u16 ((f.Set:Nat):Int),.int .u64 ((f.Cur.N:Nat):Int),.int .i64 f.Cur.P,.int .u64 ((f.Prom.N:Nat):Int),.int .i64 f.Prom.P,.slice A14 n15 c16,.int .u64 ((f.Base:Nat):Int),.slice A19 n20 c21,.slice A23 n24 c25,.int .u64 ((f.Ack:Nat):Int),.int .u64 ((f.Safe:Nat):Int)]::L) (Z:=[12]) (F:=[2,3]) (pl:=(.q 0 (.q 1 (.q 2 (.q 3 (.q 4 (.q 5 (.q 6 (.q 7 (.q 8 (.e 9 (.q 10 (.q 11 (.e 12 (.q 13 (.q 14 (.q 15 .done))))))))))))))))) mixed hs112 (fun u hu => hu) (by kernel_rfl) ?_))))
 intro w127 hs128
 refine t_st (k:=0) (v:=.pointer (some ⟨g38,0 + 1,none⟩)) rfl rfl (fun w hs => (fa51_1 (.tmp rfl hρ109))) ?_
 refine t_st (k:=1) (v:=.int .i64 f.From) rfl rfl (fun w hs => (ld3 (.tmp rfl rfl) (hs.cell 2 rfl (0 + 1) rfl))) ?_
 refine t_fr (k:=2) (v:=.pointer (some ⟨g_m,0,none⟩)) rfl (fun w _ => (x_move (.tmp rfl hρ108))) ?_
 refine t_fr (k:=3) (v:=.pointer (some ⟨g_m,0,none⟩)) rfl (fun w _ => (x_nilCheck (.tmp rfl rfl))) ?_
 refine t_st (k:=4) (v:=.pointer (some ⟨g_m,0 + 1,none⟩)) rfl rfl (fun w hs => (fa78_1 (.tmp rfl rfl))) ?_
 refine t_st (k:=5) (v:=.int .i64 ((m_self:Nat):Int)) rfl rfl (fun w hs => (ld3 (.tmp rfl rfl) (hs.cell 0 rfl (0 + 1) rfl))) ?_
 refine t_st (k:=6) (v:=.pointer (some ⟨g38,0 + 2,none⟩)) rfl rfl (fun w hs => (fa51_2 (.tmp rfl hρ109))) ?_
 refine t_st (k:=7) (v:=.agg #[.int .u64 ((f.ID.N:Nat):Int),.int .i64 f.ID.P]) rfl rfl (fun w hs => (ld34 (cs:=[.int .u64 ((f.ID.N:Nat):Int),.int .i64 f.ID.P]) (.tmp rfl rfl) (hs.at_ 2 rfl (0 + 2) rfl) rfl)) ?_
 refine t_st (k:=8) (v:=.agg #[.int .u64 ((sx.V.N:Nat):Int),.int .i64 sx.V.P,.int .i64 sx.Floor,.slice A34 n35 c36]) rfl rfl (fun w hs => (ld37 (cs:=[.int .u64 ((sx.V.N:Nat):Int),.int .i64 sx.V.P,.int .i64 sx.Floor,.slice A34 n35 c36]) (.tmp rfl hρ110) (hs.at_ 1 rfl (0) rfl) rfl)) ?_
 refine t_eff (k:=9) rfl ?_
 refine st_m (m_lit (n:=1) (ps:=[(0,.agg #[.int .u64 ((sx.V.N:Nat):Int),.int .i64 sx.V.P,.int .i64 sx.Floor,.slice A34 n35 c36])]) (cs:=[.int .u64 ((sx.V.N:Nat):Int),.int .i64 sx.V.P,.int .i64 sx.Floor,.slice A34 n35 c36]) Tryd.underlying40 inf37 (.cons (.tmp rfl rfl) Evp.nil) (by decide) (by decide) rfl rfl hs128) ?_
 rintro _ w130 ⟨g129,rfl,hs132⟩
 refine t_on (S':=fun u => St H u (obj g129 37 [.int .u64 ((sx.V.N:Nat):Int),.int .i64 sx.V.P,.int .i64 sx.Floor,.slice A34 n35 c36]::obj g_m 78 ((.int .i64 ((m_n:Nat):Int))::(.int .i64 ((m_self:Nat):Int))::(.int .u64 ((m_cur.ID.N:Nat):Int))::(.int .i64 m_cur.ID.P)::(.int .u16 ((m_cur.Set:Nat):Int))::(.int .u64 ((m_prom.N:Nat):Int))::(.int .i64 m_prom.P)::(.int .u64 (((max m_high f.ID.N):Nat):Int))::pv_m::(.slice A_m jn_m jc_m)::oCells m_os)::obj g42 37 [.int .u64 ((sx.V.N:Nat):Int),.int .i64 sx.V.P,.int .i64 sx.Floor,.slice A34 n35 c36]::obj g38 51 [.int .u8 ((f.Kind:Nat):Int),.int .i64 f.From,.int .u64 ((f.ID.N:Nat):Int),.int .i64 f.ID.P,.int .u16 ((f.Set:Nat):Int),.int .u64 ((f.Cur.N:Nat):Int),.int .i64 f.Cur.P,.int .u64 ((f.Prom.N:Nat):Int),.int .i64 f.Prom.P,.slice A14 n15 c16,.int .u64 ((f.Base:Nat):Int),.slice A19 n20 c21,.slice A23 n24 c25,.int .u64 ((f.Ack:Nat):Int),.int .u64 ((f.Safe:Nat):Int)]::L)) (fun u hu => hu.drop) hs132 ?_
 refine t_st (k:=10) (v:=.agg #[.int .u8 3,.int .i64 ((m_self:Nat):Int),.int .u64 ((f.ID.N:Nat):Int),.int .i64 f.ID.P,.int .u16 0,.int .u64 0,.int .i64 0,.int .u64 0,.int .i64 0,.slice (some ⟨g129,0,none⟩) 1 1,.int .u64 0,.slice none 0 0,.slice none 0 0,.int .u64 0,.int .u64 0]) rfl rfl (fun w hs => (bl51 (ps:=[(0,.int .u8 3),(1,.int .i64 ((m_self:Nat):Int)),(2,.agg #[.int .u64 ((f.ID.N:Nat):Int),.int .i64 f.ID.P]),(6,.slice (some ⟨g129,0,none⟩) 1 1)]) (.cons .const (.cons (.tmp rfl rfl) (.cons (.tmp rfl rfl) (.cons (.tmp rfl rfl) Evp.nil)))) rfl)) ?_
 refine t_st (k:=11) (v:=.agg #[.int .i64 f.From,.int .u8 3,.int .i64 ((m_self:Nat):Int),.int .u64 ((f.ID.N:Nat):Int),.int .i64 f.ID.P,.int .u16 0,.int .u64 0,.int .i64 0,.int .u64 0,.int .i64 0,.slice (some ⟨g129,0,none⟩) 1 1,.int .u64 0,.slice none 0 0,.slice none 0 0,.int .u64 0,.int .u64 0]) rfl rfl (fun w hs => (bl53 (ps:=[(0,.int .i64 f.From),(1,.agg #[.int .u8 3,.int .i64 ((m_self:Nat):Int),.int .u64 ((f.ID.N:Nat):Int),.int .i64 f.ID.P,.int .u16 0,.int .u64 0,.int .i64 0,.int .u64 0,.int .i64 0,.slice (some ⟨g129,0,none⟩) 1 1,.int .u64 0,.slice none 0 0,.slice none 0 0,.int .u64 0,.int .u64 0])]) (.cons (.tmp rfl rfl) (.cons (.tmp rfl rfl) Evp.nil)) rfl)) ?_
 refine t_eff (k:=12) rfl ?_
 have hr138:kState.rep H sx [.int .u64 ((sx.V.N:Nat):Int),.int .i64 sx.V.P,.int .i64 sx.Floor,.slice A34 n35 c36]:=⟨A34,n35,c36,rfl,b29,⟨b30,b31⟩,⟨b32,b33⟩,hl37⟩
 have hk139:kState.toKn.rows H [sx] [.int .u64 ((sx.V.N:Nat):Int),.int .i64 sx.V.P,.int .i64 sx.Floor,.slice A34 n35 c36]:=Kn.rows_one hr138
 obtain ⟨H133,hle134,hs135,rd136,hb137⟩:=hs132.freezeObj
 have sp140:Sl kState H133 ((some ⟨g129,0,none⟩)) 1 1 [sx]:=⟨⟨_,rd136,Kn.rows_mono hk139 hle134⟩,rfl,Nat.le_refl _,by decide,by decide⟩
 refine st_m (m_lit (n:=1) (ps:=[(0,.agg #[.int .i64 f.From,.int .u8 3,.int .i64 ((m_self:Nat):Int),.int .u64 ((f.ID.N:Nat):Int),.int .i64 f.ID.P,.int .u16 0,.int .u64 0,.int .i64 0,.int .u64 0,.int .i64 0,.slice (some ⟨g129,0,none⟩) 1 1,.int .u64 0,.slice none 0 0,.slice none 0 0,.int .u64 0,.int .u64 0])]) (cs:=[.int .i64 f.From,.int .u8 3,.int .i64 ((m_self:Nat):Int),.int .u64 ((f.ID.N:Nat):Int),.int .i64 f.ID.P,.int .u16 0,.int .u64 0,.int .i64 0,.int .u64 0,.int .i64 0,.slice (some ⟨g129,0,none⟩) 1 1,.int .u64 0,.slice none 0 0,.slice none 0 0,.int .u64 0,.int .u64 0]) Tryd.underlying27 inf53 (.cons (.tmp rfl rfl) Evp.nil) (by decide) (by decide) rfl rfl hs135) ?_
 rintro _ w142 ⟨g141,rfl,hs144⟩
 refine t_new (S':=fun u => St H133 u (obj g141 53 [.int .i64 f.From,.int .u8 3,.int .i64 ((m_self:Nat):Int),.int .u64 ((f.ID.N:Nat):Int),.int .i64 f.ID.P,.int .u16 0,.int .u64 0,.int .i64 0,.int .u64 0,.int .i64 0,.slice (some ⟨g129,0,none⟩) 1 1,.int .u64 0,.slice none 0 0,.slice none 0 0,.int .u64 0,.int .u64 0]::obj g_m 78 ((.int .i64 ((m_n:Nat):Int))::(.int .i64 ((m_self:Nat):Int))::(.int .u64 ((m_cur.ID.N:Nat):Int))::(.int .i64 m_cur.ID.P)::(.int .u16 ((m_cur.Set:Nat):Int))::(.int .u64 ((m_prom.N:Nat):Int))::(.int .i64 m_prom.P)::(.int .u64 (((max m_high f.ID.N):Nat):Int))::pv_m::(.slice A_m jn_m jc_m)::oCells m_os)::obj g42 37 [.int .u64 ((sx.V.N:Nat):Int),.int .i64 sx.V.P,.int .i64 sx.Floor,.slice A34 n35 c36]::obj g38 51 [.int .u8 ((f.Kind:Nat):Int),.int .i64 f.From,.int .u64 ((f.ID.N:Nat):Int),.int .i64 f.ID.P,.int .u16 ((f.Set:Nat):Int),.int .u64 ((f.Cur.N:Nat):Int),.int .i64 f.Cur.P,.int .u64 ((f.Prom.N:Nat):Int),.int .i64 f.Prom.P,.slice A14 n15 c16,.int .u64 ((f.Base:Nat):Int),.slice A19 n20 c21,.slice A23 n24 c25,.int .u64 ((f.Ack:Nat):Int),.int .u64 ((f.Safe:Nat):Int)]::L)) rfl hs144 ?_
 refine t_st (k:=13) (v:=.slice (some ⟨g141,0,none⟩) 1 1) rfl rfl (fun w hs => (x_assign (.tmp rfl rfl))) ?_
 refine t_st (k:=14) (v:=.pointer none) rfl rfl (fun w hs => (x_assign .const)) ?_
 refine t_st (k:=15) (v:=.int .i64 0) rfl rfl (fun w hs => (x_assign .const)) ?_
 refine t_nil ?_
 refine n_then (c_ret (leave_ret (res_three (v:=.slice (some ⟨g141,0,none⟩) 1 1) (u:=.pointer none) (x:=.int .i64 0) rfl (.mk rfl rfl) (.mk rfl rfl) (.mk rfl rfl)) ?_))
 have hr149:kOut.rep H133 (GOut.mk f.From (GFrame.mk 3 ((m_self:Nat):Int) f.ID 0 (GViewID.mk 0 0) (GViewID.mk 0 0) [sx] 0 [] [] 0 0)) [.int .i64 f.From,.int .u8 3,.int .i64 ((m_self:Nat):Int),.int .u64 ((f.ID.N:Nat):Int),.int .i64 f.ID.P,.int .u16 0,.int .u64 0,.int .i64 0,.int .u64 0,.int .i64 0,.slice (some ⟨g129,0,none⟩) 1 1,.int .u64 0,.slice none 0 0,.slice none 0 0,.int .u64 0,.int .u64 0]:=⟨(some ⟨g129,0,none⟩),1,1,none,0,0,none,0,0,rfl,⟨b2,b3⟩,(show 3 < 256 from by omega),(show IB ((m_self:Nat):Int) from ⟨by omega,by omega⟩),b4,⟨b5,b6⟩,(show 0 < 65536 from by omega),(show 0 < 18446744073709551616 from by omega),(show IB 0 from ⟨by omega,by omega⟩),(show 0 < 18446744073709551616 from by omega),(show IB 0 from ⟨by omega,by omega⟩),sp140,(show 0 < 18446744073709551616 from by omega),(Sl.nil _ _ none),(Sl.nil _ _ none),(show 0 < 18446744073709551616 from by omega),(show 0 < 18446744073709551616 from by omega)⟩
 obtain ⟨hs146,ok147⟩:=hs144.rowOfObj (n:=1) (size:=kOut.sz) rfl (by decide)
 have hk148:kOut.toKn.rows H133 [(GOut.mk f.From (GFrame.mk 3 ((m_self:Nat):Int) f.ID 0 (GViewID.mk 0 0) (GViewID.mk 0 0) [sx] 0 [] [] 0 0))] [.int .i64 f.From,.int .u8 3,.int .i64 ((m_self:Nat):Int),.int .u64 ((f.ID.N:Nat):Int),.int .i64 f.ID.P,.int .u16 0,.int .u64 0,.int .i64 0,.int .u64 0,.int .i64 0,.slice (some ⟨g129,0,none⟩) 1 1,.int .u64 0,.slice none 0 0,.slice none 0 0,.int .u64 0,.int .u64 0]:=Kn.rows_one hr149
 have:([(GOut.mk f.From (GFrame.mk 3 ((m_self:Nat):Int) f.ID 0 (GViewID.mk 0 0) (GViewID.mk 0 0) [sx] 0 [] [] 0 0))]:List GOut).length = 1:=rfl
 have hs150:St H133 _ (row 53 16 (.slice (some ⟨g141,0,none⟩) 1 1) (([(GOut.mk f.From (GFrame.mk 3 ((m_self:Nat):Int) f.ID 0 (GViewID.mk 0 0) (GViewID.mk 0 0) [sx] 0 [] [] 0 0))]:List GOut).length) [.int .i64 f.From,.int .u8 3,.int .i64 ((m_self:Nat):Int),.int .u64 ((f.ID.N:Nat):Int),.int .i64 f.ID.P,.int .u16 0,.int .u64 0,.int .i64 0,.int .u64 0,.int .i64 0,.slice (some ⟨g129,0,none⟩) 1 1,.int .u64 0,.slice none 0 0,.slice none 0 0,.int .u64 0,.int .u64 0]::obj g_m 78 ((.int .i64 ((m_n:Nat):Int))::(.int .i64 ((m_self:Nat):Int))::(.int .u64 ((m_cur.ID.N:Nat):Int))::(.int .i64 m_cur.ID.P)::(.int .u16 ((m_cur.Set:Nat):Int))::(.int .u64 ((m_prom.N:Nat):Int))::(.int .i64 m_prom.P)::(.int .u64 (((max m_high f.ID.N):Nat):Int))::pv_m::(.slice A_m jn_m jc_m)::oCells m_os)::obj g42 37 [.int .u64 ((sx.V.N:Nat):Int),.int .i64 sx.V.P,.int .i64 sx.Floor,.slice A34 n35 c36]::obj g38 51 [.int .u8 ((f.Kind:Nat):Int),.int .i64 f.From,.int .u64 ((f.ID.N:Nat):Int),.int .i64 f.ID.P,.int .u16 ((f.Set:Nat):Int),.int .u64 ((f.Cur.N:Nat):Int),.int .i64 f.Cur.P,.int .u64 ((f.Prom.N:Nat):Int),.int .i64 f.Prom.P,.slice A14 n15 c16,.int .u64 ((f.Base:Nat):Int),.slice A19 n20 c21,.slice A23 n24 c25,.int .u64 ((f.Ack:Nat):Int),.int .u64 ((f.Safe:Nat):Int)]::L):=hs146
 have hpq:(MB.propose (MB.mk m_n m_self m_cur m_prom m_high m_prop m_jl m_os) f sx) = _:=prop_same hc66 hc77 hc113
 rw [hpq]
 have okm151:MemB H133 m_n m_self m_cur m_prom (max m_high f.ID.N) A_m jn_m jc_m m_jl m_os:=⟨hn1_m,hn16_m,hsf_m,⟨okm75.cur.n,okm75.cur.p⟩,okm75.set,⟨okm75.prom.n,okm75.prom.p⟩,okm75.high,(okm75.joined.mono hle134),okm75.len,okm75.oth⟩
 exact ⟨H133,(.slice (some ⟨g141,0,none⟩) 1 1),[.int .i64 f.From,.int .u8 3,.int .i64 ((m_self:Nat):Int),.int .u64 ((f.ID.N:Nat):Int),.int .i64 f.ID.P,.int .u16 0,.int .u64 0,.int .i64 0,.int .u64 0,.int .i64 0,.slice (some ⟨g129,0,none⟩) 1 1,.int .u64 0,.slice none 0 0,.slice none 0 0,.int .u64 0,.int .u64 0],m_prom,(max m_high f.ID.N),hle134,rfl,ok147,hk148,okm151,rfl,((((hs150.p2).drop.p2).drop.p1).p1)⟩
end Go.Proofs.YtcccaihjgoaehaaDoor
