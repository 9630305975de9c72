/- Steps of the proofs over the functions of this seat, printed by a program (gen.py) and checked by Lean. -/
import Derived.Test.YtcccaihjgoaehaaDoorW01
import Derived.Test.YtcccaihjgoaehaaDoorW00
import Derived.Test.YtcccaihjgoaehaaDoorW05
set_option linter.unusedVariables false
set_option linter.unusedSimpArgs false
namespace Go.Proofs.YtcccaihjgoaehaaDoor
open Go Go.FM Go.Proofs
attribute [local irreducible] wpList wpQuiet wpS Code.wp Calls
set_option maxHeartbeats 8000000 in
theorem propose_X {H:Hp} {w:World} {L:List Res} {g_m m_n m_self m_high:Nat} {m_cur:GView} {m_prom:GViewID} {m_jl:List GState} {m_os:List (GViewID × GViewID)} {A_m:Option Addr} {jn_m jc_m:Nat} {m_prop:Option GProp} {pv_m:Value} (hs:St H w (obj g_m 78 ((.int .i64 ((m_n:Nat):Int))::(.int .i64 ((m_self:Nat):Int))::(.int .u64 ((m_cur.ID.N:Nat):Int))::(.int .i64 m_cur.ID.P)::(.int .u16 ((m_cur.Set:Nat):Int))::(.int .u64 ((m_prom.N:Nat):Int))::(.int .i64 m_prom.P)::(.int .u64 ((m_high:Nat):Int))::pv_m::(.slice A_m jn_m jc_m)::oCells m_os)::L)) (ok_m:MemB H m_n m_self m_cur m_prom m_high A_m jn_m jc_m m_jl m_os) (f:GFrame) {k_f:List Value} (h_f:kFrame.rep H f k_f) (sx:GState) {k_sx:List Value} (h_sx:kState.rep H sx k_sx):Calls Tryd.prog 31 #[.pointer (some ⟨g_m,0,none⟩),.agg k_f.toArray,.agg k_sx.toArray] w (fun e w' => ∃ (H':Hp) (v0:Value) (cs0:List Value) (m_prom':GViewID) (m_high':Nat),H.le H'∧e = .returned (.tuple #[v0,.pointer none,.int .i64 ((MB.propose (MB.mk m_n m_self m_cur m_prom m_high m_prop m_jl m_os) f sx).2.2.2)])∧RowOk kOut.sz v0 ((MB.propose (MB.mk m_n m_self m_cur m_prom m_high m_prop m_jl m_os) f sx).2.1).length cs0∧kOut.toKn.rows H' ((MB.propose (MB.mk m_n m_self m_cur m_prom m_high m_prop m_jl m_os) f sx).2.1) cs0∧MemB H' m_n m_self m_cur m_prom' m_high' A_m jn_m jc_m m_jl m_os∧(MB.mk m_n m_self m_cur m_prom' m_high' m_prop m_jl m_os) = (MB.propose (MB.mk m_n m_self m_cur m_prom m_high m_prop m_jl m_os) f sx).1∧St H' w' (row 53 kOut.sz v0 ((MB.propose (MB.mk m_n m_self m_cur m_prom m_high m_prop m_jl m_os) f sx).2.1).length cs0::obj g_m 78 ((.int .i64 ((m_n:Nat):Int))::(.int .i64 ((m_self:Nat):Int))::(.int .u64 ((m_cur.ID.N:Nat):Int))::(.int .i64 m_cur.ID.P)::(.int .u16 ((m_cur.Set:Nat):Int))::(.int .u64 ((m_prom'.N:Nat):Int))::(.int .i64 m_prom'.P)::(.int .u64 ((m_high':Nat):Int))::pv_m::(.slice A_m jn_m jc_m)::oCells m_os)::L)):=by
 have hn1_m:1 ≤ m_n:=ok_m.n1
 have hn16_m:m_n ≤ 16:=ok_m.n16
 have hsf_m:m_self < m_n:=ok_m.self
 have hol_m:m_os.length = 16:=ok_m.len
 have hhi_m:m_high < 18446744073709551616:=ok_m.high
 obtain ⟨A14,n15,c16,A19,n20,c21,A23,n24,c25,rfl,b1,⟨b2,b3⟩,b4,⟨b5,b6⟩,b7,b8,⟨b9,b10⟩,b11,⟨b12,b13⟩,hl17,b18,hl22,hl26,b27,b28⟩:=h_f
 have:=hl17.len; have:n15 * 48 ≤ 140737488351232:=hl17.bnd; have:=hl17.le
 have:=hl22.len; have:n20 * 24 ≤ 140737488351232:=hl22.bnd; have:=hl22.le
 have:=hl26.len; have:n24 * 32 ≤ 140737488351232:=hl26.bnd; have:=hl26.le
 obtain ⟨A34,n35,c36,rfl,b29,⟨b30,b31⟩,⟨b32,b33⟩,hl37⟩:=h_sx
 have:=hl37.len; have:n35 * 32 ≤ 140737488351232:=hl37.bnd; have:=hl37.le
 refine enter (args:=[.pointer (some ⟨g_m,0,none⟩),.agg #[.int .u8 ((f.Kind:Nat):Int),.int .i64 f.From,.int .u64 ((f.ID.N:Nat):Int),.int .i64 f.ID.P,.int .u16 ((f.Set:Nat):Int),.int .u64 ((f.Cur.N:Nat):Int),.int .i64 f.Cur.P,.int .u64 ((f.Prom.N:Nat):Int),.int .i64 f.Prom.P,.slice A14 n15 c16,.int .u64 ((f.Base:Nat):Int),.slice A19 n20 c21,.slice A23 n24 c25,.int .u64 ((f.Ack:Nat):Int),.int .u64 ((f.Safe:Nat):Int)],.agg #[.int .u64 ((sx.V.N:Nat):Int),.int .i64 sx.V.P,.int .i64 sx.Floor,.slice A34 n35 c36]]) (N:=106) Tryd.func31 rfl rfl rfl ?_
 refine c_seq (c_region (st_m (m_box (cs:=[.int .u8 ((f.Kind:Nat):Int),.int .i64 f.From,.int .u64 ((f.ID.N:Nat):Int),.int .i64 f.ID.P,.int .u16 ((f.Set:Nat):Int),.int .u64 ((f.Cur.N:Nat):Int),.int .i64 f.Cur.P,.int .u64 ((f.Prom.N:Nat):Int),.int .i64 f.Prom.P,.slice A14 n15 c16,.int .u64 ((f.Base:Nat):Int),.slice A19 n20 c21,.slice A23 n24 c25,.int .u64 ((f.Ack:Nat):Int),.int .u64 ((f.Safe:Nat):Int)]) hs (v:=.agg #[.int .u8 ((f.Kind:Nat):Int),.int .i64 f.From,.int .u64 ((f.ID.N:Nat):Int),.int .i64 f.ID.P,.int .u16 ((f.Set:Nat):Int),.int .u64 ((f.Cur.N:Nat):Int),.int .i64 f.Cur.P,.int .u64 ((f.Prom.N:Nat):Int),.int .i64 f.Prom.P,.slice A14 n15 c16,.int .u64 ((f.Base:Nat):Int),.slice A19 n20 c21,.slice A23 n24 c25,.int .u64 ((f.Ack:Nat):Int),.int .u64 ((f.Safe:Nat):Int)]) (.tmp rfl rfl) rfl) ?_))
 rintro _ w39 ⟨g38,rfl,hs41⟩
 refine st_m (m_box (cs:=[.int .u64 ((sx.V.N:Nat):Int),.int .i64 sx.V.P,.int .i64 sx.Floor,.slice A34 n35 c36]) hs41 (v:=.agg #[.int .u64 ((sx.V.N:Nat):Int),.int .i64 sx.V.P,.int .i64 sx.Floor,.slice A34 n35 c36]) (.tmp rfl rfl) rfl) ?_
 rintro _ w43 ⟨g42,rfl,hs45⟩
 refine st (v:=.slice none 0 0) (x_assign .const) ?_
 refine st (v:=.pointer none) (x_assign .const) ?_
 refine st (v:=.int .i64 0) (x_assign .const) ?_
 refine c_nil (n_then (c_seq (c_seq (q_region mixed hs45 (by kernel_rfl) ?_))))
 refine q_st (v:=.pointer (some ⟨g38,0 + 2,none⟩)) (fun w hs => (fa51_2 (.tmp rfl rfl))) ?_
 refine q_st (v:=.pointer (some ⟨g38,0 + 2 + 1,none⟩)) (fun w hs => (fa34_1 (.tmp rfl rfl))) ?_
 refine q_st (v:=.int .i64 f.ID.P) (fun w hs => (ld3 (.tmp rfl rfl) (hs.cell 1 rfl (0 + 2 + 1) rfl))) ?_
 refine q_st (v:=.pointer (some ⟨g38,0 + 1,none⟩)) (fun w hs => (fa51_1 (.tmp rfl rfl))) ?_
 refine q_st (v:=.int .i64 f.From) (fun w hs => (ld3 (.tmp rfl rfl) (hs.cell 1 rfl (0 + 1) rfl))) ?_
 refine q_st (v:=.bool (decide ((f.ID.P:Int) ≠ f.From))) (fun w hs => (x_neq (k:=.i64) (a:=f.ID.P) (b:=f.From) (.tmp rfl rfl) (.tmp rfl rfl))) ?_
 refine q_st (v:=.bool (decide ((f.ID.P:Int) ≠ f.From))) (fun w hs => (x_move (.tmp rfl rfl))) ?_
 refine jq 9 (fun ρ => ρ 24 = .bool ((decide ((f.ID.P:Int) ≠ f.From)) || (!(has f.Set ((m_self:Nat):Int))))∧ρ 0 = .pointer (some ⟨g_m,0,none⟩)∧ρ 4 = .pointer (some ⟨g38,0,none⟩)∧ρ 5 = .pointer (some ⟨g42,0,none⟩)∧True) ?_ ?_
 rcases Bool.eq_false_or_eq_true (decide ((f.ID.P:Int) ≠ f.From)) with hc46 | hc46
 have hp46:(f.ID.P:Int) ≠ f.From:=of_decide_eq_true hc46
 refine q_no (yk 15 true rfl rfl hc46) rfl ?_
 refine q_no (yk 15 true rfl rfl hc46) rfl ?_
 refine q_no (yk 15 true rfl rfl hc46) rfl ?_
 refine q_no (yk 15 true rfl rfl hc46) rfl ?_
 refine q_no (yk 15 true rfl rfl hc46) rfl ?_
 refine q_no (yk 15 true rfl rfl hc46) rfl ?_
 refine q_no (yk 15 true rfl rfl hc46) rfl ?_
 refine q_no (yk 15 true rfl rfl hc46) rfl ?_
 refine q_st (v:=.bool true) (fun w hs => (x_pick_t (.tmp rfl (cVb hc46)) .const)) ?_
 exact jq_end ⟨(cVb (jor_t hc46)),rfl,rfl,rfl,True.intro⟩
 have hp46:¬ ((f.ID.P:Int) ≠ f.From):=of_decide_eq_false hc46
 refine q_yes (yk 15 false rfl rfl hc46) ?_
 refine q_st (v:=.pointer (some ⟨g38,0 + 4,none⟩)) (fun w hs => (fa51_3 (.tmp rfl rfl))) ?_
 refine q_yes (yk 15 false rfl rfl hc46) ?_
 refine q_st (v:=.int .u16 ((f.Set:Nat):Int)) (fun w hs => (ld31 (.tmp rfl rfl) (hs.cell 1 rfl (0 + 4) rfl))) ?_
 refine q_yes (yk 15 false rfl rfl hc46) ?_
 refine q_st (v:=.pointer (some ⟨g_m,0,none⟩)) (fun w hs => (x_move (.tmp rfl rfl))) ?_
 refine q_yes (yk 15 false rfl rfl hc46) ?_
 refine q_st (v:=.pointer (some ⟨g_m,0,none⟩)) (fun w hs => (x_nilCheck (.tmp rfl rfl))) ?_
 refine q_yes (yk 15 false rfl rfl hc46) ?_
 refine q_st (v:=.pointer (some ⟨g_m,0 + 1,none⟩)) (fun w hs => (fa78_1 (.tmp rfl rfl))) ?_
 refine q_yes (yk 15 false rfl rfl hc46) ?_
 refine q_st (v:=.int .i64 ((m_self:Nat):Int)) (fun w hs => (ld3 (.tmp rfl rfl) (hs.cell 2 rfl (0 + 1) rfl))) ?_
 refine q_yes (yk 15 false rfl rfl hc46) ?_
 refine q_c (v:=.bool (has f.Set ((m_self:Nat):Int))) cb34 .func (evs2 (.tmp rfl rfl) (.tmp rfl rfl)) (fun w hs => has_spec hs f.Set ((m_self:Nat):Int) b7 (by omega)) ?_
 refine q_yes (yk 15 false rfl rfl hc46) ?_
 refine q_st (v:=.bool (!(has f.Set ((m_self:Nat):Int)))) (fun w hs => (x_not (.tmp rfl rfl))) ?_
 refine q_st (v:=.bool (!(has f.Set ((m_self:Nat):Int)))) (fun w hs => (x_pick_f (.tmp rfl (cVb hc46)) (.tmp rfl rfl))) ?_
 exact jq_end ⟨(cVb (jor_f hc46)),rfl,rfl,rfl,True.intro⟩
 rintro ρ ⟨hρ47,hρ48,hρ49,hρ50,_⟩
 refine q_st (v:=.bool ((decide ((f.ID.P:Int) ≠ f.From)) || (!(has f.Set ((m_self:Nat):Int))))) (fun w hs => (x_move (.tmp rfl hρ47))) ?_
 refine jq 7 (fun ρ => ρ 32 = .bool (((decide ((f.ID.P:Int) ≠ f.From)) || (!(has f.Set ((m_self:Nat):Int)))) || (!(has f.Set f.From)))∧ρ 0 = .pointer (some ⟨g_m,0,none⟩)∧ρ 4 = .pointer (some ⟨g38,0,none⟩)∧ρ 5 = .pointer (some ⟨g42,0,none⟩)∧True) ?_ ?_
 rcases Bool.eq_false_or_eq_true ((decide ((f.ID.P:Int) ≠ f.From)) || (!(has f.Set ((m_self:Nat):Int)))) with hc52 | hc52
 have hp52:((f.ID.P:Int) ≠ f.From) ∨ (¬ ((has f.Set ((m_self:Nat):Int)) = true)):=((J_or decide_eq_true_iff (J_not Iff.rfl))).1 hc52
 refine q_no (yk 25 true rfl rfl hc52) rfl ?_
 refine q_no (yk 25 true rfl rfl hc52) rfl ?_
 refine q_no (yk 25 true rfl rfl hc52) rfl ?_
 refine q_no (yk 25 true rfl rfl hc52) rfl ?_
 refine q_no (yk 25 true rfl rfl hc52) rfl ?_
 refine q_no (yk 25 true rfl rfl hc52) rfl ?_
 refine q_st (v:=.bool true) (fun w hs => (x_pick_t (.tmp rfl (cVb hc52)) .const)) ?_
 exact jq_end ⟨(cVb (jor_t hc52)),hρ48,hρ49,hρ50,True.intro⟩
 have hp52:¬ (((f.ID.P:Int) ≠ f.From) ∨ (¬ ((has f.Set ((m_self:Nat):Int)) = true))):=J_no (J_or decide_eq_true_iff (J_not Iff.rfl)) hc52
 refine q_yes (yk 25 false rfl rfl hc52) ?_
 refine q_st (v:=.pointer (some ⟨g38,0 + 4,none⟩)) (fun w hs => (fa51_3 (.tmp rfl hρ49))) ?_
 refine q_yes (yk 25 false rfl rfl hc52) ?_
 refine q_st (v:=.int .u16 ((f.Set:Nat):Int)) (fun w hs => (ld31 (.tmp rfl rfl) (hs.cell 1 rfl (0 + 4) rfl))) ?_
 refine q_yes (yk 25 false rfl rfl hc52) ?_
 refine q_st (v:=.pointer (some ⟨g38,0 + 1,none⟩)) (fun w hs => (fa51_1 (.tmp rfl hρ49))) ?_
 refine q_yes (yk 25 false rfl rfl hc52) ?_
 refine q_st (v:=.int .i64 f.From) (fun w hs => (ld3 (.tmp rfl rfl) (hs.cell 1 rfl (0 + 1) rfl))) ?_
 refine q_yes (yk 25 false rfl rfl hc52) ?_
 refine q_c (v:=.bool (has f.Set f.From)) cb34 .func (evs2 (.tmp rfl rfl) (.tmp rfl rfl)) (fun w hs => has_spec hs f.Set f.From b7 (by omega)) ?_
 refine q_yes (yk 25 false rfl rfl hc52) ?_
 refine q_st (v:=.bool (!(has f.Set f.From))) (fun w hs => (x_not (.tmp rfl rfl))) ?_
 refine q_st (v:=.bool (!(has f.Set f.From))) (fun w hs => (x_pick_f (.tmp rfl (cVb hc52)) (.tmp rfl rfl))) ?_
 exact jq_end ⟨(cVb (jor_f hc52)),hρ48,hρ49,hρ50,True.intro⟩
 rintro ρ ⟨hρ53,hρ54,hρ55,hρ56,_⟩
 refine q_st (v:=.bool (((decide ((f.ID.P:Int) ≠ f.From)) || (!(has f.Set ((m_self:Nat):Int)))) || (!(has f.Set f.From)))) (fun w hs => (x_move (.tmp rfl hρ53))) ?_
 refine jq 9 (fun ρ => ρ 42 = .bool ((((decide ((f.ID.P:Int) ≠ f.From)) || (!(has f.Set ((m_self:Nat):Int)))) || (!(has f.Set f.From))) || (decide (((((f.Set / 2 ^ m_n):Nat):Int):Int) ≠ 0)))∧ρ 0 = .pointer (some ⟨g_m,0,none⟩)∧ρ 4 = .pointer (some ⟨g38,0,none⟩)∧ρ 5 = .pointer (some ⟨g42,0,none⟩)∧True) ?_ ?_
 rcases Bool.eq_false_or_eq_true (((decide ((f.ID.P:Int) ≠ f.From)) || (!(has f.Set ((m_self:Nat):Int)))) || (!(has f.Set f.From))) with hc58 | hc58
 have hp58:(((f.ID.P:Int) ≠ f.From) ∨ (¬ ((has f.Set ((m_self:Nat):Int)) = true))) ∨ (¬ ((has f.Set f.From) = true)):=((J_or (J_or decide_eq_true_iff (J_not Iff.rfl)) (J_not Iff.rfl))).1 hc58
 refine q_no (yk 33 true rfl rfl hc58) rfl ?_
 refine q_no (yk 33 true rfl rfl hc58) rfl ?_
 refine q_no (yk 33 true rfl rfl hc58) rfl ?_
 refine q_no (yk 33 true rfl rfl hc58) rfl ?_
 refine q_no (yk 33 true rfl rfl hc58) rfl ?_
 refine q_no (yk 33 true rfl rfl hc58) rfl ?_
 refine q_no (yk 33 true rfl rfl hc58) rfl ?_
 refine q_no (yk 33 true rfl rfl hc58) rfl ?_
 refine q_st (v:=.bool true) (fun w hs => (x_pick_t (.tmp rfl (cVb hc58)) .const)) ?_
 exact jq_end ⟨(cVb (jor_t hc58)),hρ54,hρ55,hρ56,True.intro⟩
 have hp58:¬ ((((f.ID.P:Int) ≠ f.From) ∨ (¬ ((has f.Set ((m_self:Nat):Int)) = true))) ∨ (¬ ((has f.Set f.From) = true))):=J_no (J_or (J_or decide_eq_true_iff (J_not Iff.rfl)) (J_not Iff.rfl)) hc58
 refine q_yes (yk 33 false rfl rfl hc58) ?_
 refine q_st (v:=.pointer (some ⟨g38,0 + 4,none⟩)) (fun w hs => (fa51_3 (.tmp rfl hρ55))) ?_
 refine q_yes (yk 33 false rfl rfl hc58) ?_
 refine q_st (v:=.int .u16 ((f.Set:Nat):Int)) (fun w hs => (ld31 (.tmp rfl rfl) (hs.cell 1 rfl (0 + 4) rfl))) ?_
 refine q_yes (yk 33 false rfl rfl hc58) ?_
 refine q_st (v:=.pointer (some ⟨g_m,0,none⟩)) (fun w hs => (x_move (.tmp rfl hρ54))) ?_
 refine q_yes (yk 33 false rfl rfl hc58) ?_
 refine q_st (v:=.pointer (some ⟨g_m,0,none⟩)) (fun w hs => (x_nilCheck (.tmp rfl rfl))) ?_
 refine q_yes (yk 33 false rfl rfl hc58) ?_
 refine q_st (v:=.pointer (some ⟨g_m,0 + 0,none⟩)) (fun w hs => (fa78_0 (.tmp rfl rfl))) ?_
 refine q_yes (yk 33 false rfl rfl hc58) ?_
 refine q_st (v:=.int .i64 ((m_n:Nat):Int)) (fun w hs => (ld3 (.tmp rfl rfl) (hs.cell 2 rfl (0 + 0) rfl))) ?_
 refine q_yes (yk 33 false rfl rfl hc58) ?_
 have hb59:(f.Set / 2 ^ m_n) < 65536:=Nat.lt_of_le_of_lt (Nat.div_le_self _ _) b7
 refine q_st (v:=.int .u16 (((f.Set / 2 ^ m_n):Nat):Int)) (fun w hs => (x_shr (k:=.u16) (m:=f.Set) (b:=((m_n:Nat):Int)) rfl (.tmp rfl rfl) (.tmp rfl rfl) (by omega) (show _ < 2 ^ 16 from b7))) ?_
 refine q_yes (yk 33 false rfl rfl hc58) ?_
 refine q_st (v:=.bool (decide (((((f.Set / 2 ^ m_n):Nat):Int):Int) ≠ 0))) (fun w hs => (x_neq (k:=.u16) (a:=(((f.Set / 2 ^ m_n):Nat):Int)) (b:=0) (.tmp rfl rfl) .const)) ?_
 refine q_st (v:=.bool (decide (((((f.Set / 2 ^ m_n):Nat):Int):Int) ≠ 0))) (fun w hs => (x_pick_f (.tmp rfl (cVb hc58)) (.tmp rfl rfl))) ?_
 exact jq_end ⟨(cVb (jor_f hc58)),hρ54,hρ55,hρ56,True.intro⟩
 rintro ρ ⟨hρ60,hρ61,hρ62,hρ63,_⟩
 refine q_nil ?_
 intro w hs65
 refine n_then ?_
 rcases Bool.eq_false_or_eq_true ((((decide ((f.ID.P:Int) ≠ f.From)) || (!(has f.Set ((m_self:Nat):Int)))) || (!(has f.Set f.From))) || (decide (((((f.Set / 2 ^ m_n):Nat):Int):Int) ≠ 0))) with hc66 | hc66
 have hp66:((((f.ID.P:Int) ≠ f.From) ∨ (¬ ((has f.Set ((m_self:Nat):Int)) = true))) ∨ (¬ ((has f.Set f.From) = true))) ∨ (((((f.Set / 2 ^ m_n):Nat):Int):Int) ≠ 0):=((J_or (J_or (J_or decide_eq_true_iff (J_not Iff.rfl)) (J_not Iff.rfl)) decide_eq_true_iff)).1 hc66
 refine c_cond_t (t:=true) (.tmp rfl (hρ60.trans (cVb hc66))) rfl ?_
 refine c_seq (c_region (st (v:=.slice none 0 0) (x_assign .const) ?_))
 refine st (v:=.pointer none) (x_assign .const) ?_
 refine st (v:=.int .i64 3) (x_assign .const) ?_
 refine c_nil (n_then (c_ret (r_then (leave_ret (res_three (v:=.slice none 0 0) (u:=.pointer none) (x:=.int .i64 3) rfl (.mk rfl rfl) (.mk rfl rfl) (.mk rfl rfl)) ?_))))
 have hpq:(MB.propose (MB.mk m_n m_self m_cur m_prom m_high m_prop m_jl m_os) f sx) = _:=prop_bad hc66
 rw [hpq]
 have hs67:=hs65.krowNil 53 kOut
 have okm69:MemB H m_n m_self m_cur m_prom m_high A_m jn_m jc_m m_jl m_os:=⟨hn1_m,hn16_m,hsf_m,⟨ok_m.cur.n,ok_m.cur.p⟩,ok_m.set,⟨ok_m.prom.n,ok_m.prom.p⟩,ok_m.high,ok_m.joined,ok_m.len,ok_m.oth⟩
 exact ⟨H,(.slice none 0 0),[],m_prom,m_high,(Hp.le.refl _),rfl,(RowOk.knil kOut),(Kn.rows_nil _ _),okm69,rfl,((((hs67.p1).drop.p1).drop.p1).p1)⟩
 have hp66:¬ (((((f.ID.P:Int) ≠ f.From) ∨ (¬ ((has f.Set ((m_self:Nat):Int)) = true))) ∨ (¬ ((has f.Set f.From) = true))) ∨ (((((f.Set / 2 ^ m_n):Nat):Int):Int) ≠ 0)):=J_no (J_or (J_or (J_or decide_eq_true_iff (J_not Iff.rfl)) (J_not Iff.rfl)) decide_eq_true_iff) hc66
 refine c_cond_f (t:=false) (.tmp rfl (hρ60.trans (cVb hc66))) rfl ?_
 refine c_skip (n_then (c_seq (c_region (st (v:=.pointer (some ⟨g_m,0,none⟩)) (x_move (.tmp rfl hρ61)) ?_))))
 refine st (v:=.pointer (some ⟨g38,0 + 2,none⟩)) (fa51_2 (.tmp rfl hρ62)) ?_
 refine st (v:=.agg #[.int .u64 ((f.ID.N:Nat):Int),.int .i64 f.ID.P]) (ld34 (cs:=[.int .u64 ((f.ID.N:Nat):Int),.int .i64 f.ID.P]) (.tmp rfl rfl) (hs65.at_ 1 rfl (0 + 2) rfl) rfl) ?_
 have hs70:=hs65.p2
 have okm71:MemB H m_n m_self m_cur m_prom m_high A_m jn_m jc_m m_jl m_os:=⟨hn1_m,hn16_m,hsf_m,⟨ok_m.cur.n,ok_m.cur.p⟩,ok_m.set,⟨ok_m.prom.n,ok_m.prom.p⟩,ok_m.high,ok_m.joined,ok_m.len,ok_m.oth⟩
 have hr72:kViewID.rep H f.ID [.int .u64 ((f.ID.N:Nat):Int),.int .i64 f.ID.P]:=⟨rfl,b4,⟨b5,b6⟩⟩
 refine st_c cb30 .func (evs2 (.tmp rfl rfl) (.tmp rfl rfl)) (hear_X hs70 (m_prop:=m_prop) (m_n:=m_n) (m_self:=m_self) (m_cur:=m_cur) (m_prom:=m_prom) (m_high:=m_high) (m_jl:=m_jl) (m_os:=m_os) okm71 f.ID hr72 ) ?_
 rintro e w73 ⟨rfl,okm75,hs74⟩
 refine ⟨_,rfl,?_⟩
 refine c_nil (n_then (c_seq (c_block (c_seq (q_region mixed hs74 (by kernel_rfl) ?_)))))
 refine q_st (v:=.pointer (some ⟨g38,0 + 2,none⟩)) (fun w hs => (fa51_2 (.tmp rfl hρ62))) ?_
 refine q_st (v:=.agg #[.int .u64 ((f.ID.N:Nat):Int),.int .i64 f.ID.P]) (fun w hs => (ld34 (cs:=[.int .u64 ((f.ID.N:Nat):Int),.int .i64 f.ID.P]) (.tmp rfl rfl) (hs.at_ 2 rfl (0 + 2) rfl) rfl)) ?_
 refine q_st (v:=.pointer (some ⟨g_m,0,none⟩)) (fun w hs => (x_move (.tmp rfl hρ61))) ?_
 refine q_st (v:=.pointer (some ⟨g_m,0,none⟩)) (fun w hs => (x_nilCheck (.tmp rfl rfl))) ?_
 refine q_st (v:=.pointer (some ⟨g_m,0 + 5,none⟩)) (fun w hs => (fa78_3 (.tmp rfl rfl))) ?_
 refine q_st (v:=.agg #[.int .u64 ((m_prom.N:Nat):Int),.int .i64 m_prom.P]) (fun w hs => (ld34 (cs:=[.int .u64 ((m_prom.N:Nat):Int),.int .i64 m_prom.P]) (.tmp rfl rfl) (hs.at_ 0 rfl (0 + 5) rfl) rfl)) ?_
 refine q_c (v:=.bool (decide (0 < cmpV f.ID.N f.ID.P m_prom.N m_prom.P))) cb33 .func (evs2 (.tmp rfl rfl) (.tmp rfl rfl)) (fun w hs => above_spec hs f.ID.N f.ID.P m_prom.N m_prom.P) ?_
 refine q_st (v:=.bool (decide (0 < cmpV f.ID.N f.ID.P m_prom.N m_prom.P))) (fun w hs => (x_assign (.tmp rfl rfl))) ?_
 refine q_nil ?_
 intro w hs76
 refine n_then ?_
 rcases Bool.eq_false_or_eq_true (decide (0 < cmpV f.ID.N f.ID.P m_prom.N m_prom.P)) with hc77 | hc77
 refine c_cond_t (t:=true) (.tmp rfl (cVb hc77)) rfl ?_
 refine c_region (st (v:=.pointer (some ⟨g_m,0,none⟩)) (x_move (.tmp rfl hρ61)) ?_)
 refine st (v:=.pointer (some ⟨g38,0 + 2,none⟩)) (fa51_2 (.tmp rfl hρ62)) ?_
 refine st (v:=.agg #[.int .u64 ((f.ID.N:Nat):Int),.int .i64 f.ID.P]) (ld34 (cs:=[.int .u64 ((f.ID.N:Nat):Int),.int .i64 f.ID.P]) (.tmp rfl rfl) (hs76.at_ 2 rfl (0 + 2) rfl) rfl) ?_
 refine st (v:=.pointer (some ⟨g_m,0,none⟩)) (x_nilCheck (.tmp rfl rfl)) ?_
 refine st (v:=.pointer (some ⟨g_m,0 + 5,none⟩)) (fa78_3 (.tmp rfl rfl)) ?_
 refine st_m0 (sto34 (cs':=((.int .i64 ((m_n:Nat):Int))::(.int .i64 ((m_self:Nat):Int))::(.int .u64 ((m_cur.ID.N:Nat):Int))::(.int .i64 m_cur.ID.P)::(.int .u16 ((m_cur.Set:Nat):Int))::(.int .u64 ((f.ID.N:Nat):Int))::(.int .i64 f.ID.P)::(.int .u64 (((max m_high f.ID.N):Nat):Int))::pv_m::(.slice A_m jn_m jc_m)::oCells m_os)) (i:=0 + 5) hs76 (v:=.agg #[.int .u64 ((f.ID.N:Nat):Int),.int .i64 f.ID.P]) (.tmp rfl rfl) (.tmp rfl rfl) rfl (Nat.le_of_ble_eq_true rfl) (oneA rfl) rfl) ?_
 rintro w78 hs80
 refine c_nil (n_block (n_then (c_seq (t_region (L:=obj g_m 78 ((.int .i64 ((m_n:Nat):Int))::(.int .i64 ((m_self:Nat):Int))::(.int .u64 ((m_cur.ID.N:Nat):Int))::(.int .i64 m_cur.ID.P)::(.int .u16 ((m_cur.Set:Nat):Int))::(.int .u64 ((f.ID.N:Nat):Int))::(.int .i64 f.ID.P)::(.int .u64 (((max m_high f.ID.N):Nat):Int))::pv_m::(.slice A_m jn_m jc_m)::oCells m_os)::obj g42 37 (clState sx A34 n35 c36)::obj g38 51 (clFrame f A14 n15 c16 A19 n20 c21 A23 n24 c25)::L) (L':=obj g_m 78 ((.int .i64 ((m_n:Nat):Int))::(.int .i64 ((m_self:Nat):Int))::(.int .u64 ((m_cur.ID.N:Nat):Int))::(.int .i64 m_cur.ID.P)::(.int .u16 ((m_cur.Set:Nat):Int))::(.int .u64 ((f.ID.N:Nat):Int))::(.int .i64 f.ID.P)::(.int .u64 (((max m_high f.ID.N):Nat):Int))::pv_m::(.slice A_m jn_m jc_m)::oCells m_os)::obj g42 37 (clState sx A34 n35 c36)::obj g38 51 (clFrame f A14 n15 c16 A19 n20 c21 A23 n24 c25)::L) (Z:=[12]) (F:=[2,3]) (pl:=(.q 0 (.q 1 (.q 2 (.q 3 (.q 4 (.q 5 (.q 6 (.q 7 (.q 8 (.e 9 (.q 10 (.q 11 (.e 12 (.q 13 (.q 14 (.q 15 .done))))))))))))))))) mixed hs80 (fun u hu => hu) (by kernel_rfl) ?_))))
 intro w81 hs82
 refine t_st (k:=0) (v:=.pointer (some ⟨g38,0 + 1,none⟩)) rfl rfl (fun w hs => (fa51_1 (.tmp rfl hρ62))) ?_
 refine t_st (k:=1) (v:=.int .i64 f.From) rfl rfl (fun w hs => (ld3 (.tmp rfl rfl) (hs.cell 2 rfl (0 + 1) rfl))) ?_
 refine t_fr (k:=2) (v:=.pointer (some ⟨g_m,0,none⟩)) rfl (fun w _ => (x_move (.tmp rfl hρ61))) ?_
 refine t_fr (k:=3) (v:=.pointer (some ⟨g_m,0,none⟩)) rfl (fun w _ => (x_nilCheck (.tmp rfl rfl))) ?_
 refine t_st (k:=4) (v:=.pointer (some ⟨g_m,0 + 1,none⟩)) rfl rfl (fun w hs => (fa78_1 (.tmp rfl rfl))) ?_
 refine t_st (k:=5) (v:=.int .i64 ((m_self:Nat):Int)) rfl rfl (fun w hs => (ld3 (.tmp rfl rfl) (hs.cell 0 rfl (0 + 1) rfl))) ?_
 refine t_st (k:=6) (v:=.pointer (some ⟨g38,0 + 2,none⟩)) rfl rfl (fun w hs => (fa51_2 (.tmp rfl hρ62))) ?_
 refine t_st (k:=7) (v:=.agg #[.int .u64 ((f.ID.N:Nat):Int),.int .i64 f.ID.P]) rfl rfl (fun w hs => (ld34 (cs:=[.int .u64 ((f.ID.N:Nat):Int),.int .i64 f.ID.P]) (.tmp rfl rfl) (hs.at_ 2 rfl (0 + 2) rfl) rfl)) ?_
 refine t_st (k:=8) (v:=.agg #[.int .u64 ((sx.V.N:Nat):Int),.int .i64 sx.V.P,.int .i64 sx.Floor,.slice A34 n35 c36]) rfl rfl (fun w hs => (ld37 (cs:=[.int .u64 ((sx.V.N:Nat):Int),.int .i64 sx.V.P,.int .i64 sx.Floor,.slice A34 n35 c36]) (.tmp rfl hρ63) (hs.at_ 1 rfl (0) rfl) rfl)) ?_
 refine t_eff (k:=9) rfl ?_
 refine st_m (m_lit (n:=1) (ps:=[(0,.agg #[.int .u64 ((sx.V.N:Nat):Int),.int .i64 sx.V.P,.int .i64 sx.Floor,.slice A34 n35 c36])]) (cs:=[.int .u64 ((sx.V.N:Nat):Int),.int .i64 sx.V.P,.int .i64 sx.Floor,.slice A34 n35 c36]) Tryd.underlying40 inf37 (.cons (.tmp rfl rfl) Evp.nil) (by decide) (by decide) rfl rfl hs82) ?_
 rintro _ w84 ⟨g83,rfl,hs86⟩
 refine t_on (S':=fun u => St H u (obj g83 37 (clState sx A34 n35 c36)::obj g_m 78 ((.int .i64 ((m_n:Nat):Int))::(.int .i64 ((m_self:Nat):Int))::(.int .u64 ((m_cur.ID.N:Nat):Int))::(.int .i64 m_cur.ID.P)::(.int .u16 ((m_cur.Set:Nat):Int))::(.int .u64 ((f.ID.N:Nat):Int))::(.int .i64 f.ID.P)::(.int .u64 (((max m_high f.ID.N):Nat):Int))::pv_m::(.slice A_m jn_m jc_m)::oCells m_os)::obj g42 37 (clState sx A34 n35 c36)::obj g38 51 (clFrame f A14 n15 c16 A19 n20 c21 A23 n24 c25)::L)) (fun u hu => hu.drop) hs86 ?_
 refine t_st (k:=10) (v:=.agg #[.int .u8 3,.int .i64 ((m_self:Nat):Int),.int .u64 ((f.ID.N:Nat):Int),.int .i64 f.ID.P,.int .u16 0,.int .u64 0,.int .i64 0,.int .u64 0,.int .i64 0,.slice (some ⟨g83,0,none⟩) 1 1,.int .u64 0,.slice none 0 0,.slice none 0 0,.int .u64 0,.int .u64 0]) rfl rfl (fun w hs => (bl51 (ps:=[(0,.int .u8 3),(1,.int .i64 ((m_self:Nat):Int)),(2,.agg #[.int .u64 ((f.ID.N:Nat):Int),.int .i64 f.ID.P]),(6,.slice (some ⟨g83,0,none⟩) 1 1)]) (.cons .const (.cons (.tmp rfl rfl) (.cons (.tmp rfl rfl) (.cons (.tmp rfl rfl) Evp.nil)))) rfl)) ?_
 refine t_st (k:=11) (v:=.agg #[.int .i64 f.From,.int .u8 3,.int .i64 ((m_self:Nat):Int),.int .u64 ((f.ID.N:Nat):Int),.int .i64 f.ID.P,.int .u16 0,.int .u64 0,.int .i64 0,.int .u64 0,.int .i64 0,.slice (some ⟨g83,0,none⟩) 1 1,.int .u64 0,.slice none 0 0,.slice none 0 0,.int .u64 0,.int .u64 0]) rfl rfl (fun w hs => (bl53 (ps:=[(0,.int .i64 f.From),(1,.agg #[.int .u8 3,.int .i64 ((m_self:Nat):Int),.int .u64 ((f.ID.N:Nat):Int),.int .i64 f.ID.P,.int .u16 0,.int .u64 0,.int .i64 0,.int .u64 0,.int .i64 0,.slice (some ⟨g83,0,none⟩) 1 1,.int .u64 0,.slice none 0 0,.slice none 0 0,.int .u64 0,.int .u64 0])]) (.cons (.tmp rfl rfl) (.cons (.tmp rfl rfl) Evp.nil)) rfl)) ?_
 refine t_eff (k:=12) rfl ?_
 have hr92:kState.rep H sx [.int .u64 ((sx.V.N:Nat):Int),.int .i64 sx.V.P,.int .i64 sx.Floor,.slice A34 n35 c36]:=⟨A34,n35,c36,rfl,b29,⟨b30,b31⟩,⟨b32,b33⟩,hl37⟩
 have hk93:kState.toKn.rows H [sx] [.int .u64 ((sx.V.N:Nat):Int),.int .i64 sx.V.P,.int .i64 sx.Floor,.slice A34 n35 c36]:=Kn.rows_one hr92
 obtain ⟨H87,hle88,hs89,rd90,hb91⟩:=hs86.freezeObj
 have sp94:Sl kState H87 ((some ⟨g83,0,none⟩)) 1 1 [sx]:=⟨⟨_,rd90,Kn.rows_mono hk93 hle88⟩,rfl,Nat.le_refl _,by decide,by decide⟩
 refine st_m (m_lit (n:=1) (ps:=[(0,.agg #[.int .i64 f.From,.int .u8 3,.int .i64 ((m_self:Nat):Int),.int .u64 ((f.ID.N:Nat):Int),.int .i64 f.ID.P,.int .u16 0,.int .u64 0,.int .i64 0,.int .u64 0,.int .i64 0,.slice (some ⟨g83,0,none⟩) 1 1,.int .u64 0,.slice none 0 0,.slice none 0 0,.int .u64 0,.int .u64 0])]) (cs:=[.int .i64 f.From,.int .u8 3,.int .i64 ((m_self:Nat):Int),.int .u64 ((f.ID.N:Nat):Int),.int .i64 f.ID.P,.int .u16 0,.int .u64 0,.int .i64 0,.int .u64 0,.int .i64 0,.slice (some ⟨g83,0,none⟩) 1 1,.int .u64 0,.slice none 0 0,.slice none 0 0,.int .u64 0,.int .u64 0]) Tryd.underlying27 inf53 (.cons (.tmp rfl rfl) Evp.nil) (by decide) (by decide) rfl rfl hs89) ?_
 rintro _ w96 ⟨g95,rfl,hs98⟩
 refine t_new (S':=fun u => St H87 u (obj g95 53 [.int .i64 f.From,.int .u8 3,.int .i64 ((m_self:Nat):Int),.int .u64 ((f.ID.N:Nat):Int),.int .i64 f.ID.P,.int .u16 0,.int .u64 0,.int .i64 0,.int .u64 0,.int .i64 0,.slice (some ⟨g83,0,none⟩) 1 1,.int .u64 0,.slice none 0 0,.slice none 0 0,.int .u64 0,.int .u64 0]::obj g_m 78 ((.int .i64 ((m_n:Nat):Int))::(.int .i64 ((m_self:Nat):Int))::(.int .u64 ((m_cur.ID.N:Nat):Int))::(.int .i64 m_cur.ID.P)::(.int .u16 ((m_cur.Set:Nat):Int))::(.int .u64 ((f.ID.N:Nat):Int))::(.int .i64 f.ID.P)::(.int .u64 (((max m_high f.ID.N):Nat):Int))::pv_m::(.slice A_m jn_m jc_m)::oCells m_os)::obj g42 37 (clState sx A34 n35 c36)::obj g38 51 (clFrame f A14 n15 c16 A19 n20 c21 A23 n24 c25)::L)) rfl hs98 ?_
 refine t_st (k:=13) (v:=.slice (some ⟨g95,0,none⟩) 1 1) rfl rfl (fun w hs => (x_assign (.tmp rfl rfl))) ?_
 refine t_st (k:=14) (v:=.pointer none) rfl rfl (fun w hs => (x_assign .const)) ?_
 refine t_st (k:=15) (v:=.int .i64 0) rfl rfl (fun w hs => (x_assign .const)) ?_
 refine t_nil ?_
 refine n_then (c_ret (leave_ret (res_three (v:=.slice (some ⟨g95,0,none⟩) 1 1) (u:=.pointer none) (x:=.int .i64 0) rfl (.mk rfl rfl) (.mk rfl rfl) (.mk rfl rfl)) ?_))
 have hr103:kOut.rep H87 (GOut.mk f.From (GFrame.mk 3 ((m_self:Nat):Int) f.ID 0 (GViewID.mk 0 0) (GViewID.mk 0 0) [sx] 0 [] [] 0 0)) [.int .i64 f.From,.int .u8 3,.int .i64 ((m_self:Nat):Int),.int .u64 ((f.ID.N:Nat):Int),.int .i64 f.ID.P,.int .u16 0,.int .u64 0,.int .i64 0,.int .u64 0,.int .i64 0,.slice (some ⟨g83,0,none⟩) 1 1,.int .u64 0,.slice none 0 0,.slice none 0 0,.int .u64 0,.int .u64 0]:=⟨(some ⟨g83,0,none⟩),1,1,none,0,0,none,0,0,rfl,⟨b2,b3⟩,(show 3 < 256 from by omega),(show IB ((m_self:Nat):Int) from ⟨by omega,by omega⟩),b4,⟨b5,b6⟩,(show 0 < 65536 from by omega),(show 0 < 18446744073709551616 from by omega),(show IB 0 from ⟨by omega,by omega⟩),(show 0 < 18446744073709551616 from by omega),(show IB 0 from ⟨by omega,by omega⟩),sp94,(show 0 < 18446744073709551616 from by omega),(Sl.nil _ _ none),(Sl.nil _ _ none),(show 0 < 18446744073709551616 from by omega),(show 0 < 18446744073709551616 from by omega)⟩
 obtain ⟨hs100,ok101⟩:=hs98.rowOfObj (n:=1) (size:=kOut.sz) rfl (by decide)
 have hk102:kOut.toKn.rows H87 [(GOut.mk f.From (GFrame.mk 3 ((m_self:Nat):Int) f.ID 0 (GViewID.mk 0 0) (GViewID.mk 0 0) [sx] 0 [] [] 0 0))] [.int .i64 f.From,.int .u8 3,.int .i64 ((m_self:Nat):Int),.int .u64 ((f.ID.N:Nat):Int),.int .i64 f.ID.P,.int .u16 0,.int .u64 0,.int .i64 0,.int .u64 0,.int .i64 0,.slice (some ⟨g83,0,none⟩) 1 1,.int .u64 0,.slice none 0 0,.slice none 0 0,.int .u64 0,.int .u64 0]:=Kn.rows_one hr103
 have:([(GOut.mk f.From (GFrame.mk 3 ((m_self:Nat):Int) f.ID 0 (GViewID.mk 0 0) (GViewID.mk 0 0) [sx] 0 [] [] 0 0))]:List GOut).length = 1:=rfl
 have hs104:St H87 _ (row 53 16 (.slice (some ⟨g95,0,none⟩) 1 1) (([(GOut.mk f.From (GFrame.mk 3 ((m_self:Nat):Int) f.ID 0 (GViewID.mk 0 0) (GViewID.mk 0 0) [sx] 0 [] [] 0 0))]:List GOut).length) [.int .i64 f.From,.int .u8 3,.int .i64 ((m_self:Nat):Int),.int .u64 ((f.ID.N:Nat):Int),.int .i64 f.ID.P,.int .u16 0,.int .u64 0,.int .i64 0,.int .u64 0,.int .i64 0,.slice (some ⟨g83,0,none⟩) 1 1,.int .u64 0,.slice none 0 0,.slice none 0 0,.int .u64 0,.int .u64 0]::obj g_m 78 ((.int .i64 ((m_n:Nat):Int))::(.int .i64 ((m_self:Nat):Int))::(.int .u64 ((m_cur.ID.N:Nat):Int))::(.int .i64 m_cur.ID.P)::(.int .u16 ((m_cur.Set:Nat):Int))::(.int .u64 ((f.ID.N:Nat):Int))::(.int .i64 f.ID.P)::(.int .u64 (((max m_high f.ID.N):Nat):Int))::pv_m::(.slice A_m jn_m jc_m)::oCells m_os)::obj g42 37 (clState sx A34 n35 c36)::obj g38 51 (clFrame f A14 n15 c16 A19 n20 c21 A23 n24 c25)::L):=hs100
 have hpq:(MB.propose (MB.mk m_n m_self m_cur m_prom m_high m_prop m_jl m_os) f sx) = _:=prop_above hc66 hc77
 rw [hpq]
 have okm105:MemB H87 m_n m_self m_cur f.ID (max m_high f.ID.N) A_m jn_m jc_m m_jl m_os:=⟨hn1_m,hn16_m,hsf_m,⟨okm75.cur.n,okm75.cur.p⟩,okm75.set,⟨b4,⟨b5,b6⟩⟩,okm75.high,(okm75.joined.mono hle88),okm75.len,okm75.oth⟩
 exact ⟨H87,(.slice (some ⟨g95,0,none⟩) 1 1),[.int .i64 f.From,.int .u8 3,.int .i64 ((m_self:Nat):Int),.int .u64 ((f.ID.N:Nat):Int),.int .i64 f.ID.P,.int .u16 0,.int .u64 0,.int .i64 0,.int .u64 0,.int .i64 0,.slice (some ⟨g83,0,none⟩) 1 1,.int .u64 0,.slice none 0 0,.slice none 0 0,.int .u64 0,.int .u64 0],f.ID,(max m_high f.ID.N),hle88,rfl,ok101,hk102,okm105,rfl,((((hs104.p2).drop.p2).drop.p1).p1)⟩
 refine c_cond_f (t:=false) (.tmp rfl (cVb hc77)) rfl ?_
 refine c_seq (q_region mixed hs76 (by kernel_rfl) ?_)
 refine q_st (v:=.pointer (some ⟨g38,0 + 2,none⟩)) (fun w hs => (fa51_2 (.tmp rfl hρ62))) ?_
 refine q_st (v:=.agg #[.int .u64 ((f.ID.N:Nat):Int),.int .i64 f.ID.P]) (fun w hs => (ld34 (cs:=[.int .u64 ((f.ID.N:Nat):Int),.int .i64 f.ID.P]) (.tmp rfl rfl) (hs.at_ 2 rfl (0 + 2) rfl) rfl)) ?_
 refine q_st (v:=.pointer (some ⟨g_m,0,none⟩)) (fun w hs => (x_move (.tmp rfl hρ61))) ?_
 refine q_st (v:=.pointer (some ⟨g_m,0,none⟩)) (fun w hs => (x_nilCheck (.tmp rfl rfl))) ?_
 refine q_st (v:=.pointer (some ⟨g_m,0 + 5,none⟩)) (fun w hs => (fa78_3 (.tmp rfl rfl))) ?_
 refine q_st (v:=.agg #[.int .u64 ((m_prom.N:Nat):Int),.int .i64 m_prom.P]) (fun w hs => (ld34 (cs:=[.int .u64 ((m_prom.N:Nat):Int),.int .i64 m_prom.P]) (.tmp rfl rfl) (hs.at_ 0 rfl (0 + 5) rfl) rfl)) ?_
 refine q_st (v:=.bool (!((((f.ID.N:Nat):Int) == ((m_prom.N:Nat):Int)) && ((f.ID.P == m_prom.P) && true)))) (fun w hs => (x_neqA eqg34 (.tmp rfl rfl) (.tmp rfl rfl) (fun d => eqs34 (d + 98) _ ((f.ID.N:Nat):Int) ((m_prom.N:Nat):Int) f.ID.P m_prom.P))) ?_
 refine q_st (v:=.bool (!(decide (f.ID = m_prom)))) (fun w hs => (x_move (.tmp rfl (congrArg (fun z => Value.bool (!z)) (GViewID.beq_dec f.ID m_prom))))) ?_
 refine jq 9 (fun ρ => ρ 77 = .bool ((!(decide (f.ID = m_prom))) || (decide (m_cur.ID = f.ID)))∧ρ 0 = .pointer (some ⟨g_m,0,none⟩)∧ρ 4 = .pointer (some ⟨g38,0,none⟩)∧ρ 5 = .pointer (some ⟨g42,0,none⟩)∧True) ?_ ?_
 rcases Bool.eq_false_or_eq_true (decide (f.ID = m_prom)) with hc106 | hc106
 have hp106:f.ID = m_prom:=of_decide_eq_true hc106
 refine q_yes (yl (dj:=68) (b:=false) rfl rfl (cVb (by rw [hc106]; rfl))) ?_
 refine q_st (v:=.pointer (some ⟨g_m,0,none⟩)) (fun w hs => (x_move (.tmp rfl hρ61))) ?_
 refine q_yes (yl (dj:=68) (b:=false) rfl rfl (cVb (by rw [hc106]; rfl))) ?_
 refine q_st (v:=.pointer (some ⟨g_m,0,none⟩)) (fun w hs => (x_nilCheck (.tmp rfl rfl))) ?_
 refine q_yes (yl (dj:=68) (b:=false) rfl rfl (cVb (by rw [hc106]; rfl))) ?_
 refine q_st (v:=.pointer (some ⟨g_m,0 + 2,none⟩)) (fun w hs => (fa78_2 (.tmp rfl rfl))) ?_
 refine q_yes (yl (dj:=68) (b:=false) rfl rfl (cVb (by rw [hc106]; rfl))) ?_
 refine q_st (v:=.pointer (some ⟨g_m,0 + 2 + 0,none⟩)) (fun w hs => (fa39_0 (.tmp rfl rfl))) ?_
 refine q_yes (yl (dj:=68) (b:=false) rfl rfl (cVb (by rw [hc106]; rfl))) ?_
 refine q_st (v:=.agg #[.int .u64 ((m_cur.ID.N:Nat):Int),.int .i64 m_cur.ID.P]) (fun w hs => (ld34 (cs:=[.int .u64 ((m_cur.ID.N:Nat):Int),.int .i64 m_cur.ID.P]) (.tmp rfl rfl) (hs.at_ 0 rfl (0 + 2 + 0) rfl) rfl)) ?_
 refine q_yes (yl (dj:=68) (b:=false) rfl rfl (cVb (by rw [hc106]; rfl))) ?_
 refine q_st (v:=.pointer (some ⟨g38,0 + 2,none⟩)) (fun w hs => (fa51_2 (.tmp rfl hρ62))) ?_
 refine q_yes (yl (dj:=68) (b:=false) rfl rfl (cVb (by rw [hc106]; rfl))) ?_
 refine q_st (v:=.agg #[.int .u64 ((f.ID.N:Nat):Int),.int .i64 f.ID.P]) (fun w hs => (ld34 (cs:=[.int .u64 ((f.ID.N:Nat):Int),.int .i64 f.ID.P]) (.tmp rfl rfl) (hs.at_ 2 rfl (0 + 2) rfl) rfl)) ?_
 refine q_yes (yl (dj:=68) (b:=false) rfl rfl (cVb (by rw [hc106]; rfl))) ?_
 refine q_st (v:=.bool ((((m_cur.ID.N:Nat):Int) == ((f.ID.N:Nat):Int)) && ((m_cur.ID.P == f.ID.P) && true))) (fun w hs => (x_eqlA eqg34 (.tmp rfl rfl) (.tmp rfl rfl) (fun d => eqs34 (d + 98) _ ((m_cur.ID.N:Nat):Int) ((f.ID.N:Nat):Int) m_cur.ID.P f.ID.P))) ?_
 refine q_st (v:=.bool (decide (m_cur.ID = f.ID))) (fun w hs => (x_pick_f (.tmp rfl (cVb (by rw [hc106]; rfl))) (.tmp rfl (cVb (GViewID.beq_dec m_cur.ID f.ID))))) ?_
 exact jq_end ⟨(cVb (jor_f (by rw [hc106]; rfl))),hρ61,hρ62,hρ63,True.intro⟩
 have hp106:¬ (f.ID = m_prom):=of_decide_eq_false hc106
 refine q_no (yl (dj:=68) (b:=true) rfl rfl (cVb (by rw [hc106]; rfl))) rfl ?_
 refine q_no (yl (dj:=68) (b:=true) rfl rfl (cVb (by rw [hc106]; rfl))) rfl ?_
 refine q_no (yl (dj:=68) (b:=true) rfl rfl (cVb (by rw [hc106]; rfl))) rfl ?_
 refine q_no (yl (dj:=68) (b:=true) rfl rfl (cVb (by rw [hc106]; rfl))) rfl ?_
 refine q_no (yl (dj:=68) (b:=true) rfl rfl (cVb (by rw [hc106]; rfl))) rfl ?_
 refine q_no (yl (dj:=68) (b:=true) rfl rfl (cVb (by rw [hc106]; rfl))) rfl ?_
 refine q_no (yl (dj:=68) (b:=true) rfl rfl (cVb (by rw [hc106]; rfl))) rfl ?_
 refine q_no (yl (dj:=68) (b:=true) rfl rfl (cVb (by rw [hc106]; rfl))) rfl ?_
 refine q_st (v:=.bool true) (fun w hs => (x_pick_t (.tmp rfl (cVb (by rw [hc106]; rfl))) .const)) ?_
 exact jq_end ⟨(cVb (jor_t (by rw [hc106]; rfl))),hρ61,hρ62,hρ63,True.intro⟩
 rintro ρ ⟨hρ107,hρ108,hρ109,hρ110,_⟩
 refine q_st (v:=.bool ((!(decide (f.ID = m_prom))) || (decide (m_cur.ID = f.ID)))) (fun w hs => (x_assign (.tmp rfl hρ107))) ?_
 refine q_nil ?_
 intro w hs112
 refine n_then ?_
 rcases Bool.eq_false_or_eq_true ((!(decide (f.ID = m_prom))) || (decide (m_cur.ID = f.ID))) with hc113 | hc113
 have hp113:(¬ (f.ID = m_prom)) ∨ (m_cur.ID = f.ID):=((J_or (J_not decide_eq_true_iff) decide_eq_true_iff)).1 hc113
 refine c_cond_t (t:=true) (.tmp rfl (cVb hc113)) rfl ?_
 refine c_seq (t_region (L:=obj g_m 78 ((.int .i64 ((m_n:Nat):Int))::(.int .i64 ((m_self:Nat):Int))::(.int .u64 ((m_cur.ID.N:Nat):Int))::(.int .i64 m_cur.ID.P)::(.int .u16 ((m_cur.Set:Nat):Int))::(.int .u64 ((m_prom.N:Nat):Int))::(.int .i64 m_prom.P)::(.int .u64 (((max m_high f.ID.N):Nat):Int))::pv_m::(.slice A_m jn_m jc_m)::oCells m_os)::obj g42 37 (clState sx A34 n35 c36)::obj g38 51 (clFrame f A14 n15 c16 A19 n20 c21 A23 n24 c25)::L) (L':=obj g_m 78 ((.int .i64 ((m_n:Nat):Int))::(.int .i64 ((m_self:Nat):Int))::(.int .u64 ((m_cur.ID.N:Nat):Int))::(.int .i64 m_cur.ID.P)::(.int .u16 ((m_cur.Set:Nat):Int))::(.int .u64 ((m_prom.N:Nat):Int))::(.int .i64 m_prom.P)::(.int .u64 (((max m_high f.ID.N):Nat):Int))::pv_m::(.slice A_m jn_m jc_m)::oCells m_os)::obj g42 37 (clState sx A34 n35 c36)::obj g38 51 (clFrame f A14 n15 c16 A19 n20 c21 A23 n24 c25)::L) (Z:=[14]) (F:=[2,3,8,9]) (pl:=(.q 0 (.q 1 (.q 2 (.q 3 (.q 4 (.q 5 (.q 6 (.q 7 (.q 8 (.q 9 (.q 10 (.q 11 (.q 12 (.q 13 (.e 14 (.q 15 (.q 16 (.q 17 .done))))))))))))))))))) mixed hs112 (fun u hu => hu) (by kernel_rfl) ?_)
 intro w114 hs115
 refine t_st (k:=0) (v:=.pointer (some ⟨g38,0 + 1,none⟩)) rfl rfl (fun w hs => (fa51_1 (.tmp rfl hρ109))) ?_
 refine t_st (k:=1) (v:=.int .i64 f.From) rfl rfl (fun w hs => (ld3 (.tmp rfl rfl) (hs.cell 2 rfl (0 + 1) rfl))) ?_
 refine t_fr (k:=2) (v:=.pointer (some ⟨g_m,0,none⟩)) rfl (fun w _ => (x_move (.tmp rfl hρ108))) ?_
 refine t_fr (k:=3) (v:=.pointer (some ⟨g_m,0,none⟩)) rfl (fun w _ => (x_nilCheck (.tmp rfl rfl))) ?_
 refine t_st (k:=4) (v:=.pointer (some ⟨g_m,0 + 1,none⟩)) rfl rfl (fun w hs => (fa78_1 (.tmp rfl rfl))) ?_
 refine t_st (k:=5) (v:=.int .i64 ((m_self:Nat):Int)) rfl rfl (fun w hs => (ld3 (.tmp rfl rfl) (hs.cell 0 rfl (0 + 1) rfl))) ?_
 refine t_st (k:=6) (v:=.pointer (some ⟨g38,0 + 2,none⟩)) rfl rfl (fun w hs => (fa51_2 (.tmp rfl hρ109))) ?_
 refine t_st (k:=7) (v:=.agg #[.int .u64 ((f.ID.N:Nat):Int),.int .i64 f.ID.P]) rfl rfl (fun w hs => (ld34 (cs:=[.int .u64 ((f.ID.N:Nat):Int),.int .i64 f.ID.P]) (.tmp rfl rfl) (hs.at_ 2 rfl (0 + 2) rfl) rfl)) ?_
 refine t_fr (k:=8) (v:=.pointer (some ⟨g_m,0,none⟩)) rfl (fun w _ => (x_move (.tmp rfl hρ108))) ?_
 refine t_fr (k:=9) (v:=.pointer (some ⟨g_m,0,none⟩)) rfl (fun w _ => (x_nilCheck (.tmp rfl rfl))) ?_
 refine t_st (k:=10) (v:=.pointer (some ⟨g_m,0 + 5,none⟩)) rfl rfl (fun w hs => (fa78_3 (.tmp rfl rfl))) ?_
 refine t_st (k:=11) (v:=.agg #[.int .u64 ((m_prom.N:Nat):Int),.int .i64 m_prom.P]) rfl rfl (fun w hs => (ld34 (cs:=[.int .u64 ((m_prom.N:Nat):Int),.int .i64 m_prom.P]) (.tmp rfl rfl) (hs.at_ 0 rfl (0 + 5) rfl) rfl)) ?_
 refine t_st (k:=12) (v:=.agg #[.int .u8 4,.int .i64 ((m_self:Nat):Int),.int .u64 ((f.ID.N:Nat):Int),.int .i64 f.ID.P,.int .u16 0,.int .u64 0,.int .i64 0,.int .u64 ((m_prom.N:Nat):Int),.int .i64 m_prom.P,.slice none 0 0,.int .u64 0,.slice none 0 0,.slice none 0 0,.int .u64 0,.int .u64 0]) rfl rfl (fun w hs => (bl51 (ps:=[(0,.int .u8 4),(1,.int .i64 ((m_self:Nat):Int)),(2,.agg #[.int .u64 ((f.ID.N:Nat):Int),.int .i64 f.ID.P]),(5,.agg #[.int .u64 ((m_prom.N:Nat):Int),.int .i64 m_prom.P])]) (.cons .const (.cons (.tmp rfl rfl) (.cons (.tmp rfl rfl) (.cons (.tmp rfl rfl) Evp.nil)))) rfl)) ?_
 refine t_st (k:=13) (v:=.agg #[.int .i64 f.From,.int .u8 4,.int .i64 ((m_self:Nat):Int),.int .u64 ((f.ID.N:Nat):Int),.int .i64 f.ID.P,.int .u16 0,.int .u64 0,.int .i64 0,.int .u64 ((m_prom.N:Nat):Int),.int .i64 m_prom.P,.slice none 0 0,.int .u64 0,.slice none 0 0,.slice none 0 0,.int .u64 0,.int .u64 0]) rfl rfl (fun w hs => (bl53 (ps:=[(0,.int .i64 f.From),(1,.agg #[.int .u8 4,.int .i64 ((m_self:Nat):Int),.int .u64 ((f.ID.N:Nat):Int),.int .i64 f.ID.P,.int .u16 0,.int .u64 0,.int .i64 0,.int .u64 ((m_prom.N:Nat):Int),.int .i64 m_prom.P,.slice none 0 0,.int .u64 0,.slice none 0 0,.slice none 0 0,.int .u64 0,.int .u64 0])]) (.cons (.tmp rfl rfl) (.cons (.tmp rfl rfl) Evp.nil)) rfl)) ?_
 refine t_eff (k:=14) rfl ?_
 refine st_m (m_lit (n:=1) (ps:=[(0,.agg #[.int .i64 f.From,.int .u8 4,.int .i64 ((m_self:Nat):Int),.int .u64 ((f.ID.N:Nat):Int),.int .i64 f.ID.P,.int .u16 0,.int .u64 0,.int .i64 0,.int .u64 ((m_prom.N:Nat):Int),.int .i64 m_prom.P,.slice none 0 0,.int .u64 0,.slice none 0 0,.slice none 0 0,.int .u64 0,.int .u64 0])]) (cs:=[.int .i64 f.From,.int .u8 4,.int .i64 ((m_self:Nat):Int),.int .u64 ((f.ID.N:Nat):Int),.int .i64 f.ID.P,.int .u16 0,.int .u64 0,.int .i64 0,.int .u64 ((m_prom.N:Nat):Int),.int .i64 m_prom.P,.slice none 0 0,.int .u64 0,.slice none 0 0,.slice none 0 0,.int .u64 0,.int .u64 0]) Tryd.underlying27 inf53 (.cons (.tmp rfl rfl) Evp.nil) (by decide) (by decide) rfl rfl hs115) ?_
 rintro _ w117 ⟨g116,rfl,hs119⟩
 refine t_new (S':=fun u => St H u (obj g116 53 [.int .i64 f.From,.int .u8 4,.int .i64 ((m_self:Nat):Int),.int .u64 ((f.ID.N:Nat):Int),.int .i64 f.ID.P,.int .u16 0,.int .u64 0,.int .i64 0,.int .u64 ((m_prom.N:Nat):Int),.int .i64 m_prom.P,.slice none 0 0,.int .u64 0,.slice none 0 0,.slice none 0 0,.int .u64 0,.int .u64 0]::obj g_m 78 ((.int .i64 ((m_n:Nat):Int))::(.int .i64 ((m_self:Nat):Int))::(.int .u64 ((m_cur.ID.N:Nat):Int))::(.int .i64 m_cur.ID.P)::(.int .u16 ((m_cur.Set:Nat):Int))::(.int .u64 ((m_prom.N:Nat):Int))::(.int .i64 m_prom.P)::(.int .u64 (((max m_high f.ID.N):Nat):Int))::pv_m::(.slice A_m jn_m jc_m)::oCells m_os)::obj g42 37 (clState sx A34 n35 c36)::obj g38 51 (clFrame f A14 n15 c16 A19 n20 c21 A23 n24 c25)::L)) rfl hs119 ?_
 refine t_st (k:=15) (v:=.slice (some ⟨g116,0,none⟩) 1 1) rfl rfl (fun w hs => (x_assign (.tmp rfl rfl))) ?_
 refine t_st (k:=16) (v:=.pointer none) rfl rfl (fun w hs => (x_assign .const)) ?_
 refine t_st (k:=17) (v:=.int .i64 9) rfl rfl (fun w hs => (x_assign .const)) ?_
 refine t_nil ?_
 refine n_then (c_ret (r_block (r_then (leave_ret (res_three (v:=.slice (some ⟨g116,0,none⟩) 1 1) (u:=.pointer none) (x:=.int .i64 9) rfl (.mk rfl rfl) (.mk rfl rfl) (.mk rfl rfl)) ?_))))
 have hr124:kOut.rep H (GOut.mk f.From (GFrame.mk 4 ((m_self:Nat):Int) f.ID 0 (GViewID.mk 0 0) m_prom [] 0 [] [] 0 0)) [.int .i64 f.From,.int .u8 4,.int .i64 ((m_self:Nat):Int),.int .u64 ((f.ID.N:Nat):Int),.int .i64 f.ID.P,.int .u16 0,.int .u64 0,.int .i64 0,.int .u64 ((m_prom.N:Nat):Int),.int .i64 m_prom.P,.slice none 0 0,.int .u64 0,.slice none 0 0,.slice none 0 0,.int .u64 0,.int .u64 0]:=⟨none,0,0,none,0,0,none,0,0,rfl,⟨b2,b3⟩,(show 4 < 256 from by omega),(show IB ((m_self:Nat):Int) from ⟨by omega,by omega⟩),b4,⟨b5,b6⟩,(show 0 < 65536 from by omega),(show 0 < 18446744073709551616 from by omega),(show IB 0 from ⟨by omega,by omega⟩),okm75.prom.n,okm75.prom.p,(Sl.nil _ _ none),(show 0 < 18446744073709551616 from by omega),(Sl.nil _ _ none),(Sl.nil _ _ none),(show 0 < 18446744073709551616 from by omega),(show 0 < 18446744073709551616 from by omega)⟩
 obtain ⟨hs121,ok122⟩:=hs119.rowOfObj (n:=1) (size:=kOut.sz) rfl (by decide)
 have hk123:kOut.toKn.rows H [(GOut.mk f.From (GFrame.mk 4 ((m_self:Nat):Int) f.ID 0 (GViewID.mk 0 0) m_prom [] 0 [] [] 0 0))] [.int .i64 f.From,.int .u8 4,.int .i64 ((m_self:Nat):Int),.int .u64 ((f.ID.N:Nat):Int),.int .i64 f.ID.P,.int .u16 0,.int .u64 0,.int .i64 0,.int .u64 ((m_prom.N:Nat):Int),.int .i64 m_prom.P,.slice none 0 0,.int .u64 0,.slice none 0 0,.slice none 0 0,.int .u64 0,.int .u64 0]:=Kn.rows_one hr124
 have:([(GOut.mk f.From (GFrame.mk 4 ((m_self:Nat):Int) f.ID 0 (GViewID.mk 0 0) m_prom [] 0 [] [] 0 0))]:List GOut).length = 1:=rfl
 have hs125:St H _ (row 53 16 (.slice (some ⟨g116,0,none⟩) 1 1) (([(GOut.mk f.From (GFrame.mk 4 ((m_self:Nat):Int) f.ID 0 (GViewID.mk 0 0) m_prom [] 0 [] [] 0 0))]:List GOut).length) [.int .i64 f.From,.int .u8 4,.int .i64 ((m_self:Nat):Int),.int .u64 ((f.ID.N:Nat):Int),.int .i64 f.ID.P,.int .u16 0,.int .u64 0,.int .i64 0,.int .u64 ((m_prom.N:Nat):Int),.int .i64 m_prom.P,.slice none 0 0,.int .u64 0,.slice none 0 0,.slice none 0 0,.int .u64 0,.int .u64 0]::obj g_m 78 ((.int .i64 ((m_n:Nat):Int))::(.int .i64 ((m_self:Nat):Int))::(.int .u64 ((m_cur.ID.N:Nat):Int))::(.int .i64 m_cur.ID.P)::(.int .u16 ((m_cur.Set:Nat):Int))::(.int .u64 ((m_prom.N:Nat):Int))::(.int .i64 m_prom.P)::(.int .u64 (((max m_high f.ID.N):Nat):Int))::pv_m::(.slice A_m jn_m jc_m)::oCells m_os)::obj g42 37 (clState sx A34 n35 c36)::obj g38 51 (clFrame f A14 n15 c16 A19 n20 c21 A23 n24 c25)::L):=hs121
 have hpq:(MB.propose (MB.mk m_n m_self m_cur m_prom m_high m_prop m_jl m_os) f sx) = _:=prop_old hc66 hc77 hc113
 rw [hpq]
 have okm126:MemB H m_n m_self m_cur m_prom (max m_high f.ID.N) A_m jn_m jc_m m_jl m_os:=⟨hn1_m,hn16_m,hsf_m,⟨okm75.cur.n,okm75.cur.p⟩,okm75.set,⟨okm75.prom.n,okm75.prom.p⟩,okm75.high,okm75.joined,okm75.len,okm75.oth⟩
 exact ⟨H,(.slice (some ⟨g116,0,none⟩) 1 1),[.int .i64 f.From,.int .u8 4,.int .i64 ((m_self:Nat):Int),.int .u64 ((f.ID.N:Nat):Int),.int .i64 f.ID.P,.int .u16 0,.int .u64 0,.int .i64 0,.int .u64 ((m_prom.N:Nat):Int),.int .i64 m_prom.P,.slice none 0 0,.int .u64 0,.slice none 0 0,.slice none 0 0,.int .u64 0,.int .u64 0],m_prom,(max m_high f.ID.N),(Hp.le.refl _),rfl,ok122,hk123,okm126,rfl,((((hs125.p2).drop.p2).drop.p1).p1)⟩
 have hp113:¬ ((¬ (f.ID = m_prom)) ∨ (m_cur.ID = f.ID)):=J_no (J_or (J_not decide_eq_true_iff) decide_eq_true_iff) hc113
 refine c_cond_f (t:=false) (.tmp rfl (cVb hc113)) rfl ?_
 refine c_skip (n_block (n_then (c_seq (t_region (L:=obj g_m 78 ((.int .i64 ((m_n:Nat):Int))::(.int .i64 ((m_self:Nat):Int))::(.int .u64 ((m_cur.ID.N:Nat):Int))::(.int .i64 m_cur.ID.P)::(.int .u16 ((m_cur.Set:Nat):Int))::(.int .u64 ((m_prom.N:Nat):Int))::(.int .i64 m_prom.P)::(.int .u64 (((max m_high f.ID.N):Nat):Int))::pv_m::(.slice A_m jn_m jc_m)::oCells m_os)::obj g42 37 (clState sx A34 n35 c36)::obj g38 51 (clFrame f A14 n15 c16 A19 n20 c21 A23 n24 c25)::L) (L':=obj g_m 78 ((.int .i64 ((m_n:Nat):Int))::(.int .i64 ((m_self:Nat):Int))::(.int .u64 ((m_cur.ID.N:Nat):Int))::(.int .i64 m_cur.ID.P)::(.int .u16 ((m_cur.Set:Nat):Int))::(.int .u64 ((m_prom.N:Nat):Int))::(.int .i64 m_prom.P)::(.int .u64 (((max m_high f.ID.N):Nat):Int))::pv_m::(.slice A_m jn_m jc_m)::oCells m_os)::obj g42 37 (clState sx A34 n35 c36)::obj g38 51 (clFrame f A14 n15 c16 A19 n20 c21 A23 n24 c25)::L) (Z:=[12]) (F:=[2,3]) (pl:=(.q 0 (.q 1 (.q 2 (.q 3 (.q 4 (.q 5 (.q 6 (.q 7 (.q 8 (.e 9 (.q 10 (.q 11 (.e 12 (.q 13 (.q 14 (.q 15 .done))))))))))))))))) mixed hs112 (fun u hu => hu) (by kernel_rfl) ?_))))
 intro w127 hs128
 refine t_st (k:=0) (v:=.pointer (some ⟨g38,0 + 1,none⟩)) rfl rfl (fun w hs => (fa51_1 (.tmp rfl hρ109))) ?_
 refine t_st (k:=1) (v:=.int .i64 f.From) rfl rfl (fun w hs => (ld3 (.tmp rfl rfl) (hs.cell 2 rfl (0 + 1) rfl))) ?_
 refine t_fr (k:=2) (v:=.pointer (some ⟨g_m,0,none⟩)) rfl (fun w _ => (x_move (.tmp rfl hρ108))) ?_
 refine t_fr (k:=3) (v:=.pointer (some ⟨g_m,0,none⟩)) rfl (fun w _ => (x_nilCheck (.tmp rfl rfl))) ?_
 refine t_st (k:=4) (v:=.pointer (some ⟨g_m,0 + 1,none⟩)) rfl rfl (fun w hs => (fa78_1 (.tmp rfl rfl))) ?_
 refine t_st (k:=5) (v:=.int .i64 ((m_self:Nat):Int)) rfl rfl (fun w hs => (ld3 (.tmp rfl rfl) (hs.cell 0 rfl (0 + 1) rfl))) ?_
 refine t_st (k:=6) (v:=.pointer (some ⟨g38,0 + 2,none⟩)) rfl rfl (fun w hs => (fa51_2 (.tmp rfl hρ109))) ?_
 refine t_st (k:=7) (v:=.agg #[.int .u64 ((f.ID.N:Nat):Int),.int .i64 f.ID.P]) rfl rfl (fun w hs => (ld34 (cs:=[.int .u64 ((f.ID.N:Nat):Int),.int .i64 f.ID.P]) (.tmp rfl rfl) (hs.at_ 2 rfl (0 + 2) rfl) rfl)) ?_
 refine t_st (k:=8) (v:=.agg #[.int .u64 ((sx.V.N:Nat):Int),.int .i64 sx.V.P,.int .i64 sx.Floor,.slice A34 n35 c36]) rfl rfl (fun w hs => (ld37 (cs:=[.int .u64 ((sx.V.N:Nat):Int),.int .i64 sx.V.P,.int .i64 sx.Floor,.slice A34 n35 c36]) (.tmp rfl hρ110) (hs.at_ 1 rfl (0) rfl) rfl)) ?_
 refine t_eff (k:=9) rfl ?_
 refine st_m (m_lit (n:=1) (ps:=[(0,.agg #[.int .u64 ((sx.V.N:Nat):Int),.int .i64 sx.V.P,.int .i64 sx.Floor,.slice A34 n35 c36])]) (cs:=[.int .u64 ((sx.V.N:Nat):Int),.int .i64 sx.V.P,.int .i64 sx.Floor,.slice A34 n35 c36]) Tryd.underlying40 inf37 (.cons (.tmp rfl rfl) Evp.nil) (by decide) (by decide) rfl rfl hs128) ?_
 rintro _ w130 ⟨g129,rfl,hs132⟩
 refine t_on (S':=fun u => St H u (obj g129 37 (clState sx A34 n35 c36)::obj g_m 78 ((.int .i64 ((m_n:Nat):Int))::(.int .i64 ((m_self:Nat):Int))::(.int .u64 ((m_cur.ID.N:Nat):Int))::(.int .i64 m_cur.ID.P)::(.int .u16 ((m_cur.Set:Nat):Int))::(.int .u64 ((m_prom.N:Nat):Int))::(.int .i64 m_prom.P)::(.int .u64 (((max m_high f.ID.N):Nat):Int))::pv_m::(.slice A_m jn_m jc_m)::oCells m_os)::obj g42 37 (clState sx A34 n35 c36)::obj g38 51 (clFrame f A14 n15 c16 A19 n20 c21 A23 n24 c25)::L)) (fun u hu => hu.drop) hs132 ?_
 refine t_st (k:=10) (v:=.agg #[.int .u8 3,.int .i64 ((m_self:Nat):Int),.int .u64 ((f.ID.N:Nat):Int),.int .i64 f.ID.P,.int .u16 0,.int .u64 0,.int .i64 0,.int .u64 0,.int .i64 0,.slice (some ⟨g129,0,none⟩) 1 1,.int .u64 0,.slice none 0 0,.slice none 0 0,.int .u64 0,.int .u64 0]) rfl rfl (fun w hs => (bl51 (ps:=[(0,.int .u8 3),(1,.int .i64 ((m_self:Nat):Int)),(2,.agg #[.int .u64 ((f.ID.N:Nat):Int),.int .i64 f.ID.P]),(6,.slice (some ⟨g129,0,none⟩) 1 1)]) (.cons .const (.cons (.tmp rfl rfl) (.cons (.tmp rfl rfl) (.cons (.tmp rfl rfl) Evp.nil)))) rfl)) ?_
 refine t_st (k:=11) (v:=.agg #[.int .i64 f.From,.int .u8 3,.int .i64 ((m_self:Nat):Int),.int .u64 ((f.ID.N:Nat):Int),.int .i64 f.ID.P,.int .u16 0,.int .u64 0,.int .i64 0,.int .u64 0,.int .i64 0,.slice (some ⟨g129,0,none⟩) 1 1,.int .u64 0,.slice none 0 0,.slice none 0 0,.int .u64 0,.int .u64 0]) rfl rfl (fun w hs => (bl53 (ps:=[(0,.int .i64 f.From),(1,.agg #[.int .u8 3,.int .i64 ((m_self:Nat):Int),.int .u64 ((f.ID.N:Nat):Int),.int .i64 f.ID.P,.int .u16 0,.int .u64 0,.int .i64 0,.int .u64 0,.int .i64 0,.slice (some ⟨g129,0,none⟩) 1 1,.int .u64 0,.slice none 0 0,.slice none 0 0,.int .u64 0,.int .u64 0])]) (.cons (.tmp rfl rfl) (.cons (.tmp rfl rfl) Evp.nil)) rfl)) ?_
 refine t_eff (k:=12) rfl ?_
 have hr138:kState.rep H sx [.int .u64 ((sx.V.N:Nat):Int),.int .i64 sx.V.P,.int .i64 sx.Floor,.slice A34 n35 c36]:=⟨A34,n35,c36,rfl,b29,⟨b30,b31⟩,⟨b32,b33⟩,hl37⟩
 have hk139:kState.toKn.rows H [sx] [.int .u64 ((sx.V.N:Nat):Int),.int .i64 sx.V.P,.int .i64 sx.Floor,.slice A34 n35 c36]:=Kn.rows_one hr138
 obtain ⟨H133,hle134,hs135,rd136,hb137⟩:=hs132.freezeObj
 have sp140:Sl kState H133 ((some ⟨g129,0,none⟩)) 1 1 [sx]:=⟨⟨_,rd136,Kn.rows_mono hk139 hle134⟩,rfl,Nat.le_refl _,by decide,by decide⟩
 refine st_m (m_lit (n:=1) (ps:=[(0,.agg #[.int .i64 f.From,.int .u8 3,.int .i64 ((m_self:Nat):Int),.int .u64 ((f.ID.N:Nat):Int),.int .i64 f.ID.P,.int .u16 0,.int .u64 0,.int .i64 0,.int .u64 0,.int .i64 0,.slice (some ⟨g129,0,none⟩) 1 1,.int .u64 0,.slice none 0 0,.slice none 0 0,.int .u64 0,.int .u64 0])]) (cs:=[.int .i64 f.From,.int .u8 3,.int .i64 ((m_self:Nat):Int),.int .u64 ((f.ID.N:Nat):Int),.int .i64 f.ID.P,.int .u16 0,.int .u64 0,.int .i64 0,.int .u64 0,.int .i64 0,.slice (some ⟨g129,0,none⟩) 1 1,.int .u64 0,.slice none 0 0,.slice none 0 0,.int .u64 0,.int .u64 0]) Tryd.underlying27 inf53 (.cons (.tmp rfl rfl) Evp.nil) (by decide) (by decide) rfl rfl hs135) ?_
 rintro _ w142 ⟨g141,rfl,hs144⟩
 refine t_new (S':=fun u => St H133 u (obj g141 53 [.int .i64 f.From,.int .u8 3,.int .i64 ((m_self:Nat):Int),.int .u64 ((f.ID.N:Nat):Int),.int .i64 f.ID.P,.int .u16 0,.int .u64 0,.int .i64 0,.int .u64 0,.int .i64 0,.slice (some ⟨g129,0,none⟩) 1 1,.int .u64 0,.slice none 0 0,.slice none 0 0,.int .u64 0,.int .u64 0]::obj g_m 78 ((.int .i64 ((m_n:Nat):Int))::(.int .i64 ((m_self:Nat):Int))::(.int .u64 ((m_cur.ID.N:Nat):Int))::(.int .i64 m_cur.ID.P)::(.int .u16 ((m_cur.Set:Nat):Int))::(.int .u64 ((m_prom.N:Nat):Int))::(.int .i64 m_prom.P)::(.int .u64 (((max m_high f.ID.N):Nat):Int))::pv_m::(.slice A_m jn_m jc_m)::oCells m_os)::obj g42 37 (clState sx A34 n35 c36)::obj g38 51 (clFrame f A14 n15 c16 A19 n20 c21 A23 n24 c25)::L)) rfl hs144 ?_
 refine t_st (k:=13) (v:=.slice (some ⟨g141,0,none⟩) 1 1) rfl rfl (fun w hs => (x_assign (.tmp rfl rfl))) ?_
 refine t_st (k:=14) (v:=.pointer none) rfl rfl (fun w hs => (x_assign .const)) ?_
 refine t_st (k:=15) (v:=.int .i64 0) rfl rfl (fun w hs => (x_assign .const)) ?_
 refine t_nil ?_
 refine n_then (c_ret (leave_ret (res_three (v:=.slice (some ⟨g141,0,none⟩) 1 1) (u:=.pointer none) (x:=.int .i64 0) rfl (.mk rfl rfl) (.mk rfl rfl) (.mk rfl rfl)) ?_))
 have hr149:kOut.rep H133 (GOut.mk f.From (GFrame.mk 3 ((m_self:Nat):Int) f.ID 0 (GViewID.mk 0 0) (GViewID.mk 0 0) [sx] 0 [] [] 0 0)) [.int .i64 f.From,.int .u8 3,.int .i64 ((m_self:Nat):Int),.int .u64 ((f.ID.N:Nat):Int),.int .i64 f.ID.P,.int .u16 0,.int .u64 0,.int .i64 0,.int .u64 0,.int .i64 0,.slice (some ⟨g129,0,none⟩) 1 1,.int .u64 0,.slice none 0 0,.slice none 0 0,.int .u64 0,.int .u64 0]:=⟨(some ⟨g129,0,none⟩),1,1,none,0,0,none,0,0,rfl,⟨b2,b3⟩,(show 3 < 256 from by omega),(show IB ((m_self:Nat):Int) from ⟨by omega,by omega⟩),b4,⟨b5,b6⟩,(show 0 < 65536 from by omega),(show 0 < 18446744073709551616 from by omega),(show IB 0 from ⟨by omega,by omega⟩),(show 0 < 18446744073709551616 from by omega),(show IB 0 from ⟨by omega,by omega⟩),sp140,(show 0 < 18446744073709551616 from by omega),(Sl.nil _ _ none),(Sl.nil _ _ none),(show 0 < 18446744073709551616 from by omega),(show 0 < 18446744073709551616 from by omega)⟩
 obtain ⟨hs146,ok147⟩:=hs144.rowOfObj (n:=1) (size:=kOut.sz) rfl (by decide)
 have hk148:kOut.toKn.rows H133 [(GOut.mk f.From (GFrame.mk 3 ((m_self:Nat):Int) f.ID 0 (GViewID.mk 0 0) (GViewID.mk 0 0) [sx] 0 [] [] 0 0))] [.int .i64 f.From,.int .u8 3,.int .i64 ((m_self:Nat):Int),.int .u64 ((f.ID.N:Nat):Int),.int .i64 f.ID.P,.int .u16 0,.int .u64 0,.int .i64 0,.int .u64 0,.int .i64 0,.slice (some ⟨g129,0,none⟩) 1 1,.int .u64 0,.slice none 0 0,.slice none 0 0,.int .u64 0,.int .u64 0]:=Kn.rows_one hr149
 have:([(GOut.mk f.From (GFrame.mk 3 ((m_self:Nat):Int) f.ID 0 (GViewID.mk 0 0) (GViewID.mk 0 0) [sx] 0 [] [] 0 0))]:List GOut).length = 1:=rfl
 have hs150:St H133 _ (row 53 16 (.slice (some ⟨g141,0,none⟩) 1 1) (([(GOut.mk f.From (GFrame.mk 3 ((m_self:Nat):Int) f.ID 0 (GViewID.mk 0 0) (GViewID.mk 0 0) [sx] 0 [] [] 0 0))]:List GOut).length) [.int .i64 f.From,.int .u8 3,.int .i64 ((m_self:Nat):Int),.int .u64 ((f.ID.N:Nat):Int),.int .i64 f.ID.P,.int .u16 0,.int .u64 0,.int .i64 0,.int .u64 0,.int .i64 0,.slice (some ⟨g129,0,none⟩) 1 1,.int .u64 0,.slice none 0 0,.slice none 0 0,.int .u64 0,.int .u64 0]::obj g_m 78 ((.int .i64 ((m_n:Nat):Int))::(.int .i64 ((m_self:Nat):Int))::(.int .u64 ((m_cur.ID.N:Nat):Int))::(.int .i64 m_cur.ID.P)::(.int .u16 ((m_cur.Set:Nat):Int))::(.int .u64 ((m_prom.N:Nat):Int))::(.int .i64 m_prom.P)::(.int .u64 (((max m_high f.ID.N):Nat):Int))::pv_m::(.slice A_m jn_m jc_m)::oCells m_os)::obj g42 37 (clState sx A34 n35 c36)::obj g38 51 (clFrame f A14 n15 c16 A19 n20 c21 A23 n24 c25)::L):=hs146
 have hpq:(MB.propose (MB.mk m_n m_self m_cur m_prom m_high m_prop m_jl m_os) f sx) = _:=prop_same hc66 hc77 hc113
 rw [hpq]
 have okm151:MemB H133 m_n m_self m_cur m_prom (max m_high f.ID.N) A_m jn_m jc_m m_jl m_os:=⟨hn1_m,hn16_m,hsf_m,⟨okm75.cur.n,okm75.cur.p⟩,okm75.set,⟨okm75.prom.n,okm75.prom.p⟩,okm75.high,(okm75.joined.mono hle134),okm75.len,okm75.oth⟩
 exact ⟨H133,(.slice (some ⟨g141,0,none⟩) 1 1),[.int .i64 f.From,.int .u8 3,.int .i64 ((m_self:Nat):Int),.int .u64 ((f.ID.N:Nat):Int),.int .i64 f.ID.P,.int .u16 0,.int .u64 0,.int .i64 0,.int .u64 0,.int .i64 0,.slice (some ⟨g129,0,none⟩) 1 1,.int .u64 0,.slice none 0 0,.slice none 0 0,.int .u64 0,.int .u64 0],m_prom,(max m_high f.ID.N),hle134,rfl,ok147,hk148,okm151,rfl,((((hs150.p2).drop.p2).drop.p1).p1)⟩
end Go.Proofs.YtcccaihjgoaehaaDoor

set_option linter.unusedVariables false
set_option linter.unusedSimpArgs false
namespace Go.Proofs.YtcccaihjgoaehaaDoor
open Go Go.FM Go.Proofs
attribute [local irreducible] wpList wpQuiet wpS Code.wp Calls
set_option maxHeartbeats 8000000 in
theorem accept_N {H:Hp} {w:World} {L:List Res} {g_m m_n m_self m_high:Nat} {m_cur:GView} {m_prom:GViewID} {m_jl:List GState} {m_os:List (GViewID × GViewID)} {A_m:Option Addr} {jn_m jc_m:Nat} (hs:St H w (obj g_m 78 ((.int .i64 ((m_n:Nat):Int))::(.int .i64 ((m_self:Nat):Int))::(.int .u64 ((m_cur.ID.N:Nat):Int))::(.int .i64 m_cur.ID.P)::(.int .u16 ((m_cur.Set:Nat):Int))::(.int .u64 ((m_prom.N:Nat):Int))::(.int .i64 m_prom.P)::(.int .u64 ((m_high:Nat):Int))::(.pointer none)::(.slice A_m jn_m jc_m)::oCells m_os)::L)) (ok_m:MemB H m_n m_self m_cur m_prom m_high A_m jn_m jc_m m_jl m_os) (f:GFrame) {k_f:List Value} (h_f:kFrame.rep H f k_f):Calls Tryd.prog 32 #[.pointer (some ⟨g_m,0,none⟩),.agg k_f.toArray] w (fun e w' => ∃ (H':Hp) (v0:Value) (cs0:List Value) (iv1:Value),H.le H'∧e = .returned (.tuple #[v0,iv1,.int .i64 ((MB.accept (MB.mk m_n m_self m_cur m_prom m_high none m_jl m_os) f).2.2.2)])∧RowOk kOut.sz v0 ((MB.accept (MB.mk m_n m_self m_cur m_prom m_high none m_jl m_os) f).2.1).length cs0∧kOut.toKn.rows H' ((MB.accept (MB.mk m_n m_self m_cur m_prom m_high none m_jl m_os) f).2.1) cs0∧InstAt H' ((MB.accept (MB.mk m_n m_self m_cur m_prom m_high none m_jl m_os) f).2.2.1) iv1∧MemB H' m_n m_self m_cur m_prom m_high A_m jn_m jc_m m_jl m_os∧(MB.mk m_n m_self m_cur m_prom m_high none m_jl m_os) = (MB.accept (MB.mk m_n m_self m_cur m_prom m_high none m_jl m_os) f).1∧St H' w' (row 53 kOut.sz v0 ((MB.accept (MB.mk m_n m_self m_cur m_prom m_high none m_jl m_os) f).2.1).length cs0::obj g_m 78 ((.int .i64 ((m_n:Nat):Int))::(.int .i64 ((m_self:Nat):Int))::(.int .u64 ((m_cur.ID.N:Nat):Int))::(.int .i64 m_cur.ID.P)::(.int .u16 ((m_cur.Set:Nat):Int))::(.int .u64 ((m_prom.N:Nat):Int))::(.int .i64 m_prom.P)::(.int .u64 ((m_high:Nat):Int))::(.pointer none)::(.slice A_m jn_m jc_m)::oCells m_os)::L)):=by
 have hn1_m:1 ≤ m_n:=ok_m.n1
 have hn16_m:m_n ≤ 16:=ok_m.n16
 have hsf_m:m_self < m_n:=ok_m.self
 have hol_m:m_os.length = 16:=ok_m.len
 have hhi_m:m_high < 18446744073709551616:=ok_m.high
 obtain ⟨A14,n15,c16,A19,n20,c21,A23,n24,c25,rfl,b1,⟨b2,b3⟩,b4,⟨b5,b6⟩,b7,b8,⟨b9,b10⟩,b11,⟨b12,b13⟩,hl17,b18,hl22,hl26,b27,b28⟩:=h_f
 have:=hl17.len; have:n15 * 48 ≤ 140737488351232:=hl17.bnd; have:=hl17.le
 have:=hl22.len; have:n20 * 24 ≤ 140737488351232:=hl22.bnd; have:=hl22.le
 have:=hl26.len; have:n24 * 32 ≤ 140737488351232:=hl26.bnd; have:=hl26.le
 refine enter (args:=[.pointer (some ⟨g_m,0,none⟩),.agg #[.int .u8 ((f.Kind:Nat):Int),.int .i64 f.From,.int .u64 ((f.ID.N:Nat):Int),.int .i64 f.ID.P,.int .u16 ((f.Set:Nat):Int),.int .u64 ((f.Cur.N:Nat):Int),.int .i64 f.Cur.P,.int .u64 ((f.Prom.N:Nat):Int),.int .i64 f.Prom.P,.slice A14 n15 c16,.int .u64 ((f.Base:Nat):Int),.slice A19 n20 c21,.slice A23 n24 c25,.int .u64 ((f.Ack:Nat):Int),.int .u64 ((f.Safe:Nat):Int)]]) (N:=121) Tryd.func32 rfl rfl rfl ?_
 refine c_seq (c_region (st_m (m_box (cs:=[.int .u8 ((f.Kind:Nat):Int),.int .i64 f.From,.int .u64 ((f.ID.N:Nat):Int),.int .i64 f.ID.P,.int .u16 ((f.Set:Nat):Int),.int .u64 ((f.Cur.N:Nat):Int),.int .i64 f.Cur.P,.int .u64 ((f.Prom.N:Nat):Int),.int .i64 f.Prom.P,.slice A14 n15 c16,.int .u64 ((f.Base:Nat):Int),.slice A19 n20 c21,.slice A23 n24 c25,.int .u64 ((f.Ack:Nat):Int),.int .u64 ((f.Safe:Nat):Int)]) hs (v:=.agg #[.int .u8 ((f.Kind:Nat):Int),.int .i64 f.From,.int .u64 ((f.ID.N:Nat):Int),.int .i64 f.ID.P,.int .u16 ((f.Set:Nat):Int),.int .u64 ((f.Cur.N:Nat):Int),.int .i64 f.Cur.P,.int .u64 ((f.Prom.N:Nat):Int),.int .i64 f.Prom.P,.slice A14 n15 c16,.int .u64 ((f.Base:Nat):Int),.slice A19 n20 c21,.slice A23 n24 c25,.int .u64 ((f.Ack:Nat):Int),.int .u64 ((f.Safe:Nat):Int)]) (.tmp rfl rfl) rfl) ?_))
 rintro _ w30 ⟨g29,rfl,hs32⟩
 refine st (v:=.slice none 0 0) (x_assign .const) ?_
 refine st (v:=.pointer none) (x_assign .const) ?_
 refine st (v:=.int .i64 0) (x_assign .const) ?_
 refine c_nil (n_then (c_seq (c_region (st (v:=.pointer (some ⟨g_m,0,none⟩)) (x_move (.tmp rfl rfl)) ?_))))
 refine st (v:=.pointer (some ⟨g_m,0,none⟩)) (x_nilCheck (.tmp rfl rfl)) ?_
 refine st (v:=.pointer (some ⟨g_m,0 + 8,none⟩)) (fa78_5 (.tmp rfl rfl)) ?_
 refine st (v:=.pointer none) (ld75 (.tmp rfl rfl) (hs32.cell 1 rfl (0 + 8) rfl)) ?_
 refine st (v:=.pointer none) (x_assign (.tmp rfl rfl)) ?_
 refine c_nil (n_then (c_seq (c_seq (q_region mixed hs32 (by kernel_rfl) ?_))))
 refine q_st (v:=.pointer none) (fun w hs => (x_move (.tmp rfl rfl))) ?_
 refine q_st (v:=.bool true) (fun w hs => (x_eqlP Tryd.underlying75 (.tmp rfl rfl) .const rfl)) ?_
 refine q_st (v:=.bool true) (fun w hs => (x_move (.tmp rfl rfl))) ?_
 refine q_no (yl (dj:=18) (b:=true) rfl rfl rfl) rfl ?_
 refine q_no (yl (dj:=18) (b:=true) rfl rfl rfl) rfl ?_
 refine q_no (yl (dj:=18) (b:=true) rfl rfl rfl) rfl ?_
 refine q_no (yl (dj:=18) (b:=true) rfl rfl rfl) rfl ?_
 refine q_st (v:=.bool true) (fun w hs => (x_pick_t (.tmp rfl rfl) .const)) ?_
 refine q_st (v:=.bool true) (fun w hs => (x_move (.tmp rfl rfl))) ?_
 refine q_no (yl (dj:=24) (b:=true) rfl rfl rfl) rfl ?_
 refine q_no (yl (dj:=24) (b:=true) rfl rfl rfl) rfl ?_
 refine q_no (yl (dj:=24) (b:=true) rfl rfl rfl) rfl ?_
 refine q_no (yl (dj:=24) (b:=true) rfl rfl rfl) rfl ?_
 refine q_no (yl (dj:=24) (b:=true) rfl rfl rfl) rfl ?_
 refine q_no (yl (dj:=24) (b:=true) rfl rfl rfl) rfl ?_
 refine q_no (yl (dj:=24) (b:=true) rfl rfl rfl) rfl ?_
 refine q_no (yl (dj:=24) (b:=true) rfl rfl rfl) rfl ?_
 refine q_st (v:=.bool true) (fun w hs => (x_pick_t (.tmp rfl rfl) .const)) ?_
 refine q_st (v:=.bool true) (fun w hs => (x_move (.tmp rfl rfl))) ?_
 refine q_no (yl (dj:=34) (b:=true) rfl rfl rfl) rfl ?_
 refine q_no (yl (dj:=34) (b:=true) rfl rfl rfl) rfl ?_
 refine q_no (yl (dj:=34) (b:=true) rfl rfl rfl) rfl ?_
 refine q_no (yl (dj:=34) (b:=true) rfl rfl rfl) rfl ?_
 refine q_no (yl (dj:=34) (b:=true) rfl rfl rfl) rfl ?_
 refine q_no (yl (dj:=34) (b:=true) rfl rfl rfl) rfl ?_
 refine q_no (yl (dj:=34) (b:=true) rfl rfl rfl) rfl ?_
 refine q_st (v:=.bool true) (fun w hs => (x_pick_t (.tmp rfl rfl) .const)) ?_
 refine q_st (v:=.bool true) (fun w hs => (x_move (.tmp rfl rfl))) ?_
 refine q_no (yl (dj:=43) (b:=true) rfl rfl rfl) rfl ?_
 refine q_no (yl (dj:=43) (b:=true) rfl rfl rfl) rfl ?_
 refine q_no (yl (dj:=43) (b:=true) rfl rfl rfl) rfl ?_
 refine q_no (yl (dj:=43) (b:=true) rfl rfl rfl) rfl ?_
 refine q_no (yl (dj:=43) (b:=true) rfl rfl rfl) rfl ?_
 refine q_no (yl (dj:=43) (b:=true) rfl rfl rfl) rfl ?_
 refine q_no (yl (dj:=43) (b:=true) rfl rfl rfl) rfl ?_
 refine q_no (yl (dj:=43) (b:=true) rfl rfl rfl) rfl ?_
 refine q_no (yl (dj:=43) (b:=true) rfl rfl rfl) rfl ?_
 refine q_st (v:=.bool true) (fun w hs => (x_pick_t (.tmp rfl rfl) .const)) ?_
 refine q_st (v:=.bool true) (fun w hs => (x_move (.tmp rfl rfl))) ?_
 refine q_no (yl (dj:=54) (b:=true) rfl rfl rfl) rfl ?_
 refine q_no (yl (dj:=54) (b:=true) rfl rfl rfl) rfl ?_
 refine q_no (yl (dj:=54) (b:=true) rfl rfl rfl) rfl ?_
 refine q_no (yl (dj:=54) (b:=true) rfl rfl rfl) rfl ?_
 refine q_no (yl (dj:=54) (b:=true) rfl rfl rfl) rfl ?_
 refine q_no (yl (dj:=54) (b:=true) rfl rfl rfl) rfl ?_
 refine q_no (yl (dj:=54) (b:=true) rfl rfl rfl) rfl ?_
 refine q_st (v:=.bool true) (fun w hs => (x_pick_t (.tmp rfl rfl) .const)) ?_
 refine q_st (v:=.bool true) (fun w hs => (x_move (.tmp rfl rfl))) ?_
 refine q_no (yl (dj:=63) (b:=true) rfl rfl rfl) rfl ?_
 refine q_no (yl (dj:=63) (b:=true) rfl rfl rfl) rfl ?_
 refine q_no (yl (dj:=63) (b:=true) rfl rfl rfl) rfl ?_
 refine q_no (yl (dj:=63) (b:=true) rfl rfl rfl) rfl ?_
 refine q_st (v:=.bool true) (fun w hs => (x_pick_t (.tmp rfl rfl) .const)) ?_
 refine q_nil ?_
 intro w hs33
 refine n_then (c_cond_t (t:=true) (.tmp rfl rfl) rfl ?_)
 refine c_seq (c_region (st (v:=.slice none 0 0) (x_assign .const) ?_))
 refine st (v:=.pointer none) (x_assign .const) ?_
 refine st (v:=.int .i64 9) (x_assign .const) ?_
 refine c_nil (n_then (c_ret (r_then (leave_ret (res_three (v:=.slice none 0 0) (u:=.pointer none) (x:=.int .i64 9) rfl (.mk rfl rfl) (.mk rfl rfl) (.mk rfl rfl)) ?_))))
 have hpq:(MB.accept (MB.mk m_n m_self m_cur m_prom m_high none m_jl m_os) f) = _:=rfl
 rw [hpq]
 have hs34:=hs33.krowNil 53 kOut
 have okm36:MemB H m_n m_self m_cur m_prom m_high A_m jn_m jc_m m_jl m_os:=⟨hn1_m,hn16_m,hsf_m,⟨ok_m.cur.n,ok_m.cur.p⟩,ok_m.set,⟨ok_m.prom.n,ok_m.prom.p⟩,ok_m.high,ok_m.joined,ok_m.len,ok_m.oth⟩
 exact ⟨H,(.slice none 0 0),[],(.pointer none),(Hp.le.refl _),rfl,(RowOk.knil kOut),(Kn.rows_nil _ _),InstAt.none',okm36,rfl,(((hs34.p1).drop.p1).p1)⟩
set_option maxHeartbeats 8000000 in
theorem accept_S {H:Hp} {w:World} {L:List Res} {g_m m_n m_self m_high:Nat} {m_cur:GView} {m_prom:GViewID} {m_jl:List GState} {m_os:List (GViewID × GViewID)} {A_m:Option Addr} {jn_m jc_m:Nat} {gp_m:Nat} {p_m:GProp} {sv_m:Value} {sc_m:List Value} (hs:St H w (obj g_m 78 ((.int .i64 ((m_n:Nat):Int))::(.int .i64 ((m_self:Nat):Int))::(.int .u64 ((m_cur.ID.N:Nat):Int))::(.int .i64 m_cur.ID.P)::(.int .u16 ((m_cur.Set:Nat):Int))::(.int .u64 ((m_prom.N:Nat):Int))::(.int .i64 m_prom.P)::(.int .u64 ((m_high:Nat):Int))::(.pointer (some ⟨gp_m,0,none⟩))::(.slice A_m jn_m jc_m)::oCells m_os)::obj gp_m 81 (clProp p_m sv_m)::row 37 4 sv_m p_m.states.length sc_m::L)) (ok_m:MemB H m_n m_self m_cur m_prom m_high A_m jn_m jc_m m_jl m_os) (hk_m:PropOk H p_m sv_m sc_m) (f:GFrame) {k_f:List Value} (h_f:kFrame.rep H f k_f) (hpl:p_m.states.length ≤ 900000) (hb:∀ s ∈ p_m.states,0 ≤ s.Floor∧s.Floor ≤ 1073741824) (hbf:∀ s ∈ f.States,0 ≤ s.Floor∧s.Floor ≤ 1073741824) (htab:Tab H):Calls Tryd.prog 32 #[.pointer (some ⟨g_m,0,none⟩),.agg k_f.toArray] w (fun e w' => ∃ (H':Hp) (v0:Value) (cs0:List Value) (iv1:Value) (m_cur':GView) (m_jl':List GState) (A_m':Option Addr) (jn_m' jc_m':Nat) (p_m':GProp) (sv_m':Value) (sc_m':List Value),H.le H'∧e = .returned (.tuple #[v0,iv1,.int .i64 ((MB.accept (MB.mk m_n m_self m_cur m_prom m_high (some p_m) m_jl m_os) f).2.2.2)])∧RowOk kOut.sz v0 ((MB.accept (MB.mk m_n m_self m_cur m_prom m_high (some p_m) m_jl m_os) f).2.1).length cs0∧kOut.toKn.rows H' ((MB.accept (MB.mk m_n m_self m_cur m_prom m_high (some p_m) m_jl m_os) f).2.1) cs0∧InstAt H' ((MB.accept (MB.mk m_n m_self m_cur m_prom m_high (some p_m) m_jl m_os) f).2.2.1) iv1∧MemB H' m_n m_self m_cur' m_prom m_high A_m' jn_m' jc_m' m_jl' m_os∧PropOk H' p_m' sv_m' sc_m'∧(MB.mk m_n m_self m_cur' m_prom m_high (some p_m') m_jl' m_os) = (MB.accept (MB.mk m_n m_self m_cur m_prom m_high (some p_m) m_jl m_os) f).1∧St H' w' (row 53 kOut.sz v0 ((MB.accept (MB.mk m_n m_self m_cur m_prom m_high (some p_m) m_jl m_os) f).2.1).length cs0::obj g_m 78 ((.int .i64 ((m_n:Nat):Int))::(.int .i64 ((m_self:Nat):Int))::(.int .u64 ((m_cur'.ID.N:Nat):Int))::(.int .i64 m_cur'.ID.P)::(.int .u16 ((m_cur'.Set:Nat):Int))::(.int .u64 ((m_prom.N:Nat):Int))::(.int .i64 m_prom.P)::(.int .u64 ((m_high:Nat):Int))::(.pointer (some ⟨gp_m,0,none⟩))::(.slice A_m' jn_m' jc_m')::oCells m_os)::obj gp_m 81 [.int .u64 ((p_m'.v.ID.N:Nat):Int),.int .i64 p_m'.v.ID.P,.int .u16 ((p_m'.v.Set:Nat):Int),.int .u16 ((p_m'.who:Nat):Int),sv_m',.bool p_m'.done]::row 37 4 sv_m' p_m'.states.length sc_m'::L)):=by
 have hn1_m:1 ≤ m_n:=ok_m.n1
 have hn16_m:m_n ≤ 16:=ok_m.n16
 have hsf_m:m_self < m_n:=ok_m.self
 have hol_m:m_os.length = 16:=ok_m.len
 have hhi_m:m_high < 18446744073709551616:=ok_m.high
 obtain ⟨A14,n15,c16,A19,n20,c21,A23,n24,c25,rfl,b1,⟨b2,b3⟩,b4,⟨b5,b6⟩,b7,b8,⟨b9,b10⟩,b11,⟨b12,b13⟩,hl17,b18,hl22,hl26,b27,b28⟩:=h_f
 have:=hl17.len; have:n15 * 48 ≤ 140737488351232:=hl17.bnd; have:=hl17.le
 have:=hl22.len; have:n20 * 24 ≤ 140737488351232:=hl22.bnd; have:=hl22.le
 have:=hl26.len; have:n24 * 32 ≤ 140737488351232:=hl26.bnd; have:=hl26.le
 refine enter (args:=[.pointer (some ⟨g_m,0,none⟩),.agg #[.int .u8 ((f.Kind:Nat):Int),.int .i64 f.From,.int .u64 ((f.ID.N:Nat):Int),.int .i64 f.ID.P,.int .u16 ((f.Set:Nat):Int),.int .u64 ((f.Cur.N:Nat):Int),.int .i64 f.Cur.P,.int .u64 ((f.Prom.N:Nat):Int),.int .i64 f.Prom.P,.slice A14 n15 c16,.int .u64 ((f.Base:Nat):Int),.slice A19 n20 c21,.slice A23 n24 c25,.int .u64 ((f.Ack:Nat):Int),.int .u64 ((f.Safe:Nat):Int)]]) (N:=121) Tryd.func32 rfl rfl rfl ?_
 refine c_seq (c_region (st_m (m_box (cs:=[.int .u8 ((f.Kind:Nat):Int),.int .i64 f.From,.int .u64 ((f.ID.N:Nat):Int),.int .i64 f.ID.P,.int .u16 ((f.Set:Nat):Int),.int .u64 ((f.Cur.N:Nat):Int),.int .i64 f.Cur.P,.int .u64 ((f.Prom.N:Nat):Int),.int .i64 f.Prom.P,.slice A14 n15 c16,.int .u64 ((f.Base:Nat):Int),.slice A19 n20 c21,.slice A23 n24 c25,.int .u64 ((f.Ack:Nat):Int),.int .u64 ((f.Safe:Nat):Int)]) hs (v:=.agg #[.int .u8 ((f.Kind:Nat):Int),.int .i64 f.From,.int .u64 ((f.ID.N:Nat):Int),.int .i64 f.ID.P,.int .u16 ((f.Set:Nat):Int),.int .u64 ((f.Cur.N:Nat):Int),.int .i64 f.Cur.P,.int .u64 ((f.Prom.N:Nat):Int),.int .i64 f.Prom.P,.slice A14 n15 c16,.int .u64 ((f.Base:Nat):Int),.slice A19 n20 c21,.slice A23 n24 c25,.int .u64 ((f.Ack:Nat):Int),.int .u64 ((f.Safe:Nat):Int)]) (.tmp rfl rfl) rfl) ?_))
 rintro _ w30 ⟨g29,rfl,hs32⟩
 refine st (v:=.slice none 0 0) (x_assign .const) ?_
 refine st (v:=.pointer none) (x_assign .const) ?_
 refine st (v:=.int .i64 0) (x_assign .const) ?_
 refine c_nil (n_then (c_seq (c_region (st (v:=.pointer (some ⟨g_m,0,none⟩)) (x_move (.tmp rfl rfl)) ?_))))
 refine st (v:=.pointer (some ⟨g_m,0,none⟩)) (x_nilCheck (.tmp rfl rfl)) ?_
 refine st (v:=.pointer (some ⟨g_m,0 + 8,none⟩)) (fa78_5 (.tmp rfl rfl)) ?_
 refine st (v:=.pointer (some ⟨gp_m,0,none⟩)) (ld75 (.tmp rfl rfl) (hs32.cell 1 rfl (0 + 8) rfl)) ?_
 refine st (v:=.pointer (some ⟨gp_m,0,none⟩)) (x_assign (.tmp rfl rfl)) ?_
 refine c_nil (n_then (c_seq (c_seq (q_region mixed hs32 (by kernel_rfl) ?_))))
 refine q_st (v:=.pointer (some ⟨gp_m,0,none⟩)) (fun w hs => (x_move (.tmp rfl rfl))) ?_
 refine q_st (v:=.bool false) (fun w hs => (x_eqlP Tryd.underlying75 (.tmp rfl rfl) .const rfl)) ?_
 refine q_st (v:=.bool false) (fun w hs => (x_move (.tmp rfl rfl))) ?_
 refine q_yes (yl (dj:=18) (b:=false) rfl rfl rfl) ?_
 refine q_st (v:=.pointer (some ⟨gp_m,0,none⟩)) (fun w hs => (x_move (.tmp rfl rfl))) ?_
 refine q_yes (yl (dj:=18) (b:=false) rfl rfl rfl) ?_
 refine q_st (v:=.pointer (some ⟨gp_m,0,none⟩)) (fun w hs => (x_nilCheck (.tmp rfl rfl))) ?_
 refine q_yes (yl (dj:=18) (b:=false) rfl rfl rfl) ?_
 refine q_st (v:=.pointer (some ⟨gp_m,0 + 5,none⟩)) (fun w hs => (fa81_3 (.tmp rfl rfl))) ?_
 refine q_yes (yl (dj:=18) (b:=false) rfl rfl rfl) ?_
 refine q_st (v:=.bool p_m.done) (fun w hs => (ld4 (.tmp rfl rfl) (hs.cell 2 rfl (0 + 5) rfl))) ?_
 refine q_st (v:=.bool p_m.done) (fun w hs => (x_pick_f (.tmp rfl rfl) (.tmp rfl rfl))) ?_
 refine q_st (v:=.bool p_m.done) (fun w hs => (x_move (.tmp rfl rfl))) ?_
 refine jq 9 (fun ρ => ρ 33 = .bool (p_m.done || (!(decide (p_m.v.ID = f.ID))))∧ρ 0 = .pointer (some ⟨g_m,0,none⟩)∧ρ 3 = .pointer (some ⟨g29,0,none⟩)∧ρ 7 = .pointer (some ⟨gp_m,0,none⟩)∧True) ?_ ?_
 rcases Bool.eq_false_or_eq_true p_m.done with hc33 | hc33
 refine q_no (yk 24 true rfl rfl hc33) rfl ?_
 refine q_no (yk 24 true rfl rfl hc33) rfl ?_
 refine q_no (yk 24 true rfl rfl hc33) rfl ?_
 refine q_no (yk 24 true rfl rfl hc33) rfl ?_
 refine q_no (yk 24 true rfl rfl hc33) rfl ?_
 refine q_no (yk 24 true rfl rfl hc33) rfl ?_
 refine q_no (yk 24 true rfl rfl hc33) rfl ?_
 refine q_no (yk 24 true rfl rfl hc33) rfl ?_
 refine q_st (v:=.bool true) (fun w hs => (x_pick_t (.tmp rfl (cVb hc33)) .const)) ?_
 exact jq_end ⟨(cVb (jor_t hc33)),rfl,rfl,rfl,True.intro⟩
 refine q_yes (yk 24 false rfl rfl hc33) ?_
 refine q_st (v:=.pointer (some ⟨gp_m,0,none⟩)) (fun w hs => (x_move (.tmp rfl rfl))) ?_
 refine q_yes (yk 24 false rfl rfl hc33) ?_
 refine q_st (v:=.pointer (some ⟨gp_m,0,none⟩)) (fun w hs => (x_nilCheck (.tmp rfl rfl))) ?_
 refine q_yes (yk 24 false rfl rfl hc33) ?_
 refine q_st (v:=.pointer (some ⟨gp_m,0 + 0,none⟩)) (fun w hs => (fa81_0 (.tmp rfl rfl))) ?_
 refine q_yes (yk 24 false rfl rfl hc33) ?_
 refine q_st (v:=.pointer (some ⟨gp_m,0 + 0 + 0,none⟩)) (fun w hs => (fa39_0 (.tmp rfl rfl))) ?_
 refine q_yes (yk 24 false rfl rfl hc33) ?_
 refine q_st (v:=.agg #[.int .u64 ((p_m.v.ID.N:Nat):Int),.int .i64 p_m.v.ID.P]) (fun w hs => (ld34 (cs:=[.int .u64 ((p_m.v.ID.N:Nat):Int),.int .i64 p_m.v.ID.P]) (.tmp rfl rfl) (hs.at_ 2 rfl (0 + 0 + 0) rfl) rfl)) ?_
 refine q_yes (yk 24 false rfl rfl hc33) ?_
 refine q_st (v:=.pointer (some ⟨g29,0 + 2,none⟩)) (fun w hs => (fa51_2 (.tmp rfl rfl))) ?_
 refine q_yes (yk 24 false rfl rfl hc33) ?_
 refine q_st (v:=.agg #[.int .u64 ((f.ID.N:Nat):Int),.int .i64 f.ID.P]) (fun w hs => (ld34 (cs:=[.int .u64 ((f.ID.N:Nat):Int),.int .i64 f.ID.P]) (.tmp rfl rfl) (hs.at_ 0 rfl (0 + 2) rfl) rfl)) ?_
 refine q_yes (yk 24 false rfl rfl hc33) ?_
 refine q_st (v:=.bool (!((((p_m.v.ID.N:Nat):Int) == ((f.ID.N:Nat):Int)) && ((p_m.v.ID.P == f.ID.P) && true)))) (fun w hs => (x_neqA eqg34 (.tmp rfl rfl) (.tmp rfl rfl) (fun d => eqs34 (d + 98) _ ((p_m.v.ID.N:Nat):Int) ((f.ID.N:Nat):Int) p_m.v.ID.P f.ID.P))) ?_
 refine q_st (v:=.bool (!(decide (p_m.v.ID = f.ID)))) (fun w hs => (x_pick_f (.tmp rfl (cVb hc33)) (.tmp rfl (congrArg (fun z => Value.bool (!z)) (GViewID.beq_dec p_m.v.ID f.ID))))) ?_
 exact jq_end ⟨(cVb (jor_f hc33)),rfl,rfl,rfl,True.intro⟩
 rintro ρ ⟨hρ34,hρ35,hρ36,hρ37,_⟩
 refine q_st (v:=.bool (p_m.done || (!(decide (p_m.v.ID = f.ID))))) (fun w hs => (x_move (.tmp rfl hρ34))) ?_
 refine jq 8 (fun ρ => ρ 42 = .bool ((p_m.done || (!(decide (p_m.v.ID = f.ID)))) || (!(decide (m_prom = f.ID))))∧ρ 0 = .pointer (some ⟨g_m,0,none⟩)∧ρ 3 = .pointer (some ⟨g29,0,none⟩)∧ρ 7 = .pointer (some ⟨gp_m,0,none⟩)∧True) ?_ ?_
 rcases Bool.eq_false_or_eq_true (p_m.done || (!(decide (p_m.v.ID = f.ID)))) with hc39 | hc39
 have hp39:(p_m.done = true) ∨ (¬ (p_m.v.ID = f.ID)):=((J_or Iff.rfl (J_not decide_eq_true_iff))).1 hc39
 refine q_no (yk 34 true rfl rfl hc39) rfl ?_
 refine q_no (yk 34 true rfl rfl hc39) rfl ?_
 refine q_no (yk 34 true rfl rfl hc39) rfl ?_
 refine q_no (yk 34 true rfl rfl hc39) rfl ?_
 refine q_no (yk 34 true rfl rfl hc39) rfl ?_
 refine q_no (yk 34 true rfl rfl hc39) rfl ?_
 refine q_no (yk 34 true rfl rfl hc39) rfl ?_
 refine q_st (v:=.bool true) (fun w hs => (x_pick_t (.tmp rfl (cVb hc39)) .const)) ?_
 exact jq_end ⟨(cVb (jor_t hc39)),hρ35,hρ36,hρ37,True.intro⟩
 have hp39:¬ ((p_m.done = true) ∨ (¬ (p_m.v.ID = f.ID))):=J_no (J_or Iff.rfl (J_not decide_eq_true_iff)) hc39
 refine q_yes (yk 34 false rfl rfl hc39) ?_
 refine q_st (v:=.pointer (some ⟨g_m,0,none⟩)) (fun w hs => (x_move (.tmp rfl hρ35))) ?_
 refine q_yes (yk 34 false rfl rfl hc39) ?_
 refine q_st (v:=.pointer (some ⟨g_m,0,none⟩)) (fun w hs => (x_nilCheck (.tmp rfl rfl))) ?_
 refine q_yes (yk 34 false rfl rfl hc39) ?_
 refine q_st (v:=.pointer (some ⟨g_m,0 + 5,none⟩)) (fun w hs => (fa78_3 (.tmp rfl rfl))) ?_
 refine q_yes (yk 34 false rfl rfl hc39) ?_
 refine q_st (v:=.agg #[.int .u64 ((m_prom.N:Nat):Int),.int .i64 m_prom.P]) (fun w hs => (ld34 (cs:=[.int .u64 ((m_prom.N:Nat):Int),.int .i64 m_prom.P]) (.tmp rfl rfl) (hs.at_ 1 rfl (0 + 5) rfl) rfl)) ?_
 refine q_yes (yk 34 false rfl rfl hc39) ?_
 refine q_st (v:=.pointer (some ⟨g29,0 + 2,none⟩)) (fun w hs => (fa51_2 (.tmp rfl hρ36))) ?_
 refine q_yes (yk 34 false rfl rfl hc39) ?_
 refine q_st (v:=.agg #[.int .u64 ((f.ID.N:Nat):Int),.int .i64 f.ID.P]) (fun w hs => (ld34 (cs:=[.int .u64 ((f.ID.N:Nat):Int),.int .i64 f.ID.P]) (.tmp rfl rfl) (hs.at_ 0 rfl (0 + 2) rfl) rfl)) ?_
 refine q_yes (yk 34 false rfl rfl hc39) ?_
 refine q_st (v:=.bool (!((((m_prom.N:Nat):Int) == ((f.ID.N:Nat):Int)) && ((m_prom.P == f.ID.P) && true)))) (fun w hs => (x_neqA eqg34 (.tmp rfl rfl) (.tmp rfl rfl) (fun d => eqs34 (d + 98) _ ((m_prom.N:Nat):Int) ((f.ID.N:Nat):Int) m_prom.P f.ID.P))) ?_
 refine q_st (v:=.bool (!(decide (m_prom = f.ID)))) (fun w hs => (x_pick_f (.tmp rfl (cVb hc39)) (.tmp rfl (congrArg (fun z => Value.bool (!z)) (GViewID.beq_dec m_prom f.ID))))) ?_
 exact jq_end ⟨(cVb (jor_f hc39)),hρ35,hρ36,hρ37,True.intro⟩
 rintro ρ ⟨hρ40,hρ41,hρ42,hρ43,_⟩
 refine q_st (v:=.bool ((p_m.done || (!(decide (p_m.v.ID = f.ID)))) || (!(decide (m_prom = f.ID))))) (fun w hs => (x_move (.tmp rfl hρ40))) ?_
 refine jq 10 (fun ρ => ρ 53 = .bool (((p_m.done || (!(decide (p_m.v.ID = f.ID)))) || (!(decide (m_prom = f.ID)))) || (!(has p_m.v.Set f.From)))∧ρ 0 = .pointer (some ⟨g_m,0,none⟩)∧ρ 3 = .pointer (some ⟨g29,0,none⟩)∧ρ 7 = .pointer (some ⟨gp_m,0,none⟩)∧True) ?_ ?_
 rcases Bool.eq_false_or_eq_true ((p_m.done || (!(decide (p_m.v.ID = f.ID)))) || (!(decide (m_prom = f.ID)))) with hc45 | hc45
 have hp45:((p_m.done = true) ∨ (¬ (p_m.v.ID = f.ID))) ∨ (¬ (m_prom = f.ID)):=((J_or (J_or Iff.rfl (J_not decide_eq_true_iff)) (J_not decide_eq_true_iff))).1 hc45
 refine q_no (yk 43 true rfl rfl hc45) rfl ?_
 refine q_no (yk 43 true rfl rfl hc45) rfl ?_
 refine q_no (yk 43 true rfl rfl hc45) rfl ?_
 refine q_no (yk 43 true rfl rfl hc45) rfl ?_
 refine q_no (yk 43 true rfl rfl hc45) rfl ?_
 refine q_no (yk 43 true rfl rfl hc45) rfl ?_
 refine q_no (yk 43 true rfl rfl hc45) rfl ?_
 refine q_no (yk 43 true rfl rfl hc45) rfl ?_
 refine q_no (yk 43 true rfl rfl hc45) rfl ?_
 refine q_st (v:=.bool true) (fun w hs => (x_pick_t (.tmp rfl (cVb hc45)) .const)) ?_
 exact jq_end ⟨(cVb (jor_t hc45)),hρ41,hρ42,hρ43,True.intro⟩
 have hp45:¬ (((p_m.done = true) ∨ (¬ (p_m.v.ID = f.ID))) ∨ (¬ (m_prom = f.ID))):=J_no (J_or (J_or Iff.rfl (J_not decide_eq_true_iff)) (J_not decide_eq_true_iff)) hc45
 refine q_yes (yk 43 false rfl rfl hc45) ?_
 refine q_st (v:=.pointer (some ⟨gp_m,0,none⟩)) (fun w hs => (x_move (.tmp rfl hρ43))) ?_
 refine q_yes (yk 43 false rfl rfl hc45) ?_
 refine q_st (v:=.pointer (some ⟨gp_m,0,none⟩)) (fun w hs => (x_nilCheck (.tmp rfl rfl))) ?_
 refine q_yes (yk 43 false rfl rfl hc45) ?_
 refine q_st (v:=.pointer (some ⟨gp_m,0 + 0,none⟩)) (fun w hs => (fa81_0 (.tmp rfl rfl))) ?_
 refine q_yes (yk 43 false rfl rfl hc45) ?_
 refine q_st (v:=.pointer (some ⟨gp_m,0 + 0 + 2,none⟩)) (fun w hs => (fa39_1 (.tmp rfl rfl))) ?_
 refine q_yes (yk 43 false rfl rfl hc45) ?_
 refine q_st (v:=.int .u16 ((p_m.v.Set:Nat):Int)) (fun w hs => (ld31 (.tmp rfl rfl) (hs.cell 2 rfl (0 + 0 + 2) rfl))) ?_
 refine q_yes (yk 43 false rfl rfl hc45) ?_
 refine q_st (v:=.pointer (some ⟨g29,0 + 1,none⟩)) (fun w hs => (fa51_1 (.tmp rfl hρ42))) ?_
 refine q_yes (yk 43 false rfl rfl hc45) ?_
 refine q_st (v:=.int .i64 f.From) (fun w hs => (ld3 (.tmp rfl rfl) (hs.cell 0 rfl (0 + 1) rfl))) ?_
 refine q_yes (yk 43 false rfl rfl hc45) ?_
 refine q_c (v:=.bool (has p_m.v.Set f.From)) cb34 .func (evs2 (.tmp rfl rfl) (.tmp rfl rfl)) (fun w hs => has_spec hs p_m.v.Set f.From hk_m.set (by omega)) ?_
 refine q_yes (yk 43 false rfl rfl hc45) ?_
 refine q_st (v:=.bool (!(has p_m.v.Set f.From))) (fun w hs => (x_not (.tmp rfl rfl))) ?_
 refine q_st (v:=.bool (!(has p_m.v.Set f.From))) (fun w hs => (x_pick_f (.tmp rfl (cVb hc45)) (.tmp rfl rfl))) ?_
 exact jq_end ⟨(cVb (jor_f hc45)),hρ41,hρ42,hρ43,True.intro⟩
 rintro ρ ⟨hρ46,hρ47,hρ48,hρ49,_⟩
 refine q_st (v:=.bool (((p_m.done || (!(decide (p_m.v.ID = f.ID)))) || (!(decide (m_prom = f.ID)))) || (!(has p_m.v.Set f.From)))) (fun w hs => (x_move (.tmp rfl hρ46))) ?_
 refine jq 8 (fun ρ => ρ 62 = .bool ((((p_m.done || (!(decide (p_m.v.ID = f.ID)))) || (!(decide (m_prom = f.ID)))) || (!(has p_m.v.Set f.From))) || (has p_m.who f.From))∧ρ 0 = .pointer (some ⟨g_m,0,none⟩)∧ρ 3 = .pointer (some ⟨g29,0,none⟩)∧ρ 7 = .pointer (some ⟨gp_m,0,none⟩)∧True) ?_ ?_
 rcases Bool.eq_false_or_eq_true (((p_m.done || (!(decide (p_m.v.ID = f.ID)))) || (!(decide (m_prom = f.ID)))) || (!(has p_m.v.Set f.From))) with hc51 | hc51
 have hp51:(((p_m.done = true) ∨ (¬ (p_m.v.ID = f.ID))) ∨ (¬ (m_prom = f.ID))) ∨ (¬ ((has p_m.v.Set f.From) = true)):=((J_or (J_or (J_or Iff.rfl (J_not decide_eq_true_iff)) (J_not decide_eq_true_iff)) (J_not Iff.rfl))).1 hc51
 refine q_no (yk 54 true rfl rfl hc51) rfl ?_
 refine q_no (yk 54 true rfl rfl hc51) rfl ?_
 refine q_no (yk 54 true rfl rfl hc51) rfl ?_
 refine q_no (yk 54 true rfl rfl hc51) rfl ?_
 refine q_no (yk 54 true rfl rfl hc51) rfl ?_
 refine q_no (yk 54 true rfl rfl hc51) rfl ?_
 refine q_no (yk 54 true rfl rfl hc51) rfl ?_
 refine q_st (v:=.bool true) (fun w hs => (x_pick_t (.tmp rfl (cVb hc51)) .const)) ?_
 exact jq_end ⟨(cVb (jor_t hc51)),hρ47,hρ48,hρ49,True.intro⟩
 have hp51:¬ ((((p_m.done = true) ∨ (¬ (p_m.v.ID = f.ID))) ∨ (¬ (m_prom = f.ID))) ∨ (¬ ((has p_m.v.Set f.From) = true))):=J_no (J_or (J_or (J_or Iff.rfl (J_not decide_eq_true_iff)) (J_not decide_eq_true_iff)) (J_not Iff.rfl)) hc51
 refine q_yes (yk 54 false rfl rfl hc51) ?_
 refine q_st (v:=.pointer (some ⟨gp_m,0,none⟩)) (fun w hs => (x_move (.tmp rfl hρ49))) ?_
 refine q_yes (yk 54 false rfl rfl hc51) ?_
 refine q_st (v:=.pointer (some ⟨gp_m,0,none⟩)) (fun w hs => (x_nilCheck (.tmp rfl rfl))) ?_
 refine q_yes (yk 54 false rfl rfl hc51) ?_
 refine q_st (v:=.pointer (some ⟨gp_m,0 + 3,none⟩)) (fun w hs => (fa81_1 (.tmp rfl rfl))) ?_
 refine q_yes (yk 54 false rfl rfl hc51) ?_
 refine q_st (v:=.int .u16 ((p_m.who:Nat):Int)) (fun w hs => (ld31 (.tmp rfl rfl) (hs.cell 2 rfl (0 + 3) rfl))) ?_
 refine q_yes (yk 54 false rfl rfl hc51) ?_
 refine q_st (v:=.pointer (some ⟨g29,0 + 1,none⟩)) (fun w hs => (fa51_1 (.tmp rfl hρ48))) ?_
 refine q_yes (yk 54 false rfl rfl hc51) ?_
 refine q_st (v:=.int .i64 f.From) (fun w hs => (ld3 (.tmp rfl rfl) (hs.cell 0 rfl (0 + 1) rfl))) ?_
 refine q_yes (yk 54 false rfl rfl hc51) ?_
 refine q_c (v:=.bool (has p_m.who f.From)) cb34 .func (evs2 (.tmp rfl rfl) (.tmp rfl rfl)) (fun w hs => has_spec hs p_m.who f.From hk_m.who (by omega)) ?_
 refine q_st (v:=.bool (has p_m.who f.From)) (fun w hs => (x_pick_f (.tmp rfl (cVb hc51)) (.tmp rfl rfl))) ?_
 exact jq_end ⟨(cVb (jor_f hc51)),hρ47,hρ48,hρ49,True.intro⟩
 rintro ρ ⟨hρ52,hρ53,hρ54,hρ55,_⟩
 refine q_st (v:=.bool ((((p_m.done || (!(decide (p_m.v.ID = f.ID)))) || (!(decide (m_prom = f.ID)))) || (!(has p_m.v.Set f.From))) || (has p_m.who f.From))) (fun w hs => (x_move (.tmp rfl hρ52))) ?_
 refine jq 5 (fun ρ => ρ 68 = .bool (((((p_m.done || (!(decide (p_m.v.ID = f.ID)))) || (!(decide (m_prom = f.ID)))) || (!(has p_m.v.Set f.From))) || (has p_m.who f.From)) || (decide ((((n15:Nat):Int):Int) ≠ 1)))∧ρ 0 = .pointer (some ⟨g_m,0,none⟩)∧ρ 3 = .pointer (some ⟨g29,0,none⟩)∧ρ 7 = .pointer (some ⟨gp_m,0,none⟩)∧True) ?_ ?_
 rcases Bool.eq_false_or_eq_true ((((p_m.done || (!(decide (p_m.v.ID = f.ID)))) || (!(decide (m_prom = f.ID)))) || (!(has p_m.v.Set f.From))) || (has p_m.who f.From)) with hc57 | hc57
 have hp57:((((p_m.done = true) ∨ (¬ (p_m.v.ID = f.ID))) ∨ (¬ (m_prom = f.ID))) ∨ (¬ ((has p_m.v.Set f.From) = true))) ∨ ((has p_m.who f.From) = true):=((J_or (J_or (J_or (J_or Iff.rfl (J_not decide_eq_true_iff)) (J_not decide_eq_true_iff)) (J_not Iff.rfl)) Iff.rfl)).1 hc57
 refine q_no (yk 63 true rfl rfl hc57) rfl ?_
 refine q_no (yk 63 true rfl rfl hc57) rfl ?_
 refine q_no (yk 63 true rfl rfl hc57) rfl ?_
 refine q_no (yk 63 true rfl rfl hc57) rfl ?_
 refine q_st (v:=.bool true) (fun w hs => (x_pick_t (.tmp rfl (cVb hc57)) .const)) ?_
 exact jq_end ⟨(cVb (jor_t hc57)),hρ53,hρ54,hρ55,True.intro⟩
 have hp57:¬ (((((p_m.done = true) ∨ (¬ (p_m.v.ID = f.ID))) ∨ (¬ (m_prom = f.ID))) ∨ (¬ ((has p_m.v.Set f.From) = true))) ∨ ((has p_m.who f.From) = true)):=J_no (J_or (J_or (J_or (J_or Iff.rfl (J_not decide_eq_true_iff)) (J_not decide_eq_true_iff)) (J_not Iff.rfl)) Iff.rfl) hc57
 refine q_yes (yk 63 false rfl rfl hc57) ?_
 refine q_st (v:=.pointer (some ⟨g29,0 + 9,none⟩)) (fun w hs => (fa51_6 (.tmp rfl hρ54))) ?_
 refine q_yes (yk 63 false rfl rfl hc57) ?_
 refine q_st (v:=.slice A14 n15 c16) (fun w hs => (ld40 (.tmp rfl rfl) (hs.cell 0 rfl (0 + 9) rfl))) ?_
 refine q_yes (yk 63 false rfl rfl hc57) ?_
 refine q_st (v:=.int .i64 ((n15:Nat):Int)) (fun w hs => (x_len (n:=n15) Tryd.underlying40 (.tmp rfl rfl))) ?_
 refine q_yes (yk 63 false rfl rfl hc57) ?_
 refine q_st (v:=.bool (decide ((((n15:Nat):Int):Int) ≠ 1))) (fun w hs => (x_neq (k:=.i64) (a:=((n15:Nat):Int)) (b:=1) (.tmp rfl rfl) .const)) ?_
 refine q_st (v:=.bool (decide ((((n15:Nat):Int):Int) ≠ 1))) (fun w hs => (x_pick_f (.tmp rfl (cVb hc57)) (.tmp rfl rfl))) ?_
 exact jq_end ⟨(cVb (jor_f hc57)),hρ53,hρ54,hρ55,True.intro⟩
 rintro ρ ⟨hρ58,hρ59,hρ60,hρ61,_⟩
 refine q_nil ?_
 intro w hs63
 refine n_then ?_
 rcases Bool.eq_false_or_eq_true (((((p_m.done || (!(decide (p_m.v.ID = f.ID)))) || (!(decide (m_prom = f.ID)))) || (!(has p_m.v.Set f.From))) || (has p_m.who f.From)) || (decide ((((n15:Nat):Int):Int) ≠ 1))) with hc64 | hc64
 have hp64:(((((p_m.done = true) ∨ (¬ (p_m.v.ID = f.ID))) ∨ (¬ (m_prom = f.ID))) ∨ (¬ ((has p_m.v.Set f.From) = true))) ∨ ((has p_m.who f.From) = true)) ∨ ((((n15:Nat):Int):Int) ≠ 1):=((J_or (J_or (J_or (J_or (J_or Iff.rfl (J_not decide_eq_true_iff)) (J_not decide_eq_true_iff)) (J_not Iff.rfl)) Iff.rfl) decide_eq_true_iff)).1 hc64
 refine c_cond_t (t:=true) (.tmp rfl (hρ58.trans (cVb hc64))) rfl ?_
 refine c_seq (c_region (st (v:=.slice none 0 0) (x_assign .const) ?_))
 refine st (v:=.pointer none) (x_assign .const) ?_
 refine st (v:=.int .i64 9) (x_assign .const) ?_
 refine c_nil (n_then (c_ret (r_then (leave_ret (res_three (v:=.slice none 0 0) (u:=.pointer none) (x:=.int .i64 9) rfl (.mk rfl rfl) (.mk rfl rfl) (.mk rfl rfl)) ?_))))
 have hpq:(MB.accept (MB.mk m_n m_self m_cur m_prom m_high (some p_m) m_jl m_os) f) = _:=acc_no (by omega) hc64
 rw [hpq]
 have hs65:=hs63.krowNil 53 kOut
 have okm67:MemB H m_n m_self m_cur m_prom m_high A_m jn_m jc_m m_jl m_os:=⟨hn1_m,hn16_m,hsf_m,⟨ok_m.cur.n,ok_m.cur.p⟩,ok_m.set,⟨ok_m.prom.n,ok_m.prom.p⟩,ok_m.high,ok_m.joined,ok_m.len,ok_m.oth⟩
 have okp68:PropOk H p_m sv_m sc_m:=⟨⟨hk_m.id.n,hk_m.id.p⟩,hk_m.set,hk_m.who,hk_m.ok,hk_m.hk⟩
 exact ⟨H,(.slice none 0 0),[],(.pointer none),m_cur,m_jl,A_m,jn_m,jc_m,p_m,sv_m,sc_m,(Hp.le.refl _),rfl,(RowOk.knil kOut),(Kn.rows_nil _ _),InstAt.none',okm67,okp68,rfl,(((((hs65.p1).drop.p3).p3).p3).p3)⟩
 have hp64:¬ ((((((p_m.done = true) ∨ (¬ (p_m.v.ID = f.ID))) ∨ (¬ (m_prom = f.ID))) ∨ (¬ ((has p_m.v.Set f.From) = true))) ∨ ((has p_m.who f.From) = true)) ∨ ((((n15:Nat):Int):Int) ≠ 1)):=J_no (J_or (J_or (J_or (J_or (J_or Iff.rfl (J_not decide_eq_true_iff)) (J_not decide_eq_true_iff)) (J_not Iff.rfl)) Iff.rfl) decide_eq_true_iff) hc64
 refine c_cond_f (t:=false) (.tmp rfl (hρ58.trans (cVb hc64))) rfl ?_
 refine c_skip (n_then (c_seq (t_region (L:=obj g29 51 (clFrame f A14 n15 c16 A19 n20 c21 A23 n24 c25)::obj g_m 78 ((.int .i64 ((m_n:Nat):Int))::(.int .i64 ((m_self:Nat):Int))::(.int .u64 ((m_cur.ID.N:Nat):Int))::(.int .i64 m_cur.ID.P)::(.int .u16 ((m_cur.Set:Nat):Int))::(.int .u64 ((m_prom.N:Nat):Int))::(.int .i64 m_prom.P)::(.int .u64 ((m_high:Nat):Int))::(.pointer (some ⟨gp_m,0,none⟩))::(.slice A_m jn_m jc_m)::oCells m_os)::obj gp_m 81 (clProp p_m sv_m)::row 37 4 sv_m p_m.states.length sc_m::L) (L':=obj g29 51 (clFrame f A14 n15 c16 A19 n20 c21 A23 n24 c25)::obj g_m 78 ((.int .i64 ((m_n:Nat):Int))::(.int .i64 ((m_self:Nat):Int))::(.int .u64 ((m_cur.ID.N:Nat):Int))::(.int .i64 m_cur.ID.P)::(.int .u16 ((m_cur.Set:Nat):Int))::(.int .u64 ((m_prom.N:Nat):Int))::(.int .i64 m_prom.P)::(.int .u64 ((m_high:Nat):Int))::(.pointer (some ⟨gp_m,0,none⟩))::(.slice A_m jn_m jc_m)::oCells m_os)::obj gp_m 81 (clProp p_m sv_m)::row 37 4 sv_m p_m.states.length sc_m::L) (Z:=[7,10]) (F:=[0]) (pl:=(.q 0 (.q 1 (.q 2 (.q 3 (.q 4 (.q 5 (.q 6 (.e 7 (.q 8 (.q 9 (.e 10 .done)))))))))))) mixed hs63 (fun u hu => hu) (by kernel_rfl) ?_)))
 intro w69 hs70
 refine t_fr (k:=0) (v:=.pointer (some ⟨gp_m,0,none⟩)) rfl (fun w _ => (x_move (.tmp rfl hρ61))) ?_
 refine t_st (k:=1) (v:=.pointer (some ⟨gp_m,0,none⟩)) rfl rfl (fun w hs => (x_move (.tmp rfl hρ61))) ?_
 refine t_st (k:=2) (v:=.pointer (some ⟨gp_m,0,none⟩)) rfl rfl (fun w hs => (x_nilCheck (.tmp rfl rfl))) ?_
 refine t_st (k:=3) (v:=.pointer (some ⟨gp_m,0 + 3,none⟩)) rfl rfl (fun w hs => (fa81_1 (.tmp rfl rfl))) ?_
 refine t_st (k:=4) (v:=.int .u16 ((p_m.who:Nat):Int)) rfl rfl (fun w hs => (ld31 (.tmp rfl rfl) (hs.cell 2 rfl (0 + 3) rfl))) ?_
 refine t_st (k:=5) (v:=.pointer (some ⟨g29,0 + 1,none⟩)) rfl rfl (fun w hs => (fa51_1 (.tmp rfl hρ60))) ?_
 refine t_st (k:=6) (v:=.int .i64 f.From) rfl rfl (fun w hs => (ld3 (.tmp rfl rfl) (hs.cell 0 rfl (0 + 1) rfl))) ?_
 refine t_eff (k:=7) rfl ?_
 refine st_c cb24 .func (evs2 (.tmp rfl rfl) (.tmp rfl rfl)) (with_spec hs70 p_m.who f.From hk_m.who (by omega)) ?_
 rintro e w71 ⟨rfl,hs72⟩
 refine ⟨_,rfl,?_⟩
 refine t_new (S':=fun u => St H u (obj g29 51 (clFrame f A14 n15 c16 A19 n20 c21 A23 n24 c25)::obj g_m 78 ((.int .i64 ((m_n:Nat):Int))::(.int .i64 ((m_self:Nat):Int))::(.int .u64 ((m_cur.ID.N:Nat):Int))::(.int .i64 m_cur.ID.P)::(.int .u16 ((m_cur.Set:Nat):Int))::(.int .u64 ((m_prom.N:Nat):Int))::(.int .i64 m_prom.P)::(.int .u64 ((m_high:Nat):Int))::(.pointer (some ⟨gp_m,0,none⟩))::(.slice A_m jn_m jc_m)::oCells m_os)::obj gp_m 81 (clProp p_m sv_m)::row 37 4 sv_m p_m.states.length sc_m::L)) rfl hs72 ?_
 refine t_st (k:=8) (v:=.pointer (some ⟨gp_m,0,none⟩)) rfl rfl (fun w hs => (x_nilCheck (.tmp rfl rfl))) ?_
 refine t_st (k:=9) (v:=.pointer (some ⟨gp_m,0 + 3,none⟩)) rfl rfl (fun w hs => (fa81_1 (.tmp rfl rfl))) ?_
 refine t_eff (k:=10) rfl ?_
 have hs73:=hs72.p2
 refine st_m0 (sto31 (cs':=[.int .u64 ((p_m.v.ID.N:Nat):Int),.int .i64 p_m.v.ID.P,.int .u16 ((p_m.v.Set:Nat):Int),.int .u16 (((wth p_m.who f.From):Nat):Int),sv_m,.bool p_m.done]) (i:=0 + 3) hs73 (v:=.int .u16 (((wth p_m.who f.From):Nat):Int)) (.tmp rfl rfl) (.tmp rfl rfl) rfl (Nat.le_of_ble_eq_true rfl) one1 rfl) ?_
 rintro w74 hs76
 refine t_new (S':=fun u => St H u (obj gp_m 81 [.int .u64 ((p_m.v.ID.N:Nat):Int),.int .i64 p_m.v.ID.P,.int .u16 ((p_m.v.Set:Nat):Int),.int .u16 (((wth p_m.who f.From):Nat):Int),sv_m,.bool p_m.done]::obj g29 51 (clFrame f A14 n15 c16 A19 n20 c21 A23 n24 c25)::obj g_m 78 ((.int .i64 ((m_n:Nat):Int))::(.int .i64 ((m_self:Nat):Int))::(.int .u64 ((m_cur.ID.N:Nat):Int))::(.int .i64 m_cur.ID.P)::(.int .u16 ((m_cur.Set:Nat):Int))::(.int .u64 ((m_prom.N:Nat):Int))::(.int .i64 m_prom.P)::(.int .u64 ((m_high:Nat):Int))::(.pointer (some ⟨gp_m,0,none⟩))::(.slice A_m jn_m jc_m)::oCells m_os)::row 37 4 sv_m p_m.states.length sc_m::L)) rfl hs76 ?_
 refine t_nil ?_
 refine n_then (c_seq (t_region (L:=obj gp_m 81 [.int .u64 ((p_m.v.ID.N:Nat):Int),.int .i64 p_m.v.ID.P,.int .u16 ((p_m.v.Set:Nat):Int),.int .u16 (((wth p_m.who f.From):Nat):Int),sv_m,.bool p_m.done]::obj g29 51 (clFrame f A14 n15 c16 A19 n20 c21 A23 n24 c25)::obj g_m 78 ((.int .i64 ((m_n:Nat):Int))::(.int .i64 ((m_self:Nat):Int))::(.int .u64 ((m_cur.ID.N:Nat):Int))::(.int .i64 m_cur.ID.P)::(.int .u16 ((m_cur.Set:Nat):Int))::(.int .u64 ((m_prom.N:Nat):Int))::(.int .i64 m_prom.P)::(.int .u64 ((m_high:Nat):Int))::(.pointer (some ⟨gp_m,0,none⟩))::(.slice A_m jn_m jc_m)::oCells m_os)::row 37 4 sv_m p_m.states.length sc_m::L) (L':=obj gp_m 81 [.int .u64 ((p_m.v.ID.N:Nat):Int),.int .i64 p_m.v.ID.P,.int .u16 ((p_m.v.Set:Nat):Int),.int .u16 (((wth p_m.who f.From):Nat):Int),sv_m,.bool p_m.done]::obj g29 51 (clFrame f A14 n15 c16 A19 n20 c21 A23 n24 c25)::obj g_m 78 ((.int .i64 ((m_n:Nat):Int))::(.int .i64 ((m_self:Nat):Int))::(.int .u64 ((m_cur.ID.N:Nat):Int))::(.int .i64 m_cur.ID.P)::(.int .u16 ((m_cur.Set:Nat):Int))::(.int .u64 ((m_prom.N:Nat):Int))::(.int .i64 m_prom.P)::(.int .u64 ((m_high:Nat):Int))::(.pointer (some ⟨gp_m,0,none⟩))::(.slice A_m jn_m jc_m)::oCells m_os)::row 37 4 sv_m p_m.states.length sc_m::L) (Z:=[10,13]) (F:=[0,5]) (pl:=(.q 0 (.q 1 (.q 2 (.q 3 (.q 4 (.q 5 (.q 6 (.q 7 (.q 8 (.e 9 (.e 10 (.q 11 (.q 12 (.e 13 .done))))))))))))))) mixed hs76 (fun u hu => hu) (by kernel_rfl) ?_))
 intro w77 hs78
 refine t_fr (k:=0) (v:=.pointer (some ⟨gp_m,0,none⟩)) rfl (fun w _ => (x_move (.tmp rfl hρ61))) ?_
 refine t_st (k:=1) (v:=.pointer (some ⟨gp_m,0,none⟩)) rfl rfl (fun w hs => (x_move (.tmp rfl hρ61))) ?_
 refine t_st (k:=2) (v:=.pointer (some ⟨gp_m,0,none⟩)) rfl rfl (fun w hs => (x_nilCheck (.tmp rfl rfl))) ?_
 refine t_st (k:=3) (v:=.pointer (some ⟨gp_m,0 + 4,none⟩)) rfl rfl (fun w hs => (fa81_2 (.tmp rfl rfl))) ?_
 refine t_st (k:=4) (v:=sv_m) rfl rfl (fun w hs => (ld40 (.tmp rfl rfl) (hs.cell 0 rfl (0 + 4) rfl))) ?_
 refine t_fr (k:=5) (v:=.pointer (some ⟨g29,0 + 9,none⟩)) rfl (fun w _ => (fa51_6 (.tmp rfl hρ60))) ?_
 refine t_st (k:=6) (v:=.slice A14 n15 c16) rfl rfl (fun w hs => (ld40 (.tmp rfl rfl) (hs.cell 1 rfl (0 + 9) rfl))) ?_
 obtain ⟨e79,b80,o81,cs82,hx83,hA84,hr85,hat86⟩:=hl17.get (i:=0) (by omega)
 obtain ⟨A92,n93,c94,rfl,b87,⟨b88,b89⟩,⟨b90,b91⟩,hl95⟩:=hr85
 have:=hl95.len; have:n93 * 32 ≤ 140737488351232:=hl95.bnd; have:=hl95.le
 have hat86x:∀ {w:World} {L:List Res},St H w L → At w ⟨b80,o81 + 0 * 4,none⟩ [.int .u64 ((e79.V.N:Nat):Int),.int .i64 e79.V.P,.int .i64 e79.Floor,.slice A92 n93 c94]:=fun h => hat86 h
 refine t_st (k:=7) (v:=.pointer (some ⟨b80,(o81 + 0 * 4),none⟩)) rfl rfl (fun w hs => (ixo40 (.tmp rfl rfl) hA84 (i:=0) .const (by omega) (by omega) (by omega))) ?_
 refine t_st (k:=8) (v:=.agg #[.int .u64 ((e79.V.N:Nat):Int),.int .i64 e79.V.P,.int .i64 e79.Floor,.slice A92 n93 c94]) rfl rfl (fun w hs => (ld37 (cs:=[.int .u64 ((e79.V.N:Nat):Int),.int .i64 e79.V.P,.int .i64 e79.Floor,.slice A92 n93 c94]) (.tmp rfl rfl) ((hat86x hs).sub 0 rfl) rfl)) ?_
 refine t_eff (k:=9) rfl ?_
 refine st_m (m_lit (n:=1) (ps:=[(0,.agg #[.int .u64 ((e79.V.N:Nat):Int),.int .i64 e79.V.P,.int .i64 e79.Floor,.slice A92 n93 c94])]) (cs:=[.int .u64 ((e79.V.N:Nat):Int),.int .i64 e79.V.P,.int .i64 e79.Floor,.slice A92 n93 c94]) Tryd.underlying40 inf37 (.cons (.tmp rfl rfl) Evp.nil) (by decide) (by decide) rfl rfl hs78) ?_
 rintro _ w97 ⟨g96,rfl,hs99⟩
 refine t_on (S':=fun u => St H u (obj g96 37 (clState e79 A92 n93 c94)::obj gp_m 81 [.int .u64 ((p_m.v.ID.N:Nat):Int),.int .i64 p_m.v.ID.P,.int .u16 ((p_m.v.Set:Nat):Int),.int .u16 (((wth p_m.who f.From):Nat):Int),sv_m,.bool p_m.done]::obj g29 51 (clFrame f A14 n15 c16 A19 n20 c21 A23 n24 c25)::obj g_m 78 ((.int .i64 ((m_n:Nat):Int))::(.int .i64 ((m_self:Nat):Int))::(.int .u64 ((m_cur.ID.N:Nat):Int))::(.int .i64 m_cur.ID.P)::(.int .u16 ((m_cur.Set:Nat):Int))::(.int .u64 ((m_prom.N:Nat):Int))::(.int .i64 m_prom.P)::(.int .u64 ((m_high:Nat):Int))::(.pointer (some ⟨gp_m,0,none⟩))::(.slice A_m jn_m jc_m)::oCells m_os)::row 37 4 sv_m p_m.states.length sc_m::L)) (fun u hu => hu.drop) hs99 ?_
 refine t_eff (k:=10) rfl ?_
 have hs100:=hs99.p4
 have hr108:kState.rep H e79 [.int .u64 ((e79.V.N:Nat):Int),.int .i64 e79.V.P,.int .i64 e79.Floor,.slice A92 n93 c94]:=⟨A92,n93,c94,rfl,b87,⟨b88,b89⟩,⟨b90,b91⟩,hl95⟩
 refine st_m (m_appK (d:=kState) (ys:=[e79]) (news:=[.int .u64 ((e79.V.N:Nat):Int),.int .i64 e79.V.P,.int .i64 e79.Floor,.slice A92 n93 c94]) Tryd.underlying40 inf37 rfl hs100 hk_m.ok hk_m.hk (.tmp rfl rfl) (.tmp rfl rfl) (Kn.rows_one hr108) rfl (hs100.at_ 1 rfl 0 rfl) (by have:([e79]:List GState).length = 1:=rfl; omega) (by decide)) ?_
 rintro v101 w102 ⟨cs103,ok104,hk105,hs106⟩
 have hn107:(p_m.states ++ [e79]).length = p_m.states.length + 1:=by simp
 refine t_new (S':=fun u => St H u (row 37 4 v101 ((p_m.states ++ [e79]).length) cs103::obj g96 37 (clState e79 A92 n93 c94)::obj gp_m 81 [.int .u64 ((p_m.v.ID.N:Nat):Int),.int .i64 p_m.v.ID.P,.int .u16 ((p_m.v.Set:Nat):Int),.int .u16 (((wth p_m.who f.From):Nat):Int),sv_m,.bool p_m.done]::obj g29 51 (clFrame f A14 n15 c16 A19 n20 c21 A23 n24 c25)::obj g_m 78 ((.int .i64 ((m_n:Nat):Int))::(.int .i64 ((m_self:Nat):Int))::(.int .u64 ((m_cur.ID.N:Nat):Int))::(.int .i64 m_cur.ID.P)::(.int .u16 ((m_cur.Set:Nat):Int))::(.int .u64 ((m_prom.N:Nat):Int))::(.int .i64 m_prom.P)::(.int .u64 ((m_high:Nat):Int))::(.pointer (some ⟨gp_m,0,none⟩))::(.slice A_m jn_m jc_m)::oCells m_os)::L)) rfl hs106 ?_
 refine t_st (k:=11) (v:=.pointer (some ⟨gp_m,0,none⟩)) rfl rfl (fun w hs => (x_nilCheck (.tmp rfl rfl))) ?_
 refine t_st (k:=12) (v:=.pointer (some ⟨gp_m,0 + 4,none⟩)) rfl rfl (fun w hs => (fa81_2 (.tmp rfl rfl))) ?_
 refine t_eff (k:=13) rfl ?_
 obtain ⟨A109,c110,rfl,hc111⟩:=ok104.slice
 have hs112:=hs106.p2
 refine st_m0 (sto40 (cs':=[.int .u64 ((p_m.v.ID.N:Nat):Int),.int .i64 p_m.v.ID.P,.int .u16 ((p_m.v.Set:Nat):Int),.int .u16 (((wth p_m.who f.From):Nat):Int),.slice A109 ((p_m.states ++ [e79]).length) c110,.bool p_m.done]) (i:=0 + 4) hs112 (v:=.slice A109 ((p_m.states ++ [e79]).length) c110) (.tmp rfl rfl) (.tmp rfl rfl) rfl (Nat.le_of_ble_eq_true rfl) one1 rfl) ?_
 rintro w113 hs115
 refine t_new (S':=fun u => St H u (obj gp_m 81 [.int .u64 ((p_m.v.ID.N:Nat):Int),.int .i64 p_m.v.ID.P,.int .u16 ((p_m.v.Set:Nat):Int),.int .u16 (((wth p_m.who f.From):Nat):Int),.slice A109 ((p_m.states ++ [e79]).length) c110,.bool p_m.done]::row 37 4 (.slice A109 ((p_m.states ++ [e79]).length) c110) ((p_m.states ++ [e79]).length) cs103::obj g96 37 (clState e79 A92 n93 c94)::obj g29 51 (clFrame f A14 n15 c16 A19 n20 c21 A23 n24 c25)::obj g_m 78 ((.int .i64 ((m_n:Nat):Int))::(.int .i64 ((m_self:Nat):Int))::(.int .u64 ((m_cur.ID.N:Nat):Int))::(.int .i64 m_cur.ID.P)::(.int .u16 ((m_cur.Set:Nat):Int))::(.int .u64 ((m_prom.N:Nat):Int))::(.int .i64 m_prom.P)::(.int .u64 ((m_high:Nat):Int))::(.pointer (some ⟨gp_m,0,none⟩))::(.slice A_m jn_m jc_m)::oCells m_os)::L)) rfl hs115 ?_
 refine t_nil ?_
 refine n_then (c_seq (c_region (st (v:=.pointer (some ⟨g_m,0,none⟩)) (x_move (.tmp rfl hρ59)) ?_)))
 have hs116:=hs115.p1
 have hs117:=hs116.p1
 have hs118:=hs117.p4
 have okm119:MemB H m_n m_self m_cur m_prom m_high A_m jn_m jc_m m_jl m_os:=⟨hn1_m,hn16_m,hsf_m,⟨ok_m.cur.n,ok_m.cur.p⟩,ok_m.set,⟨ok_m.prom.n,ok_m.prom.p⟩,ok_m.high,ok_m.joined,ok_m.len,ok_m.oth⟩
 have okp120:PropOk H (GProp.mk p_m.v (wth p_m.who f.From) (p_m.states ++ [e79]) p_m.done) (.slice A109 ((p_m.states ++ [e79]).length) c110) cs103:=⟨⟨hk_m.id.n,hk_m.id.p⟩,hk_m.set,(wth_lt hk_m.who f.From),ok104,hk105⟩
 refine st_c cb27 .func (evs1 (.tmp rfl rfl)) (agree_S hs118 (p_m:=(GProp.mk p_m.v (wth p_m.who f.From) (p_m.states ++ [e79]) p_m.done)) (m_n:=m_n) (m_self:=m_self) (m_cur:=m_cur) (m_prom:=m_prom) (m_high:=m_high) (m_jl:=m_jl) (m_os:=m_os) okm119 okp120 (by simp only [List.length_append,List.length_singleton]; omega) (app_floor1 hb (hbf _ (List.mem_of_getElem? hx83)))) ?_
 rintro e w121 ⟨H123,iv125,cz128,jz129,A130,jn131,jc132,pz134,sv135,sc136,hle124,rfl,hin126,okm127,hkp133,hme137,hs122⟩
 refine ⟨_,rfl,?_⟩
 refine st (v:=iv125) (x_assign (.tmp rfl rfl)) ?_
 refine c_nil (n_then (c_seq (c_seq (c_region (st (v:=iv125) (x_move (.tmp rfl rfl)) ?_)))))
 rcases InstAt.cases hin126 with ⟨hX141,rfl⟩ | ⟨yi138,gi139,ci140,hX141,rfl,hrd142,hrp143⟩
 refine st (v:=.bool true) (x_eqlP Tryd.underlying28 (.tmp rfl rfl) .const rfl) ?_
 refine c_nil (n_then (c_cond_t (t:=true) (.tmp rfl rfl) rfl ?_))
 refine c_seq (c_region (st (v:=.slice none 0 0) (x_assign .const) ?_))
 refine st (v:=.pointer none) (x_assign .const) ?_
 refine st (v:=.int .i64 0) (x_assign .const) ?_
 refine c_nil (n_then (c_ret (r_then (leave_ret (res_three (v:=.slice none 0 0) (u:=.pointer none) (x:=.int .i64 0) rfl (.mk rfl rfl) (.mk rfl rfl) (.mk rfl rfl)) ?_))))
 have hfs:f.States = [e79]:=one_of hx83 (by omega)
 have haok:=acc_ok (m:=(MB.mk m_n m_self m_cur m_prom m_high (some p_m) m_jl m_os)) (by omega) rfl hc64
 have hpq:(MB.accept (MB.mk m_n m_self m_cur m_prom m_high (some p_m) m_jl m_os) f) = _:=acc_wait haok hfs hX141 hme137
 rw [hpq]
 have hs145:=hs122.krowNil 53 kOut
 have okm147:MemB H123 m_n m_self cz128 m_prom m_high A130 jn131 jc132 jz129 m_os:=⟨hn1_m,hn16_m,hsf_m,⟨okm127.cur.n,okm127.cur.p⟩,okm127.set,⟨okm127.prom.n,okm127.prom.p⟩,okm127.high,okm127.joined,okm127.len,okm127.oth⟩
 have okp148:PropOk H123 pz134 sv135 sc136:=⟨⟨hkp133.id.n,hkp133.id.p⟩,hkp133.set,hkp133.who,hkp133.ok,hkp133.hk⟩
 exact ⟨H123,(.slice none 0 0),[],(.pointer none),cz128,jz129,A130,jn131,jc132,pz134,sv135,sc136,hle124,rfl,(RowOk.knil kOut),(Kn.rows_nil _ _),InstAt.none',okm147,okp148,rfl,((((((hs145.p4).drop.p4).drop.p3).p3).p3).p3)⟩
 obtain ⟨A153,n154,c155,rfl,b149,⟨b150,b151⟩,b152,hl156⟩:=hrp143
 have:=hl156.len; have:n154 * 48 ≤ 140737488351232:=hl156.bnd; have:=hl156.le
 have hat144:∀ {w:World} {L:List Res},St H123 w L → At w ⟨gi139,0,none⟩ [.int .u64 ((yi138.View.ID.N:Nat):Int),.int .i64 yi138.View.ID.P,.int .u16 ((yi138.View.Set:Nat):Int),.slice A153 n154 c155]:=fun h => hrd142.hat h
 refine st (v:=.bool false) (x_eqlP Tryd.underlying28 (.tmp rfl rfl) .const rfl) ?_
 refine c_nil (n_then (c_cond_f (t:=false) (.tmp rfl rfl) rfl ?_))
 refine c_skip (n_then (c_seq (c_region ?_)))
 have hagr:=agree_some hX141
 have hpz:some pz134 = _:=(congrArg MB.prop (hme137.trans hagr.1))
 have hpv:pz134.v = p_m.v:=by have h9:=Option.some.inj hpz; rw [h9]
 have hll:(lst (wto pz134.v.Set ((m_self:Nat):Int))).length ≤ 16:=lst_len16 _
 refine st (v:=.slice none 0 0) (x_assign .const) ?_
 refine c_nil (n_then (c_seq (c_seq (t_region (L:=obj g_m 78 ((.int .i64 ((m_n:Nat):Int))::(.int .i64 ((m_self:Nat):Int))::(.int .u64 ((cz128.ID.N:Nat):Int))::(.int .i64 cz128.ID.P)::(.int .u16 ((cz128.Set:Nat):Int))::(.int .u64 ((m_prom.N:Nat):Int))::(.int .i64 m_prom.P)::(.int .u64 ((m_high:Nat):Int))::(.pointer (some ⟨gp_m,0,none⟩))::(.slice A130 jn131 jc132)::oCells m_os)::obj gp_m 81 (clProp pz134 sv135)::row 37 4 sv135 pz134.states.length sc136::obj g96 37 (clState e79 A92 n93 c94)::obj g29 51 (clFrame f A14 n15 c16 A19 n20 c21 A23 n24 c25)::L) (L':=obj g_m 78 ((.int .i64 ((m_n:Nat):Int))::(.int .i64 ((m_self:Nat):Int))::(.int .u64 ((cz128.ID.N:Nat):Int))::(.int .i64 cz128.ID.P)::(.int .u16 ((cz128.Set:Nat):Int))::(.int .u64 ((m_prom.N:Nat):Int))::(.int .i64 m_prom.P)::(.int .u64 ((m_high:Nat):Int))::(.pointer (some ⟨gp_m,0,none⟩))::(.slice A130 jn131 jc132)::oCells m_os)::obj gp_m 81 (clProp pz134 sv135)::row 37 4 sv135 pz134.states.length sc136::obj g96 37 (clState e79 A92 n93 c94)::obj g29 51 (clFrame f A14 n15 c16 A19 n20 c21 A23 n24 c25)::L) (Z:=[9,10]) (F:=[0,1,5,12]) (pl:=(.q 0 (.q 1 (.q 2 (.q 3 (.q 4 (.q 5 (.q 6 (.q 7 (.q 8 (.q 12 (.e 9 (.e 10 (.q 11 .done)))))))))))))) mixed hs122 (fun u hu => hu) (by kernel_rfl) ?_))))
 intro w157 hs158
 refine t_fr (k:=0) (v:=.pointer (some ⟨gp_m,0,none⟩)) rfl (fun w _ => (x_move (.tmp rfl hρ61))) ?_
 refine t_fr (k:=1) (v:=.pointer (some ⟨gp_m,0,none⟩)) rfl (fun w _ => (x_nilCheck (.tmp rfl rfl))) ?_
 refine t_st (k:=2) (v:=.pointer (some ⟨gp_m,0 + 0,none⟩)) rfl rfl (fun w hs => (fa81_0 (.tmp rfl rfl))) ?_
 refine t_st (k:=3) (v:=.pointer (some ⟨gp_m,0 + 0 + 2,none⟩)) rfl rfl (fun w hs => (fa39_1 (.tmp rfl rfl))) ?_
 refine t_st (k:=4) (v:=.int .u16 ((pz134.v.Set:Nat):Int)) rfl rfl (fun w hs => (ld31 (.tmp rfl rfl) (hs.cell 1 rfl (0 + 0 + 2) rfl))) ?_
 refine t_fr (k:=5) (v:=.pointer (some ⟨g_m,0,none⟩)) rfl (fun w _ => (x_move (.tmp rfl hρ59))) ?_
 refine t_st (k:=6) (v:=.pointer (some ⟨g_m,0,none⟩)) rfl rfl (fun w hs => (x_nilCheck (.tmp rfl rfl))) ?_
 refine t_st (k:=7) (v:=.pointer (some ⟨g_m,0 + 1,none⟩)) rfl rfl (fun w hs => (fa78_1 (.tmp rfl rfl))) ?_
 refine t_st (k:=8) (v:=.int .i64 ((m_self:Nat):Int)) rfl rfl (fun w hs => (ld3 (.tmp rfl rfl) (hs.cell 0 rfl (0 + 1) rfl))) ?_
 refine t_fr (k:=12) (v:=.int .i64 0) rfl (fun w _ => (x_move .const)) ?_
 refine t_eff (k:=9) rfl ?_
 refine st_c cb40 .func (evs2 (.tmp rfl rfl) (.tmp rfl rfl)) (without_spec hs158 pz134.v.Set ((m_self:Nat):Int) hkp133.set (by omega)) ?_
 rintro e w159 ⟨rfl,hs160⟩
 refine ⟨_,rfl,?_⟩
 refine t_new (S':=fun u => St H123 u (obj g_m 78 ((.int .i64 ((m_n:Nat):Int))::(.int .i64 ((m_self:Nat):Int))::(.int .u64 ((cz128.ID.N:Nat):Int))::(.int .i64 cz128.ID.P)::(.int .u16 ((cz128.Set:Nat):Int))::(.int .u64 ((m_prom.N:Nat):Int))::(.int .i64 m_prom.P)::(.int .u64 ((m_high:Nat):Int))::(.pointer (some ⟨gp_m,0,none⟩))::(.slice A130 jn131 jc132)::oCells m_os)::obj gp_m 81 (clProp pz134 sv135)::row 37 4 sv135 pz134.states.length sc136::obj g96 37 (clState e79 A92 n93 c94)::obj g29 51 (clFrame f A14 n15 c16 A19 n20 c21 A23 n24 c25)::L)) rfl hs160 ?_
 refine t_eff (k:=10) rfl ?_
 refine st_c cb36 .func (evs1 (.tmp rfl rfl)) (list_spec hs160 (htab.mono hle124) (wto pz134.v.Set ((m_self:Nat):Int)) (wto_lt hkp133.set ((m_self:Nat):Int))) ?_
 rintro e w162 ⟨v161,rfl,ok163,hs164⟩
 refine ⟨_,rfl,?_⟩
 refine t_new (S':=fun u => St H123 u (row 3 1 v161 ((lst (wto pz134.v.Set ((m_self:Nat):Int))).length) ((lst (wto pz134.v.Set ((m_self:Nat):Int))).map encI)::obj g_m 78 ((.int .i64 ((m_n:Nat):Int))::(.int .i64 ((m_self:Nat):Int))::(.int .u64 ((cz128.ID.N:Nat):Int))::(.int .i64 cz128.ID.P)::(.int .u16 ((cz128.Set:Nat):Int))::(.int .u64 ((m_prom.N:Nat):Int))::(.int .i64 m_prom.P)::(.int .u64 ((m_high:Nat):Int))::(.pointer (some ⟨gp_m,0,none⟩))::(.slice A130 jn131 jc132)::oCells m_os)::obj gp_m 81 (clProp pz134 sv135)::row 37 4 sv135 pz134.states.length sc136::obj g96 37 (clState e79 A92 n93 c94)::obj g29 51 (clFrame f A14 n15 c16 A19 n20 c21 A23 n24 c25)::L)) rfl hs164 ?_
 obtain ⟨A166,c167,hv168,hc169⟩:=ok163.slice
 refine t_st (k:=11) (v:=.int .i64 (((lst (wto pz134.v.Set ((m_self:Nat):Int))).length:Nat):Int)) rfl rfl (fun w hs => (x_len (n:=(lst (wto pz134.v.Set ((m_self:Nat):Int))).length) Tryd.underlying71 (.tmp rfl hv168))) ?_
 refine t_nil ?_
 refine n_then (c_block ?_)
 have hs171:=hs164.krowNil 53 kOut
 have:([]:List GOut).length = 0:=rfl
 refine c_loop (fun ρ w mm => ∃ (out:List GOut) (v_out:Value) (c_out:List Value) (i:Nat),ρ 0 = .pointer (some ⟨g_m,0,none⟩)∧ρ 8 = .pointer (some ⟨gi139,0,none⟩)∧ρ 9 = v_out∧ρ 106 = v161∧ρ 107 = .int .i64 (((lst (wto pz134.v.Set ((m_self:Nat):Int))).length:Nat):Int)∧ρ 108 = .int .i64 ((i:Nat):Int)∧(RowOk kOut.sz v_out out.length c_out)∧(kOut.toKn.rows H123 out c_out)∧(i ≤ (lst (wto pz134.v.Set ((m_self:Nat):Int))).length)∧(out = ((lst (wto pz134.v.Set ((m_self:Nat):Int))).take i).map (MB.commit (MB.mk m_n m_self cz128 m_prom m_high (some pz134) jz129 m_os) pz134))∧(out.length ≤ i)∧St H123 w (row 53 16 v_out out.length c_out::row 3 1 v161 ((lst (wto pz134.v.Set ((m_self:Nat):Int))).length) ((lst (wto pz134.v.Set ((m_self:Nat):Int))).map encI)::obj g_m 78 ((.int .i64 ((m_n:Nat):Int))::(.int .i64 ((m_self:Nat):Int))::(.int .u64 ((cz128.ID.N:Nat):Int))::(.int .i64 cz128.ID.P)::(.int .u16 ((cz128.Set:Nat):Int))::(.int .u64 ((m_prom.N:Nat):Int))::(.int .i64 m_prom.P)::(.int .u64 ((m_high:Nat):Int))::(.pointer (some ⟨gp_m,0,none⟩))::(.slice A130 jn131 jc132)::oCells m_os)::obj gp_m 81 (clProp pz134 sv135)::row 37 4 sv135 pz134.states.length sc136::L)∧mm = (lst (wto pz134.v.Set ((m_self:Nat):Int))).length - i) _ ⟨([]:List GOut),(.slice none 0 0),[],0,hρ59,rfl,rfl,rfl,rfl,rfl,(RowOk.knil kOut),(Kn.rows_nil _ _),(by omega),rfl,(Nat.zero_le _),(((((((hs171.p5).drop.p5).drop.p4).p4).p4).p4).p4),rfl⟩ ?_
 rintro ρ w mm ⟨out,v_out,c_out,i,hρ173,hρ174,hρ175,hρ176,hρ177,hρ178,ok_out,hk_out,hi,hout,hol,hs179,rfl⟩
 refine c_seq (c_region (st (v:=.bool (decide ((((i:Nat):Int):Int) < (((lst (wto pz134.v.Set ((m_self:Nat):Int))).length:Nat):Int)))) (x_lss (k:=.i64) (a:=((i:Nat):Int)) (b:=(((lst (wto pz134.v.Set ((m_self:Nat):Int))).length:Nat):Int)) (.tmp rfl hρ178) (.tmp rfl hρ177)) ?_))
 refine c_nil (n_then (c_seq ?_))
 rcases Bool.eq_false_or_eq_true (decide ((((i:Nat):Int):Int) < (((lst (wto pz134.v.Set ((m_self:Nat):Int))).length:Nat):Int))) with hc180 | hc180
 have hp180:(((i:Nat):Int):Int) < (((lst (wto pz134.v.Set ((m_self:Nat):Int))).length:Nat):Int):=of_decide_eq_true hc180
 refine c_cond_t (t:=true) (.tmp rfl (cVb hc180)) rfl ?_
 refine c_skip (n_then (c_seq (c_block (c_seq (c_region ?_)))))
 obtain ⟨g181,c182,hv183⟩:=ok163.pos (by omega)
 refine st (v:=.pointer (some ⟨g181,(i),none⟩)) (ixo71 (.tmp rfl (hρ176.trans hv183)) rfl (i:=((i:Nat):Int)) (.tmp rfl hρ178) (by omega) (by omega) (by omega)) ?_
 obtain ⟨z184,hz185⟩:∃ x,(lst (wto pz134.v.Set ((m_self:Nat):Int)))[i]? = some x:=⟨_,List.getElem?_eq_getElem (by omega)⟩
 refine st (v:=.int .i64 ((z184:Nat):Int)) (ld3 (.tmp rfl rfl) (hs179.rowEnc (enc:=encI) 1 rfl hv183 i hz185)) ?_
 refine st (v:=.int .i64 ((z184:Nat):Int)) (x_assign (.tmp rfl rfl)) ?_
 refine c_nil (n_then (c_region ?_))
 have hz16:=lst_lt hz185
 refine st (v:=v_out) (x_move (.tmp rfl hρ175)) ?_
 refine st (v:=.pointer (some ⟨g_m,0,none⟩)) (x_move (.tmp rfl hρ173)) ?_
 refine st (v:=.int .i64 ((z184:Nat):Int)) (x_move (.tmp rfl rfl)) ?_
 have hs186:=hs179.p4
 have hs187:=hs186.p4
 have hs188:=hs187.p4
 have okm189:MemB H123 m_n m_self cz128 m_prom m_high A130 jn131 jc132 jz129 m_os:=⟨hn1_m,hn16_m,hsf_m,⟨okm127.cur.n,okm127.cur.p⟩,okm127.set,⟨okm127.prom.n,okm127.prom.p⟩,okm127.high,okm127.joined,okm127.len,okm127.oth⟩
 have okp190:PropOk H123 pz134 sv135 sc136:=⟨⟨hkp133.id.n,hkp133.id.p⟩,hkp133.set,hkp133.who,hkp133.ok,hkp133.hk⟩
 refine st_c cb39 .func (evs2 (.tmp rfl rfl) (.tmp rfl rfl)) (commit_S hs188 (p_m:=pz134) (m_n:=m_n) (m_self:=m_self) (m_cur:=cz128) (m_prom:=m_prom) (m_high:=m_high) (m_jl:=jz129) (m_os:=m_os) okm189 okp190 z184 (by omega)) ?_
 rintro e w191 ⟨cs193,rfl,hr194,hs192⟩
 obtain ⟨A210,n211,c212,A215,n216,c217,A219,n220,c221,rfl,⟨b195,b196⟩,b197,⟨b198,b199⟩,b200,⟨b201,b202⟩,b203,b204,⟨b205,b206⟩,b207,⟨b208,b209⟩,hl213,b214,hl218,hl222,b223,b224⟩:=hr194
 have:=hl213.len; have:n211 * 48 ≤ 140737488351232:=hl213.bnd; have:=hl213.le
 have:=hl218.len; have:n216 * 24 ≤ 140737488351232:=hl218.bnd; have:=hl218.le
 have:=hl222.len; have:n220 * 32 ≤ 140737488351232:=hl222.bnd; have:=hl222.le
 refine ⟨_,rfl,?_⟩
 refine st_m (m_lit (n:=1) (ps:=[(0,.agg #[.int .i64 ((MB.commit (MB.mk m_n m_self cz128 m_prom m_high (some pz134) jz129 m_os) pz134 z184).To),.int .u8 (((((MB.commit (MB.mk m_n m_self cz128 m_prom m_high (some pz134) jz129 m_os) pz134 z184).F).Kind):Nat):Int),.int .i64 (((MB.commit (MB.mk m_n m_self cz128 m_prom m_high (some pz134) jz129 m_os) pz134 z184).F).From),.int .u64 ((((((MB.commit (MB.mk m_n m_self cz128 m_prom m_high (some pz134) jz129 m_os) pz134 z184).F).ID).N):Nat):Int),.int .i64 ((((MB.commit (MB.mk m_n m_self cz128 m_prom m_high (some pz134) jz129 m_os) pz134 z184).F).ID).P),.int .u16 (((((MB.commit (MB.mk m_n m_self cz128 m_prom m_high (some pz134) jz129 m_os) pz134 z184).F).Set):Nat):Int),.int .u64 ((((((MB.commit (MB.mk m_n m_self cz128 m_prom m_high (some pz134) jz129 m_os) pz134 z184).F).Cur).N):Nat):Int),.int .i64 ((((MB.commit (MB.mk m_n m_self cz128 m_prom m_high (some pz134) jz129 m_os) pz134 z184).F).Cur).P),.int .u64 ((((((MB.commit (MB.mk m_n m_self cz128 m_prom m_high (some pz134) jz129 m_os) pz134 z184).F).Prom).N):Nat):Int),.int .i64 ((((MB.commit (MB.mk m_n m_self cz128 m_prom m_high (some pz134) jz129 m_os) pz134 z184).F).Prom).P),.slice A210 n211 c212,.int .u64 (((((MB.commit (MB.mk m_n m_self cz128 m_prom m_high (some pz134) jz129 m_os) pz134 z184).F).Base):Nat):Int),.slice A215 n216 c217,.slice A219 n220 c221,.int .u64 (((((MB.commit (MB.mk m_n m_self cz128 m_prom m_high (some pz134) jz129 m_os) pz134 z184).F).Ack):Nat):Int),.int .u64 (((((MB.commit (MB.mk m_n m_self cz128 m_prom m_high (some pz134) jz129 m_os) pz134 z184).F).Safe):Nat):Int)])]) (cs:=[.int .i64 ((MB.commit (MB.mk m_n m_self cz128 m_prom m_high (some pz134) jz129 m_os) pz134 z184).To),.int .u8 (((((MB.commit (MB.mk m_n m_self cz128 m_prom m_high (some pz134) jz129 m_os) pz134 z184).F).Kind):Nat):Int),.int .i64 (((MB.commit (MB.mk m_n m_self cz128 m_prom m_high (some pz134) jz129 m_os) pz134 z184).F).From),.int .u64 ((((((MB.commit (MB.mk m_n m_self cz128 m_prom m_high (some pz134) jz129 m_os) pz134 z184).F).ID).N):Nat):Int),.int .i64 ((((MB.commit (MB.mk m_n m_self cz128 m_prom m_high (some pz134) jz129 m_os) pz134 z184).F).ID).P),.int .u16 (((((MB.commit (MB.mk m_n m_self cz128 m_prom m_high (some pz134) jz129 m_os) pz134 z184).F).Set):Nat):Int),.int .u64 ((((((MB.commit (MB.mk m_n m_self cz128 m_prom m_high (some pz134) jz129 m_os) pz134 z184).F).Cur).N):Nat):Int),.int .i64 ((((MB.commit (MB.mk m_n m_self cz128 m_prom m_high (some pz134) jz129 m_os) pz134 z184).F).Cur).P),.int .u64 ((((((MB.commit (MB.mk m_n m_self cz128 m_prom m_high (some pz134) jz129 m_os) pz134 z184).F).Prom).N):Nat):Int),.int .i64 ((((MB.commit (MB.mk m_n m_self cz128 m_prom m_high (some pz134) jz129 m_os) pz134 z184).F).Prom).P),.slice A210 n211 c212,.int .u64 (((((MB.commit (MB.mk m_n m_self cz128 m_prom m_high (some pz134) jz129 m_os) pz134 z184).F).Base):Nat):Int),.slice A215 n216 c217,.slice A219 n220 c221,.int .u64 (((((MB.commit (MB.mk m_n m_self cz128 m_prom m_high (some pz134) jz129 m_os) pz134 z184).F).Ack):Nat):Int),.int .u64 (((((MB.commit (MB.mk m_n m_self cz128 m_prom m_high (some pz134) jz129 m_os) pz134 z184).F).Safe):Nat):Int)]) Tryd.underlying27 inf53 (.cons (.tmp rfl rfl) Evp.nil) (by decide) (by decide) rfl rfl hs192) ?_
 rintro _ w226 ⟨g225,rfl,hs228⟩
 have hs229:=hs228.p4
 have hr237:kOut.rep H123 (MB.commit (MB.mk m_n m_self cz128 m_prom m_high (some pz134) jz129 m_os) pz134 z184) [.int .i64 ((MB.commit (MB.mk m_n m_self cz128 m_prom m_high (some pz134) jz129 m_os) pz134 z184).To),.int .u8 (((((MB.commit (MB.mk m_n m_self cz128 m_prom m_high (some pz134) jz129 m_os) pz134 z184).F).Kind):Nat):Int),.int .i64 (((MB.commit (MB.mk m_n m_self cz128 m_prom m_high (some pz134) jz129 m_os) pz134 z184).F).From),.int .u64 ((((((MB.commit (MB.mk m_n m_self cz128 m_prom m_high (some pz134) jz129 m_os) pz134 z184).F).ID).N):Nat):Int),.int .i64 ((((MB.commit (MB.mk m_n m_self cz128 m_prom m_high (some pz134) jz129 m_os) pz134 z184).F).ID).P),.int .u16 (((((MB.commit (MB.mk m_n m_self cz128 m_prom m_high (some pz134) jz129 m_os) pz134 z184).F).Set):Nat):Int),.int .u64 ((((((MB.commit (MB.mk m_n m_self cz128 m_prom m_high (some pz134) jz129 m_os) pz134 z184).F).Cur).N):Nat):Int),.int .i64 ((((MB.commit (MB.mk m_n m_self cz128 m_prom m_high (some pz134) jz129 m_os) pz134 z184).F).Cur).P),.int .u64 ((((((MB.commit (MB.mk m_n m_self cz128 m_prom m_high (some pz134) jz129 m_os) pz134 z184).F).Prom).N):Nat):Int),.int .i64 ((((MB.commit (MB.mk m_n m_self cz128 m_prom m_high (some pz134) jz129 m_os) pz134 z184).F).Prom).P),.slice A210 n211 c212,.int .u64 (((((MB.commit (MB.mk m_n m_self cz128 m_prom m_high (some pz134) jz129 m_os) pz134 z184).F).Base):Nat):Int),.slice A215 n216 c217,.slice A219 n220 c221,.int .u64 (((((MB.commit (MB.mk m_n m_self cz128 m_prom m_high (some pz134) jz129 m_os) pz134 z184).F).Ack):Nat):Int),.int .u64 (((((MB.commit (MB.mk m_n m_self cz128 m_prom m_high (some pz134) jz129 m_os) pz134 z184).F).Safe):Nat):Int)]:=⟨A210,n211,c212,A215,n216,c217,A219,n220,c221,rfl,⟨b195,b196⟩,b197,⟨b198,b199⟩,b200,⟨b201,b202⟩,b203,b204,⟨b205,b206⟩,b207,⟨b208,b209⟩,hl213,b214,hl218,hl222,b223,b224⟩
 refine st_m (m_appK (d:=kOut) (ys:=[(MB.commit (MB.mk m_n m_self cz128 m_prom m_high (some pz134) jz129 m_os) pz134 z184)]) (news:=[.int .i64 ((MB.commit (MB.mk m_n m_self cz128 m_prom m_high (some pz134) jz129 m_os) pz134 z184).To),.int .u8 (((((MB.commit (MB.mk m_n m_self cz128 m_prom m_high (some pz134) jz129 m_os) pz134 z184).F).Kind):Nat):Int),.int .i64 (((MB.commit (MB.mk m_n m_self cz128 m_prom m_high (some pz134) jz129 m_os) pz134 z184).F).From),.int .u64 ((((((MB.commit (MB.mk m_n m_self cz128 m_prom m_high (some pz134) jz129 m_os) pz134 z184).F).ID).N):Nat):Int),.int .i64 ((((MB.commit (MB.mk m_n m_self cz128 m_prom m_high (some pz134) jz129 m_os) pz134 z184).F).ID).P),.int .u16 (((((MB.commit (MB.mk m_n m_self cz128 m_prom m_high (some pz134) jz129 m_os) pz134 z184).F).Set):Nat):Int),.int .u64 ((((((MB.commit (MB.mk m_n m_self cz128 m_prom m_high (some pz134) jz129 m_os) pz134 z184).F).Cur).N):Nat):Int),.int .i64 ((((MB.commit (MB.mk m_n m_self cz128 m_prom m_high (some pz134) jz129 m_os) pz134 z184).F).Cur).P),.int .u64 ((((((MB.commit (MB.mk m_n m_self cz128 m_prom m_high (some pz134) jz129 m_os) pz134 z184).F).Prom).N):Nat):Int),.int .i64 ((((MB.commit (MB.mk m_n m_self cz128 m_prom m_high (some pz134) jz129 m_os) pz134 z184).F).Prom).P),.slice A210 n211 c212,.int .u64 (((((MB.commit (MB.mk m_n m_self cz128 m_prom m_high (some pz134) jz129 m_os) pz134 z184).F).Base):Nat):Int),.slice A215 n216 c217,.slice A219 n220 c221,.int .u64 (((((MB.commit (MB.mk m_n m_self cz128 m_prom m_high (some pz134) jz129 m_os) pz134 z184).F).Ack):Nat):Int),.int .u64 (((((MB.commit (MB.mk m_n m_self cz128 m_prom m_high (some pz134) jz129 m_os) pz134 z184).F).Safe):Nat):Int)]) Tryd.underlying27 inf53 rfl hs229 ok_out hk_out (.tmp rfl rfl) (.tmp rfl rfl) (Kn.rows_one hr237) rfl (hs229.at_ 1 rfl 0 rfl) (by have:([(MB.commit (MB.mk m_n m_self cz128 m_prom m_high (some pz134) jz129 m_os) pz134 z184)]:List GOut).length = 1:=rfl; omega) (by decide)) ?_
 rintro v230 w231 ⟨cs232,ok233,hk234,hs235⟩
 have hn236:(out ++ [(MB.commit (MB.mk m_n m_self cz128 m_prom m_high (some pz134) jz129 m_os) pz134 z184)]).length = out.length + 1:=by simp
 refine st (v:=v230) (x_assign (.tmp rfl rfl)) ?_
 refine c_nil (n_block (n_then (c_region (st (v:=.int .i64 (((i + 1):Nat):Int)) (x_add (k:=.i64) (a:=((i:Nat):Int)) (b:=1) (.tmp rfl hρ178) .const ((w64 (by omega) (by omega)).trans (by omega))) ?_))))
 refine st (v:=.int .i64 (((i + 1):Nat):Int)) (x_move (.tmp rfl rfl)) ?_
 refine c_nil ?_
 refine n_then ⟨_,_,rfl,?_,(out ++ [(MB.commit (MB.mk m_n m_self cz128 m_prom m_high (some pz134) jz129 m_os) pz134 z184)]),v230,cs232,(i + 1),hρ173,hρ174,rfl,hρ176,hρ177,rfl,ok233,hk234,(by omega),(map_next hz185 hout),(by have h9:=hol; simp only [List.length_append,List.length_singleton]; omega),((((((hs235.p1).drop.p3).p3).p3).p4).p4),rfl⟩
 omega
 have hp180:¬ ((((i:Nat):Int):Int) < (((lst (wto pz134.v.Set ((m_self:Nat):Int))).length:Nat):Int)):=of_decide_eq_false hc180
 refine c_cond_f (t:=false) (.tmp rfl (cVb hc180)) rfl ?_
 refine c_exit (x_then (x_then (x_here (n_then (c_seq (c_region (st (v:=v_out) (x_move (.tmp rfl hρ175)) ?_)))))))
 refine st (v:=.pointer (some ⟨gi139,0,none⟩)) (x_move (.tmp rfl hρ174)) ?_
 refine st (v:=v_out) (x_assign (.tmp rfl rfl)) ?_
 refine st (v:=.pointer (some ⟨gi139,0,none⟩)) (x_assign (.tmp rfl rfl)) ?_
 refine st (v:=.int .i64 0) (x_assign .const) ?_
 refine c_nil (n_then (c_ret (leave_ret (res_three (v:=v_out) (u:=.pointer (some ⟨gi139,0,none⟩)) (x:=.int .i64 0) rfl (.mk rfl rfl) (.mk rfl rfl) (.mk rfl rfl)) ?_)))
 have hfs:f.States = [e79]:=one_of hx83 (by omega)
 have haok:=acc_ok (m:=(MB.mk m_n m_self m_cur m_prom m_high (some p_m) m_jl m_os)) (by omega) rfl hc64
 have hpq:(MB.accept (MB.mk m_n m_self m_cur m_prom m_high (some p_m) m_jl m_os) f) = _:=acc_done (out:=out) haok hfs hX141 hme137 hpv (by rw [hout,List.take_of_length_le (by omega)])
 rw [hpq]
 have okm238:MemB H123 m_n m_self cz128 m_prom m_high A130 jn131 jc132 jz129 m_os:=⟨hn1_m,hn16_m,hsf_m,⟨okm127.cur.n,okm127.cur.p⟩,okm127.set,⟨okm127.prom.n,okm127.prom.p⟩,okm127.high,okm127.joined,okm127.len,okm127.oth⟩
 have okp239:PropOk H123 pz134 sv135 sc136:=⟨⟨hkp133.id.n,hkp133.id.p⟩,hkp133.set,hkp133.who,hkp133.ok,hkp133.hk⟩
 exact ⟨H123,v_out,c_out,.pointer (some ⟨gi139,0,none⟩),cz128,jz129,A130,jn131,jc132,pz134,sv135,sc136,hle124,rfl,ok_out,hk_out,(InstAt.some_of rfl hrd142 ⟨A153,n154,c155,rfl,b149,⟨b150,b151⟩,b152,hl156⟩),okm238,okp239,rfl,(((((hs179.p1).drop.p3).p3).p3).p3)⟩
end Go.Proofs.YtcccaihjgoaehaaDoor
